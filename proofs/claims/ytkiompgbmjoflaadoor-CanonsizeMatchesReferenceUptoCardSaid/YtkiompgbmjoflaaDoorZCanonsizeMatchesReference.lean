/- This text proves that the law CanonsizeMatchesReference of the given program returns true on every input that its statement covers, as the statement says it. Its conditions are the statement's own. -/
import Derived.Test.YtkiompgbmjoflaaDoorBN2
import Derived.Test.YtkiompgbmjoflaaDoorBN3
import Derived.Deep.RegionHeld3
import Derived.Test.YtkiompgbmjoflaaDoorRows
import Derived.Test.YtkiompgbmjoflaaDoorCards
import Derived.Test.YtkiompgbmjoflaaDoorTie
import Derived.WalkKit
import Derived.ProofKit
import Derived.OpenShut
import Derived.ChangeOld
import Derived.SizedLaws
import Derived.SevenTiedAt
import Derived.Deep.DeepHandedRow
import Derived.Deep.DeepWitnessRowRef
set_option linter.unusedVariables false
set_option linter.unusedSimpArgs false
namespace Go.Proofs.YtkiompgbmjoflaaDoor.P
open Go.RowKit Go.Proofs.YtkiompgbmjoflaaDoorW.PrintWords Go.Proofs.YtkiompgbmjoflaaDoorW.PrintLast Go.Proofs.YtkiompgbmjoflaaDoorW.PrintMore
set_option maxHeartbeats 4000000 in
set_option maxRecDepth 100000 in
theorem CanonsizeMatchesReference_walk (n : Nd) (A3 : Option Addr) (c3 : Nat) (A4 : Option Addr) (c4 : Nat) (hb : Big n) (hg : good n) (w : World) (hr3 : Kd.C (Kd.int .u8) w A3 n.f3.length n.f3) (hc3 : n.f3.length ≤ c3) (hr4 : Kd.C k25 w A4 n.f4.length n.f4) (hc4 : n.f4.length ≤ c4) (hG : Glob true w) :
    Calls Tryd.prog 3 #[.agg #[.int .i64 n.f0, .int .i64 n.f1, .int .i64 n.f2, .slice A3 n.f3.length c3, .slice A4 n.f4.length c4]] w fun e w' => e = .returned (.bool true) ∧ Below w.heap.size w w' := by
  obtain ⟨kR, hR⟩ := (Right_has n hb hg).ex
  have HR := Aside0.mk hR
  have HBG := Aside0.mk hb
  have HC_d3 := Aside0.mk hr3
  have HC_d4 := Aside0.mk hr4
  have H3 := Aside0.mk hc3
  have H4 := Aside0.mk hc4
  clear hR hg hr3 hr4 hc3 hc4 hb
  have HG := Aside0.mk hG
  have HB := Aside0.mk (Below.refl w.heap.size w)
  clear hG
  go_enter Tryd.func3, Tryd.ntmps3
  go_wp2_with fail
  have GE_p : Aside0 (w.heap.size ≤ w.heap.size) := ⟨by have := HB.out.size; first | exact this | omega⟩
  refine (capnplaw13_awake.calls true _ (HG.out.below (by with_reducible repeat (first | exact HB.out | apply below_alloc | apply pw_below_drewN | apply below_drew1 | refine below_set ?_ GE_p.out))) rfl).mono ?_
  rintro e w1 ⟨rfl, hb⟩
  have nB := Aside0.mk (below_step (by with_reducible repeat (first | exact HB.out | apply below_alloc | apply pw_below_drewN | apply below_drew1 | refine below_set ?_ GE_p.out)) hb)
  have nX_p := Aside0.mk (blk_below (g := w.heap.size) (by with_reducible repeat (first | exact HX_p.out | (apply blk_newN; first | rfl | (simp; done)) | apply blk_alloc | apply blk_drewN | apply blk_drew)) hb)
  clear HB 
  have HB := nB
  clear nB
  have HX_p := nX_p
  clear nX_p
  have cs_p : ∀ i, w1.cell? ⟨w.heap.size, i, none⟩ = _ := fun i => blk_cell HX_p.out i
  have fr_p : ∀ i, w1.frozen? ⟨w.heap.size, i, none⟩ = false := fun i => blk_frozen HX_p.out i
  have lt_p := lt_of_block HX_p.out
  clear hb
  go_wp2_with fail
  refine (capnpref13_Right.calls kR n.f0 n.f1 n.f2 _ _ n.f3 _ _ n.f4 (right n) _ (Kd.C_below HC_d3.out (by with_reducible repeat (first | exact HB.out | apply below_alloc | apply pw_below_drewN | apply below_drew1 | refine below_set ?_ GE_p.out))) H3.out (Kd.C_below HC_d4.out (by with_reducible repeat (first | exact HB.out | apply below_alloc | apply pw_below_drewN | apply below_drew1 | refine below_set ?_ GE_p.out))) H4.out HR.out).mono ?_
  rintro e w2 ⟨rfl, hb⟩
  have nB := Aside0.mk (below_step (by with_reducible repeat (first | exact HB.out | apply below_alloc | apply pw_below_drewN | apply below_drew1 | refine below_set ?_ GE_p.out)) hb)
  have nX_p := Aside0.mk (blk_below (g := w.heap.size) (by with_reducible repeat (first | exact HX_p.out | (apply blk_newN; first | rfl | (simp; done)) | apply blk_alloc | apply blk_drewN | apply blk_drew)) hb)
  clear HB HX_p cs_p fr_p lt_p
  have HB := nB
  clear nB
  have HX_p := nX_p
  clear nX_p
  have cs_p : ∀ i, w2.cell? ⟨w.heap.size, i, none⟩ = _ := fun i => blk_cell HX_p.out i
  have fr_p : ∀ i, w2.frozen? ⟨w.heap.size, i, none⟩ = false := fun i => blk_frozen HX_p.out i
  have lt_p := lt_of_block HX_p.out
  clear hb
  cases hr : right n
  · go_wp2_with fail
    refine (capnplaw13_awake.calls true _ (HG.out.below (by with_reducible repeat (first | exact HB.out | apply below_alloc | apply pw_below_drewN | apply below_drew1 | refine below_set ?_ GE_p.out))) rfl).mono ?_
    rintro e w3 ⟨rfl, hb⟩
    have nB := Aside0.mk (below_step (by with_reducible repeat (first | exact HB.out | apply below_alloc | apply pw_below_drewN | apply below_drew1 | refine below_set ?_ GE_p.out)) hb)
    have nX_p := Aside0.mk (blk_below (g := w.heap.size) (by with_reducible repeat (first | exact HX_p.out | (apply blk_newN; first | rfl | (simp; done)) | apply blk_alloc | apply blk_drewN | apply blk_drew)) hb)
    clear HB HX_p cs_p fr_p lt_p
    have HB := nB
    clear nB
    have HX_p := nX_p
    clear nX_p
    have cs_p : ∀ i, w3.cell? ⟨w.heap.size, i, none⟩ = _ := fun i => blk_cell HX_p.out i
    have fr_p : ∀ i, w3.frozen? ⟨w.heap.size, i, none⟩ = false := fun i => blk_frozen HX_p.out i
    have lt_p := lt_of_block HX_p.out
    clear hb
    go_wp2
    go_ret
    refine ⟨by first | rfl | (simp; done), ?_⟩
    exact (by with_reducible repeat (first | exact HB.out | apply below_alloc | apply pw_below_drewN | apply below_drew1 | refine below_set ?_ GE_p.out))
  · have hv : vld n = true := by unfold right at hr; rw [Bool.and_eq_true, Bool.and_eq_true] at hr; exact hr.2.1
    obtain ⟨k1, h1⟩ := (Object_has HBG.out (vld_top hv)).ex
    obtain ⟨k2, h2⟩ := (rObject_has HBG.out (vld_top hv)).ex
    obtain ⟨k3, h3⟩ := (Node_has HBG.out hv).ex
    obtain ⟨k4, h4⟩ := (rNode_has n HBG.out hv).ex
    obtain ⟨k5, h5⟩ := (Total_has HBG.out hv).ex
    have hs := nsz_small HBG.out hv
    have K1 := Aside0.mk h1
    have K2 := Aside0.mk h2
    have K3 := Aside0.mk h3
    have K4 := Aside0.mk h4
    have K5 := Aside0.mk h5
    clear h1 h2 h3 h4 h5 hv hr
    have hw : IntKind.i64.wrap (nsz n + 1) = nsz n + 1 := by rw [IntKind.wrap_i64]; omega
    go_wp2_with fail
    go_region_held3 (fun w' => Below w.heap.size w w' ∧ w'.heap[w.heap.size]? = some (.cells #[.int .i64 n.f0, .int .i64 n.f1, .int .i64 n.f2, .slice A3 n.f3.length c3, .slice A4 n.f4.length c4] 25 (0, 0)) ∧ (∀ i, w'.cell? ⟨w.heap.size, i, none⟩ = (#[.int .i64 n.f0, .int .i64 n.f1, .int .i64 n.f2, .slice A3 n.f3.length c3, .slice A4 n.f4.length c4] : Array Value)[i]?)) (first | exact ⟨HB.out.drew, HX_p.out, cs_p⟩ | exact ⟨HB.out, HX_p.out, cs_p⟩) (first | (go_at_call 10; refine (canonsize_Object.calls k1 n.f0 n.f1 n.f2 _ _ n.f3 _ _ n.f4 _ _ (HG.out.below (by with_reducible repeat (first | exact HB.out | apply below_alloc | apply pw_below_drewN | apply below_drew1 | refine below_set ?_ GE_p.out))) (Kd.C_below HC_d3.out (by with_reducible repeat (first | exact HB.out | apply below_alloc | apply pw_below_drewN | apply below_drew1 | refine below_set ?_ GE_p.out))) H3.out (Kd.C_below HC_d4.out (by with_reducible repeat (first | exact HB.out | apply below_alloc | apply pw_below_drewN | apply below_drew1 | refine below_set ?_ GE_p.out))) H4.out K1.out).mono ?_; rintro e w9 ⟨rfl, hb⟩; (have nB := Aside0.mk (below_step (by with_reducible repeat (first | exact HB.out | apply below_alloc | apply pw_below_drewN | apply below_drew1 | refine below_set ?_ GE_p.out)) hb)); (have nX_p := Aside0.mk (blk_below (g := w.heap.size) (by with_reducible repeat (first | exact HX_p.out | (apply blk_newN; first | rfl | (simp; done)) | apply blk_alloc | apply blk_drewN | apply blk_drew)) hb)); clear HB HX_p cs_p fr_p lt_p; (have HB := nB); clear nB; (have HX_p := nX_p); clear nX_p; (have cs_p : ∀ i, w9.cell? ⟨w.heap.size, i, none⟩ = _ := fun i => blk_cell HX_p.out i); (have fr_p : ∀ i, w9.frozen? ⟨w.heap.size, i, none⟩ = false := fun i => blk_frozen HX_p.out i); (have lt_p := lt_of_block HX_p.out); clear hb) | (go_at_call 11; refine (capnpref13_Object.calls k2 n.f0 n.f1 n.f2 _ _ n.f3 _ _ n.f4 _ _ (Kd.C_below HC_d3.out (by with_reducible repeat (first | exact HB.out | apply below_alloc | apply pw_below_drewN | apply below_drew1 | refine below_set ?_ GE_p.out))) H3.out (Kd.C_below HC_d4.out (by with_reducible repeat (first | exact HB.out | apply below_alloc | apply pw_below_drewN | apply below_drew1 | refine below_set ?_ GE_p.out))) H4.out K2.out).mono ?_; rintro e w9 ⟨rfl, hb⟩; (have nB := Aside0.mk (below_step (by with_reducible repeat (first | exact HB.out | apply below_alloc | apply pw_below_drewN | apply below_drew1 | refine below_set ?_ GE_p.out)) hb)); (have nX_p := Aside0.mk (blk_below (g := w.heap.size) (by with_reducible repeat (first | exact HX_p.out | (apply blk_newN; first | rfl | (simp; done)) | apply blk_alloc | apply blk_drewN | apply blk_drew)) hb)); clear HB HX_p cs_p fr_p lt_p; (have HB := nB); clear nB; (have HX_p := nX_p); clear nX_p; (have cs_p : ∀ i, w9.cell? ⟨w.heap.size, i, none⟩ = _ := fun i => blk_cell HX_p.out i); (have fr_p : ∀ i, w9.frozen? ⟨w.heap.size, i, none⟩ = false := fun i => blk_frozen HX_p.out i); (have lt_p := lt_of_block HX_p.out); clear hb) | (go_at_call 12; refine (canonsize_Node.calls k3 n.f0 n.f1 n.f2 _ _ n.f3 _ _ n.f4 _ _ (HG.out.below (by with_reducible repeat (first | exact HB.out | apply below_alloc | apply pw_below_drewN | apply below_drew1 | refine below_set ?_ GE_p.out))) (Kd.C_below HC_d3.out (by with_reducible repeat (first | exact HB.out | apply below_alloc | apply pw_below_drewN | apply below_drew1 | refine below_set ?_ GE_p.out))) H3.out (Kd.C_below HC_d4.out (by with_reducible repeat (first | exact HB.out | apply below_alloc | apply pw_below_drewN | apply below_drew1 | refine below_set ?_ GE_p.out))) H4.out K3.out).mono ?_; rintro e w9 ⟨rfl, hb⟩; (have nB := Aside0.mk (below_step (by with_reducible repeat (first | exact HB.out | apply below_alloc | apply pw_below_drewN | apply below_drew1 | refine below_set ?_ GE_p.out)) hb)); (have nX_p := Aside0.mk (blk_below (g := w.heap.size) (by with_reducible repeat (first | exact HX_p.out | (apply blk_newN; first | rfl | (simp; done)) | apply blk_alloc | apply blk_drewN | apply blk_drew)) hb)); clear HB HX_p cs_p fr_p lt_p; (have HB := nB); clear nB; (have HX_p := nX_p); clear nX_p; (have cs_p : ∀ i, w9.cell? ⟨w.heap.size, i, none⟩ = _ := fun i => blk_cell HX_p.out i); (have fr_p : ∀ i, w9.frozen? ⟨w.heap.size, i, none⟩ = false := fun i => blk_frozen HX_p.out i); (have lt_p := lt_of_block HX_p.out); clear hb) | (go_at_call 13; refine (capnpref13_Node.calls k4 n.f0 n.f1 n.f2 _ _ n.f3 _ _ n.f4 _ _ (Kd.C_below HC_d3.out (by with_reducible repeat (first | exact HB.out | apply below_alloc | apply pw_below_drewN | apply below_drew1 | refine below_set ?_ GE_p.out))) H3.out (Kd.C_below HC_d4.out (by with_reducible repeat (first | exact HB.out | apply below_alloc | apply pw_below_drewN | apply below_drew1 | refine below_set ?_ GE_p.out))) H4.out K4.out).mono ?_; rintro e w9 ⟨rfl, hb⟩; (have nB := Aside0.mk (below_step (by with_reducible repeat (first | exact HB.out | apply below_alloc | apply pw_below_drewN | apply below_drew1 | refine below_set ?_ GE_p.out)) hb)); (have nX_p := Aside0.mk (blk_below (g := w.heap.size) (by with_reducible repeat (first | exact HX_p.out | (apply blk_newN; first | rfl | (simp; done)) | apply blk_alloc | apply blk_drewN | apply blk_drew)) hb)); clear HB HX_p cs_p fr_p lt_p; (have HB := nB); clear nB; (have HX_p := nX_p); clear nX_p; (have cs_p : ∀ i, w9.cell? ⟨w.heap.size, i, none⟩ = _ := fun i => blk_cell HX_p.out i); (have fr_p : ∀ i, w9.frozen? ⟨w.heap.size, i, none⟩ = false := fun i => blk_frozen HX_p.out i); (have lt_p := lt_of_block HX_p.out); clear hb) | (go_at_call 14; refine (canonsize_Total.calls k5 n.f0 n.f1 n.f2 _ _ n.f3 _ _ n.f4 _ _ (HG.out.below (by with_reducible repeat (first | exact HB.out | apply below_alloc | apply pw_below_drewN | apply below_drew1 | refine below_set ?_ GE_p.out))) (Kd.C_below HC_d3.out (by with_reducible repeat (first | exact HB.out | apply below_alloc | apply pw_below_drewN | apply below_drew1 | refine below_set ?_ GE_p.out))) H3.out (Kd.C_below HC_d4.out (by with_reducible repeat (first | exact HB.out | apply below_alloc | apply pw_below_drewN | apply below_drew1 | refine below_set ?_ GE_p.out))) H4.out K5.out).mono ?_; rintro e w9 ⟨rfl, hb⟩; (have nB := Aside0.mk (below_step (by with_reducible repeat (first | exact HB.out | apply below_alloc | apply pw_below_drewN | apply below_drew1 | refine below_set ?_ GE_p.out)) hb)); (have nX_p := Aside0.mk (blk_below (g := w.heap.size) (by with_reducible repeat (first | exact HX_p.out | (apply blk_newN; first | rfl | (simp; done)) | apply blk_alloc | apply blk_drewN | apply blk_drew)) hb)); clear HB HX_p cs_p fr_p lt_p; (have HB := nB); clear nB; (have HX_p := nX_p); clear nX_p; (have cs_p : ∀ i, w9.cell? ⟨w.heap.size, i, none⟩ = _ := fun i => blk_cell HX_p.out i); (have fr_p : ∀ i, w9.frozen? ⟨w.heap.size, i, none⟩ = false := fun i => blk_frozen HX_p.out i); (have lt_p := lt_of_block HX_p.out); clear hb))
    go_wp2
    go_ret
    refine ⟨by first | rfl | (simp; done), ?_⟩
    exact (by with_reducible repeat (first | exact HB.out | apply below_alloc | apply pw_below_drewN | apply below_drew1 | refine below_set ?_ GE_p.out))
end Go.Proofs.YtkiompgbmjoflaaDoor.P

namespace Go.Proofs.YtkiompgbmjoflaaDoor.canonsizeMatchesReference
open Go.ChangeShapes Go.WideShapes Go.ChangeAt Go.RowKit Go.Proofs.YtkiompgbmjoflaaDoor.P Go.Proofs.YtkiompgbmjoflaaDoorW.PrintWords
open Go.ChangeMaps (open_string shut_string)
open Go.Proofs.YtkiompgbmjoflaaDoor.P
set_option linter.unusedVariables false
theorem own : ownKnob Tryd.prog.godebug = none := by kernel_rfl
theorem laidOut : laidOutB Tryd.prog = true := by kernel_rfl
theorem door_met (os : Os) (args : Array Value) : laidMetH Tryd.prog Rows.canonsizeMatchesReferenceUptoRow.laid ((World.doorLaid Tryd.prog 600 os).forCall (fun _ _ => 0) ⟨#[], args, []⟩).memory :=
  laidMetH_of_parts3 (fuel := 8) (laidMet_of_run' 8 (by kernel_rfl) (by kernel_rfl)) (by kernel_rfl) (by kernel_rfl)
set_option maxRecDepth 100000 in
set_option maxHeartbeats 1000000 in
theorem reads (os : Os) {H : Type} (enc : TypeId × Value → H) : DataW.whole enc Tryd.prog ((World.doorLaid Tryd.prog 600 os).forCall (fun _ _ => 0) ⟨#[], #[.agg #[.int .i64 0, .int .i64 0, .int .i64 0, .slice none 0 0, .slice none 0 0]], []⟩).memory Tryd.f3.params.toList Rows.canonsizeMatchesReferenceSpec.vars false (#[.agg #[.int .i64 0, .int .i64 0, .int .i64 0, .slice none 0 0, .slice none 0 0]] : Array Value).toList 8 = some ([.agg [.lit (.int .i64 0), .lit (.int .i64 0), .lit (.int .i64 0), .nil, .nil]], [], []) := by kernel_rfl
set_option maxRecDepth 100000 in
set_option maxHeartbeats 1000000 in
theorem lifted (os : Os) (started : os.Started) (H : Type) (enc : TypeId × Value → H) (F : Stop.Interp) :
    ReturnsInHanded {} Tryd.checked os 3 .any ((Rows.OpenSpec.upto Rows.canonsizeMatchesReferenceSpec).preRow enc Tryd.prog Tryd.f3 Rows.canonsizeMatchesReferenceUptoRow.domain false Rows.canonsizeMatchesReferenceUptoRow.laid) (((Rows.OpenSpec.upto Rows.canonsizeMatchesReferenceSpec).at F).post enc Tryd.prog Tryd.f3 false true false false) := by
  refine returnsInHanded_of_row (C := Tryd.checked) (s := (Rows.OpenSpec.upto Rows.canonsizeMatchesReferenceSpec)) own started (by kernel_rfl) Tryd.func3
    (witness_row_atRef (enc := enc) (C := Tryd.checked) false (World.doorLaid Tryd.prog 600 os) #[.agg #[.int .i64 0, .int .i64 0, .int .i64 0, .slice none 0 0, .slice none 0 0]] rfl (by kernel_rfl) (by kernel_rfl) (by kernel_rfl)
      (OpenSpec.preRow_of_cond 8 (reads os enc) (by kernel_rfl) (fun k hk => by cases hk; kernel_rfl) (by kernel_rfl) (door_met os _))) ?_
  intro W base args ds gs before hval0 hW _ hcond _ hL _ _
  have hval : ∀ (j : Nat) t v, Tryd.f3.params[j]? = some t → args[j]? = some v → Value.okWide Tryd.prog W .any base t v := hval0
  have hW' := hW
  obtain ⟨p, q, hA0, hV, rfl, hfz, hnd⟩ := hW
  have hA : DataW.TrodAll enc Tryd.prog W 0 (fun _ => true) true Tryd.f3.params.toList args.toList ds p := hA0
  rw [Tryd.params3] at hA hval
  obtain ⟨v0, vs0, d0, ds0, p0, q0, hargs, rfl, rfl, h0, r0⟩ := trodAll_cons hA
  obtain ⟨rfl, rfl, rfl⟩ := trodAll_nil r0
  obtain rfl : args = #[v0] := by cases args; simp_all
  obtain ⟨rfl, rfl⟩ := trodVars_none hV
  have k0 := h0
  have lt0 : ∀ x ∈ p0, x.block < W.heap.size := by obtain ⟨m, hm⟩ := k0; exact DataW.trod_lt m _ _ _ hm
  obtain ⟨u0, rfl, sz0⟩ := okWide_struct Tryd.underlying25 (hval 0 25 v0 rfl rfl)
  obtain ⟨u0⟩ := u0
  obtain ⟨fuel0, hf0⟩ := h0
  obtain ⟨n0, hK0, hD0⟩ := Node.opens enc W fuel0 _ _ hf0
  obtain ⟨A0_3, c0_3, A0_4, c0_4, hcs0, hl0_3, hr0_3, hl0_4, hr0_4⟩ := k25_open hK0
  obtain rfl : u0 = _ := hcs0
  have hG : Glob true W := ⟨fun _ => bits_of_laid hL rfl⟩
  have hbulk := of_decide_eq_true (hcond _ rfl)
  simp only [List.append_nil, Rows.uptoBulkAll] at hbulk
  refine (CanonsizeMatchesReference_walk n0 _ _ _ _ (show tsz n0 ≤ 1048576 by have h_ : tsz n0 ≤ Rows.uptoBulk d0 := hD0.1; omega) hD0.2 W hr0_3 hl0_3 hr0_4 hl0_4 hG).mono fun e W' ⟨he, bel⟩ => ?_
  subst he
  exact ⟨_, rfl, _, _, _, [], _, [], hW', trodAll_mk1 (shut_bool Tryd.underlying4 _), (trodAll_cons_mk (Below.trod laidOut (by kernel_rfl) (of_decide_eq_true (by kernel_rfl)) k0 bel lt0) trodAll_mk0), rfl, bel.frame _, fun h => by cases h⟩
theorem over : Rows.canonsizeMatchesReferenceUptoRow.holds Tryd.pinned (Rows.OpenSpec.upto Rows.canonsizeMatchesReferenceSpec) :=
  OpenClaim.holds_of_cond 3 Tryd.f3 rfl rfl rfl rfl rfl rfl rfl ⟨rfl, rfl, rfl, rfl, rfl⟩ rfl rfl rfl rfl rfl (by kernel_rfl) Tryd.func3 (by kernel_rfl)
    (of_decide_eq_true (by kernel_rfl)) (by unfold Func.isWrapper; first | (rw [if_pos (by decide +kernel)]; kernel_rfl) | (rw [if_neg (by decide +kernel)]; exact ⟨rfl, rfl⟩))
    (fun os started H enc _ F => by rw [OpenClaim.pre_eq_preRow]; exact lifted os started H enc F)
theorem card_holds : Rows.CanonsizeMatchesReferenceUptoCardSaid :=
  Claim7.holds_tied_plain_at .later [] [.data] true (true, "21dfaa1fd6afe672d91862e975811425167d0747745aa3fb4b9766fc17991a3a") false
    over (fun _ h => by cases h) (by kernel_rfl) (fun _ h => by cases h) canonsizeMatchesReferenceUpto_row_tie rfl ⟨rfl, rfl⟩ (by kernel_rfl) rfl
    (fun f fn hf hfn => by
      obtain rfl : f = 3 := Option.some.inj ((show Tryd.prog.funcNamed "capnp/capnplaw13.CanonsizeMatchesReference" = some 3 by kernel_rfl).symm.trans hf) |>.symm
      obtain rfl : fn = Tryd.f3 := (Option.some.inj (Tryd.func3.symm.trans hfn)).symm
      exact ⟨by kernel_rfl, fun j t ht => by
        rw [Tryd.params3] at ht
        have hm : t ∈ [25] := by simpa using Array.mem_of_getElem? ht
        have hall : ([25].all fun u => !Tryd.prog.wantsStandIn u) = true := by kernel_rfl
        exact (show Tryd.prog.wantsStandIn t = false by simpa using List.all_eq_true.1 hall t hm)⟩)
    (by kernel_rfl)
#print axioms card_holds
end Go.Proofs.YtkiompgbmjoflaaDoor.canonsizeMatchesReference
namespace Go.Proofs.YtkiompgbmjoflaaDoor
theorem canonsizeMatchesReference_holds : Go.Proofs.YtkiompgbmjoflaaDoor.Rows.CanonsizeMatchesReferenceUptoCardSaid := canonsizeMatchesReference.card_holds
end Go.Proofs.YtkiompgbmjoflaaDoor
