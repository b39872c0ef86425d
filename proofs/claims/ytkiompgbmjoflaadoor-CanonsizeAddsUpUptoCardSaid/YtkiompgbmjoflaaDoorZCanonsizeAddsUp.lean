/- This text proves that the law CanonsizeAddsUp of the given program returns true on every input that its statement covers, as the statement says it. Its conditions are the statement's own. -/
import Derived.Test.YtkiompgbmjoflaaDoorBN2
import Derived.Test.YtkiompgbmjoflaaDoorBN3
import Derived.Deep.RegionHeld3
import Derived.Test.YtkiompgbmjoflaaDoorRows
import Derived.Test.YtkiompgbmjoflaaDoorCards
import Derived.Test.YtkiompgbmjoflaaDoorTie
import Derived.WalkKit
import Derived.ProofKit
import Derived.OpenShut
import Derived.ChangeOld
import Derived.SizedLaws
import Derived.SevenTiedAt
import Derived.Deep.DeepHandedRow
import Derived.Deep.DeepWitnessRowRef
set_option linter.unusedVariables false
namespace Go.Proofs.YtkiompgbmjoflaaDoor.P
open Go.RowKit Go.Proofs.YtkiompgbmjoflaaDoorW.PrintWords Go.Proofs.YtkiompgbmjoflaaDoorW.PrintLast Go.Proofs.YtkiompgbmjoflaaDoorW.PrintMore
section
variable {α : Type} {d : Kd α} {W : World} {A : Option Addr} {n : Nat} {xs : List α}
/-- What is read, as what may be shared. -/
theorem V_of_C (hd : Kd.Heap d) {c : Nat} (hl : xs.length ≤ c) (hC : d.C W A xs.length xs) (e base : Nat) (ok : Nat → Prop) (hok : ∀ k, k < W.heap.size → ok k) : Kd.V d e W base ok (.slice A xs.length c) xs :=
  ⟨A, c, rfl, hl, fun W' hW => Kd.Heap.C hd (fun k hk => hW k (hok k hk) hk) hC⟩
/-- What was there at the begin, as what stays if that stays. -/
theorem F_of_base {w : World} (hd : Kd.Heap d) (hC : d.C w A n xs) (hb : Below w.heap.size w W) : Kd.F d W (fun b => b < w.heap.size) A n xs :=
  fun W' hW => Kd.Heap.C hd (fun k hk => (hW k hk (Nat.lt_of_lt_of_le hk hb.size)).trans (hb.block k hk)) hC
theorem V_read {e base : Nat} {ok : Nat → Prop} {v : Value} (h : Kd.V d e W base ok v xs) : ∃ A c, v = .slice A xs.length c ∧ xs.length ≤ c ∧ d.C W A xs.length xs := by
  obtain ⟨A, c, hv, hl, hF⟩ := h
  exact ⟨A, c, hv, hl, hF W (fun _ _ _ => rfl)⟩
end
end Go.Proofs.YtkiompgbmjoflaaDoor.P

set_option linter.unusedVariables false
set_option linter.unusedSimpArgs false
namespace Go.Proofs.YtkiompgbmjoflaaDoor.P
open Go.RowKit Go.Proofs.YtkiompgbmjoflaaDoorW.PrintWords Go.Proofs.YtkiompgbmjoflaaDoorW.PrintLast Go.Proofs.YtkiompgbmjoflaaDoorW.PrintMore
theorem right_parts {n : Nd} (h : right n = true) : tsz n ≤ 3000 ∧ vld n = true := by
  unfold right few at h
  rw [Bool.and_eq_true, Bool.and_eq_true, decide_eq_true_iff] at h
  exact ⟨h.1.1, h.2.1⟩
theorem pair_big {a b : Nd} (ha : tsz a ≤ 3000) (hb : tsz b ≤ 3000) : Big ⟨2, 6, 2, [], [a, b]⟩ := by
  unfold Big
  rw [tsz, tszs, tszs, tszs, List.length_nil]
  omega
theorem pair_vld {a b : Nd} (ha : vld a = true) (hb : vld b = true) : vld ⟨2, 6, 2, [], [a, b]⟩ = true := by
  rw [vld, vlds_cons, vlds_cons, vlds, ha, hb]
  simp [vtop]
theorem pair_nsz (a b : Nd) : nsz ⟨2, 6, 2, [], [a, b]⟩ = 2 + nsz a + nsz b := by
  rw [nsz, nszs, nszs, nszs]
  simp [obj, nwords, ebits]
  omega
theorem pair_obj (a b : Nd) : obj ⟨2, 6, 2, [], [a, b]⟩ = 2 := by simp [obj, nwords, ebits]
set_option maxHeartbeats 4000000 in
set_option maxRecDepth 100000 in
theorem CanonsizeAddsUp_walk (n : Nd) (A3 : Option Addr) (c3 : Nat) (A4 : Option Addr) (c4 : Nat) (hb : Big n) (hg : good n) (m : Nd) (B3 : Option Addr) (d3 : Nat) (B4 : Option Addr) (d4 : Nat) (hbm : Big m) (hgm : good m) (w : World) (hr3 : Kd.C (Kd.int .u8) w A3 n.f3.length n.f3) (hc3 : n.f3.length ≤ c3) (hr4 : Kd.C k25 w A4 n.f4.length n.f4) (hc4 : n.f4.length ≤ c4)
    (hrm3 : Kd.C (Kd.int .u8) w B3 m.f3.length m.f3) (hd3 : m.f3.length ≤ d3) (hrm4 : Kd.C k25 w B4 m.f4.length m.f4) (hd4 : m.f4.length ≤ d4) (hG : Glob true w) :
    Calls Tryd.prog 4 #[.agg #[.int .i64 n.f0, .int .i64 n.f1, .int .i64 n.f2, .slice A3 n.f3.length c3, .slice A4 n.f4.length c4], .agg #[.int .i64 m.f0, .int .i64 m.f1, .int .i64 m.f2, .slice B3 m.f3.length d3, .slice B4 m.f4.length d4]] w fun e w' => e = .returned (.bool true) ∧ Below w.heap.size w w' := by
  obtain ⟨kR, hR⟩ := (Right_has n hb hg).ex
  obtain ⟨kS, hS⟩ := (Right_has m hbm hgm).ex
  have HR := Aside0.mk hR
  have HS := Aside0.mk hS
  have HBG := Aside0.mk hb
  have HBM := Aside0.mk hbm
  have HC_n3 := Aside0.mk hr3
  have HC_n4 := Aside0.mk hr4
  have HC_m3 := Aside0.mk hrm3
  have HC_m4 := Aside0.mk hrm4
  have H3 := Aside0.mk hc3
  have H4 := Aside0.mk hc4
  have G3 := Aside0.mk hd3
  have G4 := Aside0.mk hd4
  clear hR hS hg hgm hr3 hr4 hc3 hc4 hb hbm hrm3 hrm4 hd3 hd4
  have HG := Aside0.mk hG
  have HB := Aside0.mk (Below.refl w.heap.size w)
  clear hG
  go_enter Tryd.func4, Tryd.ntmps4
  go_wp2_with fail
  have GE_p : Aside0 (w.heap.size ≤ w.heap.size) := ⟨by have := HB.out.size; first | exact this | omega⟩
  have GE_q : Aside0 (w.heap.size ≤ w.heap.size + 1) := ⟨by have := HB.out.size; first | exact this | omega⟩
  refine (capnplaw13_awake.calls true _ (HG.out.below (by with_reducible repeat (first | exact HB.out | apply below_alloc | apply pw_below_drewN | apply below_drew1 | refine below_set ?_ GE_p.out | refine below_set ?_ GE_q.out))) rfl).mono ?_
  rintro e w1 ⟨rfl, hb⟩
  have nB := Aside0.mk (below_step (by with_reducible repeat (first | exact HB.out | apply below_alloc | apply pw_below_drewN | apply below_drew1 | refine below_set ?_ GE_p.out | refine below_set ?_ GE_q.out)) hb)
  have nX_p := Aside0.mk (blk_below (g := w.heap.size) (by with_reducible repeat (first | exact HX_p.out | (apply blk_newN; first | rfl | (simp; done)) | apply blk_alloc | apply blk_drewN | apply blk_drew | apply blk_far (hp := NE_p_q.out))) hb)
  have nX_q := Aside0.mk (blk_below (g := w.heap.size + 1) (by with_reducible repeat (first | exact HX_q.out | (apply blk_newN; first | rfl | (simp; done)) | apply blk_alloc | apply blk_drewN | apply blk_drew | apply blk_far (hp := NE_q_p.out))) hb)
  clear HB 
  have HB := nB
  clear nB
  have HX_p := nX_p
  clear nX_p
  have cs_p : ∀ i, w1.cell? ⟨w.heap.size, i, none⟩ = _ := fun i => blk_cell HX_p.out i
  have fr_p : ∀ i, w1.frozen? ⟨w.heap.size, i, none⟩ = false := fun i => blk_frozen HX_p.out i
  have lt_p := lt_of_block HX_p.out
  have HX_q := nX_q
  clear nX_q
  have cs_q : ∀ i, w1.cell? ⟨w.heap.size + 1, i, none⟩ = _ := fun i => blk_cell HX_q.out i
  have fr_q : ∀ i, w1.frozen? ⟨w.heap.size + 1, i, none⟩ = false := fun i => blk_frozen HX_q.out i
  have lt_q := lt_of_block HX_q.out
  clear hb
  go_wp2_with fail
  refine (capnpref13_Right.calls kR n.f0 n.f1 n.f2 _ _ n.f3 _ _ n.f4 (right n) _ (Kd.C_below HC_n3.out (by with_reducible repeat (first | exact HB.out | apply below_alloc | apply pw_below_drewN | apply below_drew1 | refine below_set ?_ GE_p.out | refine below_set ?_ GE_q.out))) H3.out (Kd.C_below HC_n4.out (by with_reducible repeat (first | exact HB.out | apply below_alloc | apply pw_below_drewN | apply below_drew1 | refine below_set ?_ GE_p.out | refine below_set ?_ GE_q.out))) H4.out HR.out).mono ?_
  rintro e w2 ⟨rfl, hb⟩
  have nB := Aside0.mk (below_step (by with_reducible repeat (first | exact HB.out | apply below_alloc | apply pw_below_drewN | apply below_drew1 | refine below_set ?_ GE_p.out | refine below_set ?_ GE_q.out)) hb)
  have nX_p := Aside0.mk (blk_below (g := w.heap.size) (by with_reducible repeat (first | exact HX_p.out | (apply blk_newN; first | rfl | (simp; done)) | apply blk_alloc | apply blk_drewN | apply blk_drew | apply blk_far (hp := NE_p_q.out))) hb)
  have nX_q := Aside0.mk (blk_below (g := w.heap.size + 1) (by with_reducible repeat (first | exact HX_q.out | (apply blk_newN; first | rfl | (simp; done)) | apply blk_alloc | apply blk_drewN | apply blk_drew | apply blk_far (hp := NE_q_p.out))) hb)
  clear HB HX_p cs_p fr_p lt_p HX_q cs_q fr_q lt_q
  have HB := nB
  clear nB
  have HX_p := nX_p
  clear nX_p
  have cs_p : ∀ i, w2.cell? ⟨w.heap.size, i, none⟩ = _ := fun i => blk_cell HX_p.out i
  have fr_p : ∀ i, w2.frozen? ⟨w.heap.size, i, none⟩ = false := fun i => blk_frozen HX_p.out i
  have lt_p := lt_of_block HX_p.out
  have HX_q := nX_q
  clear nX_q
  have cs_q : ∀ i, w2.cell? ⟨w.heap.size + 1, i, none⟩ = _ := fun i => blk_cell HX_q.out i
  have fr_q : ∀ i, w2.frozen? ⟨w.heap.size + 1, i, none⟩ = false := fun i => blk_frozen HX_q.out i
  have lt_q := lt_of_block HX_q.out
  clear hb
  cases hr : right n
  · go_wp2_with fail
    refine (capnplaw13_awake.calls true _ (HG.out.below (by with_reducible repeat (first | exact HB.out | apply below_alloc | apply pw_below_drewN | apply below_drew1 | refine below_set ?_ GE_p.out | refine below_set ?_ GE_q.out))) rfl).mono ?_
    rintro e w3 ⟨rfl, hb⟩
    have nB := Aside0.mk (below_step (by with_reducible repeat (first | exact HB.out | apply below_alloc | apply pw_below_drewN | apply below_drew1 | refine below_set ?_ GE_p.out | refine below_set ?_ GE_q.out)) hb)
    have nX_p := Aside0.mk (blk_below (g := w.heap.size) (by with_reducible repeat (first | exact HX_p.out | (apply blk_newN; first | rfl | (simp; done)) | apply blk_alloc | apply blk_drewN | apply blk_drew | apply blk_far (hp := NE_p_q.out))) hb)
    have nX_q := Aside0.mk (blk_below (g := w.heap.size + 1) (by with_reducible repeat (first | exact HX_q.out | (apply blk_newN; first | rfl | (simp; done)) | apply blk_alloc | apply blk_drewN | apply blk_drew | apply blk_far (hp := NE_q_p.out))) hb)
    clear HB HX_p cs_p fr_p lt_p HX_q cs_q fr_q lt_q
    have HB := nB
    clear nB
    have HX_p := nX_p
    clear nX_p
    have cs_p : ∀ i, w3.cell? ⟨w.heap.size, i, none⟩ = _ := fun i => blk_cell HX_p.out i
    have fr_p : ∀ i, w3.frozen? ⟨w.heap.size, i, none⟩ = false := fun i => blk_frozen HX_p.out i
    have lt_p := lt_of_block HX_p.out
    have HX_q := nX_q
    clear nX_q
    have cs_q : ∀ i, w3.cell? ⟨w.heap.size + 1, i, none⟩ = _ := fun i => blk_cell HX_q.out i
    have fr_q : ∀ i, w3.frozen? ⟨w.heap.size + 1, i, none⟩ = false := fun i => blk_frozen HX_q.out i
    have lt_q := lt_of_block HX_q.out
    clear hb
    go_wp2
    go_ret
    refine ⟨by first | rfl | (simp; done), ?_⟩
    exact (by with_reducible repeat (first | exact HB.out | apply below_alloc | apply pw_below_drewN | apply below_drew1 | refine below_set ?_ GE_p.out | refine below_set ?_ GE_q.out))
  · go_wp2_with fail
    refine (capnpref13_Right.calls kS m.f0 m.f1 m.f2 _ _ m.f3 _ _ m.f4 (right m) _ (Kd.C_below HC_m3.out (by with_reducible repeat (first | exact HB.out | apply below_alloc | apply pw_below_drewN | apply below_drew1 | refine below_set ?_ GE_p.out | refine below_set ?_ GE_q.out))) G3.out (Kd.C_below HC_m4.out (by with_reducible repeat (first | exact HB.out | apply below_alloc | apply pw_below_drewN | apply below_drew1 | refine below_set ?_ GE_p.out | refine below_set ?_ GE_q.out))) G4.out HS.out).mono ?_
    rintro e w3 ⟨rfl, hb⟩
    have nB := Aside0.mk (below_step (by with_reducible repeat (first | exact HB.out | apply below_alloc | apply pw_below_drewN | apply below_drew1 | refine below_set ?_ GE_p.out | refine below_set ?_ GE_q.out)) hb)
    have nX_p := Aside0.mk (blk_below (g := w.heap.size) (by with_reducible repeat (first | exact HX_p.out | (apply blk_newN; first | rfl | (simp; done)) | apply blk_alloc | apply blk_drewN | apply blk_drew | apply blk_far (hp := NE_p_q.out))) hb)
    have nX_q := Aside0.mk (blk_below (g := w.heap.size + 1) (by with_reducible repeat (first | exact HX_q.out | (apply blk_newN; first | rfl | (simp; done)) | apply blk_alloc | apply blk_drewN | apply blk_drew | apply blk_far (hp := NE_q_p.out))) hb)
    clear HB HX_p cs_p fr_p lt_p HX_q cs_q fr_q lt_q
    have HB := nB
    clear nB
    have HX_p := nX_p
    clear nX_p
    have cs_p : ∀ i, w3.cell? ⟨w.heap.size, i, none⟩ = _ := fun i => blk_cell HX_p.out i
    have fr_p : ∀ i, w3.frozen? ⟨w.heap.size, i, none⟩ = false := fun i => blk_frozen HX_p.out i
    have lt_p := lt_of_block HX_p.out
    have HX_q := nX_q
    clear nX_q
    have cs_q : ∀ i, w3.cell? ⟨w.heap.size + 1, i, none⟩ = _ := fun i => blk_cell HX_q.out i
    have fr_q : ∀ i, w3.frozen? ⟨w.heap.size + 1, i, none⟩ = false := fun i => blk_frozen HX_q.out i
    have lt_q := lt_of_block HX_q.out
    clear hb
    cases hs : right m
    · go_wp2_with fail
      refine (capnplaw13_awake.calls true _ (HG.out.below (by with_reducible repeat (first | exact HB.out | apply below_alloc | apply pw_below_drewN | apply below_drew1 | refine below_set ?_ GE_p.out | refine below_set ?_ GE_q.out))) rfl).mono ?_
      rintro e w4 ⟨rfl, hb⟩
      have nB := Aside0.mk (below_step (by with_reducible repeat (first | exact HB.out | apply below_alloc | apply pw_below_drewN | apply below_drew1 | refine below_set ?_ GE_p.out | refine below_set ?_ GE_q.out)) hb)
      have nX_p := Aside0.mk (blk_below (g := w.heap.size) (by with_reducible repeat (first | exact HX_p.out | (apply blk_newN; first | rfl | (simp; done)) | apply blk_alloc | apply blk_drewN | apply blk_drew | apply blk_far (hp := NE_p_q.out))) hb)
      have nX_q := Aside0.mk (blk_below (g := w.heap.size + 1) (by with_reducible repeat (first | exact HX_q.out | (apply blk_newN; first | rfl | (simp; done)) | apply blk_alloc | apply blk_drewN | apply blk_drew | apply blk_far (hp := NE_q_p.out))) hb)
      clear HB HX_p cs_p fr_p lt_p HX_q cs_q fr_q lt_q
      have HB := nB
      clear nB
      have HX_p := nX_p
      clear nX_p
      have cs_p : ∀ i, w4.cell? ⟨w.heap.size, i, none⟩ = _ := fun i => blk_cell HX_p.out i
      have fr_p : ∀ i, w4.frozen? ⟨w.heap.size, i, none⟩ = false := fun i => blk_frozen HX_p.out i
      have lt_p := lt_of_block HX_p.out
      have HX_q := nX_q
      clear nX_q
      have cs_q : ∀ i, w4.cell? ⟨w.heap.size + 1, i, none⟩ = _ := fun i => blk_cell HX_q.out i
      have fr_q : ∀ i, w4.frozen? ⟨w.heap.size + 1, i, none⟩ = false := fun i => blk_frozen HX_q.out i
      have lt_q := lt_of_block HX_q.out
      clear hb
      go_wp2
      go_ret
      refine ⟨by first | rfl | (simp; done), ?_⟩
      exact (by with_reducible repeat (first | exact HB.out | apply below_alloc | apply pw_below_drewN | apply below_drew1 | refine below_set ?_ GE_p.out | refine below_set ?_ GE_q.out))
    · obtain ⟨hn1, hn2⟩ := right_parts hr
      obtain ⟨hm1, hm2⟩ := right_parts hs
      have NN := Aside0.mk hn2
      have MM := Aside0.mk hm2
      have LB := Aside0.mk (pair_big hn1 hm1)
      have LV := Aside0.mk (pair_vld hn2 hm2)
      obtain ⟨k1, h1⟩ := (Object_has HBG.out (vld_top hn2)).ex
      obtain ⟨k2, h2⟩ := (Targets_has HBG.out).ex
      have K1 := Aside0.mk h1
      have K2 := Aside0.mk h2
      clear h1 h2 hn2 hm2 hr hs
      go_wp2_with fail
      refine (canonsize_Object.calls k1 n.f0 n.f1 n.f2 _ _ n.f3 _ _ n.f4 _ _ (HG.out.below (by with_reducible repeat (first | exact HB.out | apply below_alloc | apply pw_below_drewN | apply below_drew1 | refine below_set ?_ GE_p.out | refine below_set ?_ GE_q.out))) (Kd.C_below HC_n3.out (by with_reducible repeat (first | exact HB.out | apply below_alloc | apply pw_below_drewN | apply below_drew1 | refine below_set ?_ GE_p.out | refine below_set ?_ GE_q.out))) H3.out (Kd.C_below HC_n4.out (by with_reducible repeat (first | exact HB.out | apply below_alloc | apply pw_below_drewN | apply below_drew1 | refine below_set ?_ GE_p.out | refine below_set ?_ GE_q.out))) H4.out K1.out).mono ?_
      rintro e w4 ⟨rfl, hb⟩
      have nB := Aside0.mk (below_step (by with_reducible repeat (first | exact HB.out | apply below_alloc | apply pw_below_drewN | apply below_drew1 | refine below_set ?_ GE_p.out | refine below_set ?_ GE_q.out)) hb)
      have nX_p := Aside0.mk (blk_below (g := w.heap.size) (by with_reducible repeat (first | exact HX_p.out | (apply blk_newN; first | rfl | (simp; done)) | apply blk_alloc | apply blk_drewN | apply blk_drew | apply blk_far (hp := NE_p_q.out))) hb)
      have nX_q := Aside0.mk (blk_below (g := w.heap.size + 1) (by with_reducible repeat (first | exact HX_q.out | (apply blk_newN; first | rfl | (simp; done)) | apply blk_alloc | apply blk_drewN | apply blk_drew | apply blk_far (hp := NE_q_p.out))) hb)
      clear HB HX_p cs_p fr_p lt_p HX_q cs_q fr_q lt_q
      have HB := nB
      clear nB
      have HX_p := nX_p
      clear nX_p
      have cs_p : ∀ i, w4.cell? ⟨w.heap.size, i, none⟩ = _ := fun i => blk_cell HX_p.out i
      have fr_p : ∀ i, w4.frozen? ⟨w.heap.size, i, none⟩ = false := fun i => blk_frozen HX_p.out i
      have lt_p := lt_of_block HX_p.out
      have HX_q := nX_q
      clear nX_q
      have cs_q : ∀ i, w4.cell? ⟨w.heap.size + 1, i, none⟩ = _ := fun i => blk_cell HX_q.out i
      have fr_q : ∀ i, w4.frozen? ⟨w.heap.size + 1, i, none⟩ = false := fun i => blk_frozen HX_q.out i
      have lt_q := lt_of_block HX_q.out
      clear hb
      go_wp2_with fail
      refine (capnpref10_Targets.calls k2 n.f0 n.f1 n.f2 _ _ n.f3 (fun k => k < w4.heap.size) _ _ n.f4 _ _ (Kd.C_below HC_n3.out (by with_reducible repeat (first | exact HB.out | apply below_alloc | apply pw_below_drewN | apply below_drew1 | refine below_set ?_ GE_p.out | refine below_set ?_ GE_q.out))) H3.out (V_of_C k25_heap H4.out (Kd.C_below HC_n4.out (by with_reducible repeat (first | exact HB.out | apply below_alloc | apply pw_below_drewN | apply below_drew1 | refine below_set ?_ GE_p.out | refine below_set ?_ GE_q.out))) _ _ _ (fun _ h => h)) K2.out).mono ?_
      rintro e w5 ⟨vt, rfl, hV, hb⟩
      have nB := Aside0.mk (below_step (by with_reducible repeat (first | exact HB.out | apply below_alloc | apply pw_below_drewN | apply below_drew1 | refine below_set ?_ GE_p.out | refine below_set ?_ GE_q.out)) hb)
      have nX_p := Aside0.mk (blk_below (g := w.heap.size) (by with_reducible repeat (first | exact HX_p.out | (apply blk_newN; first | rfl | (simp; done)) | apply blk_alloc | apply blk_drewN | apply blk_drew | apply blk_far (hp := NE_p_q.out))) hb)
      have nX_q := Aside0.mk (blk_below (g := w.heap.size + 1) (by with_reducible repeat (first | exact HX_q.out | (apply blk_newN; first | rfl | (simp; done)) | apply blk_alloc | apply blk_drewN | apply blk_drew | apply blk_far (hp := NE_q_p.out))) hb)
      clear HB HX_p cs_p fr_p lt_p HX_q cs_q fr_q lt_q
      have HB := nB
      clear nB
      have HX_p := nX_p
      clear nX_p
      have cs_p : ∀ i, w5.cell? ⟨w.heap.size, i, none⟩ = _ := fun i => blk_cell HX_p.out i
      have fr_p : ∀ i, w5.frozen? ⟨w.heap.size, i, none⟩ = false := fun i => blk_frozen HX_p.out i
      have lt_p := lt_of_block HX_p.out
      have HX_q := nX_q
      clear nX_q
      have cs_q : ∀ i, w5.cell? ⟨w.heap.size + 1, i, none⟩ = _ := fun i => blk_cell HX_q.out i
      have fr_q : ∀ i, w5.frozen? ⟨w.heap.size + 1, i, none⟩ = false := fun i => blk_frozen HX_q.out i
      have lt_q := lt_of_block HX_q.out
      clear hb
      obtain ⟨AT, cT, rfl, hcT, hCT⟩ := V_read hV
      have HC_t := Aside0.mk hCT
      have HTC := Aside0.mk hcT
      clear hV hCT hcT
      have hlen : (tgt n).length ≤ 1048576 := by have h1 := len_tszs (tgt n); have h2 := tszs_tgt n; have h3 := HBG.out; unfold Big at h3; omega
      have ho := obj_range HBG.out (vld_top NN.out)
      have hsum := Aside0.mk (nsz_tgt (vld_top NN.out))
      have hsm : 0 ≤ nsz n ∧ nsz n ≤ 13194139533312000 := by have := nsz_range n HBG.out NN.out; omega
      have hmm : 0 ≤ nsz m ∧ nsz m ≤ 13194139533312000 := by have := nsz_range m HBM.out MM.out; omega
      go_wp2_with fail
      go_loopw [5, 7] (fun s i wr => ∃ (j : Nat) (S : Int), j ≤ (tgt n).length ∧ i = .int .i64 j ∧ s = .int .i64 S ∧ Aside0 (S + nszs ((tgt n).drop j) = nsz n ∧ 0 ≤ S) ∧ Aside0 (Below w.heap.size w wr) ∧ Aside0 (wr.heap[w.heap.size]? = some (.cells #[.int .i64 n.f0, .int .i64 n.f1, .int .i64 n.f2, .slice A3 n.f3.length c3, .slice A4 n.f4.length c4] 25 (0, 0))) ∧ Aside0 (wr.heap[w.heap.size + 1]? = some (.cells #[.int .i64 m.f0, .int .i64 m.f1, .int .i64 m.f2, .slice B3 m.f3.length d3, .slice B4 m.f4.length d4] 25 (0, 0))) ∧ Aside0 (Kd.C k25 wr AT (tgt n).length (tgt n))) (fun _ i _ => (tgt n).length - (intOf i).toNat)
      case atStart => exact ⟨0, obj n, by omega, rfl, rfl, ⟨by rw [List.drop_zero, hsum.out], ho.1⟩, ⟨(by with_reducible repeat (first | exact HB.out | apply below_alloc | apply pw_below_drewN | apply below_drew1 | refine below_set ?_ GE_p.out | refine below_set ?_ GE_q.out))⟩, ⟨(by with_reducible repeat (first | exact HX_p.out | (apply blk_newN; first | rfl | (simp; done)) | apply blk_alloc | apply blk_drewN | apply blk_drew | apply blk_far (hp := NE_p_q.out)))⟩, ⟨(by with_reducible repeat (first | exact HX_q.out | (apply blk_newN; first | rfl | (simp; done)) | apply blk_alloc | apply blk_drewN | apply blk_drew | apply blk_far (hp := NE_q_p.out)))⟩, ⟨(by repeat (first | (with_reducible first | exact HC_t.out | apply C_alloc | apply C_drewN | apply C_drew) | exact HC_t.out))⟩⟩
      case round =>
        clear HB HX_p cs_p fr_p lt_p HX_q cs_q fr_q lt_q HC_t
        obtain ⟨j, S, hj, rfl, rfl, HS, HB, HX_p, HX_q, HC_t⟩ := hrel
        have cs_p : ∀ i, wr.cell? ⟨w.heap.size, i, none⟩ = _ := fun i => blk_cell HX_p.out i
        have fr_p : ∀ i, wr.frozen? ⟨w.heap.size, i, none⟩ = false := fun i => blk_frozen HX_p.out i
        have lt_p := lt_of_block HX_p.out
        have cs_q : ∀ i, wr.cell? ⟨w.heap.size + 1, i, none⟩ = _ := fun i => blk_cell HX_q.out i
        have fr_q : ∀ i, wr.frozen? ⟨w.heap.size + 1, i, none⟩ = false := fun i => blk_frozen HX_q.out i
        have lt_q := lt_of_block HX_q.out
        by_cases hlt : j < (tgt n).length
        · have hm := List.getElem_mem hlt
          obtain ⟨vx, tx⟩ := tgt_mem NN.out hm
          have bx : Big (tgt n)[j] := by have := HBG.out; unfold Big at *; omega
          obtain ⟨kx, hkx⟩ := (Node_has bx vx).ex
          have HKX := Aside0.mk hkx
          have hpos : 0 ≤ nszs ((tgt n).drop (j + 1)) := (nszs_range fun y hy => by
            obtain ⟨v1, t1⟩ := tgt_mem NN.out (List.mem_of_mem_drop hy)
            exact nsz_range y (by have := HBG.out; unfold Big at *; omega) v1).1
          have hxs := nsz_small bx vx
          have hS := HS.out
          rw [List.drop_eq_getElem_cons hlt, nszs_cons] at hS
          have hS1 : 0 ≤ S + nsz (tgt n)[j] ∧ S + nsz (tgt n)[j] ≤ 4611686018427387904 := by omega
          have HS2 : Aside0 (S + nsz (tgt n)[j] + nszs ((tgt n).drop (j + 1)) = nsz n ∧ 0 ≤ S + nsz (tgt n)[j]) := ⟨by omega⟩
          clear hkx hS HS vx tx bx hm hpos
          obtain ⟨ad, E3, e3, E4, e4, rfl, x0, x1, x2, x3, x4, hl3, hi3, hl4, hi4⟩ := at_T25 HC_t.out j (by omega) (by omega)
          rw [Int.toNat_natCast] at x0 x1 x2 x3 x4
          rw [rd_T25_at hlt] at x0 x1 x2 x3 x4 hl3 hi3 hl4 hi4
          have HC_i3 := Aside0.mk hi3
          have HC_i4 := Aside0.mk hi4
          have L3 := Aside0.mk hl3
          have L4 := Aside0.mk hl4
          clear hi3 hi4 hl3 hl4
          go_wp2_with fail
          refine (canonsize_Node.calls kx (tgt n)[j].f0 (tgt n)[j].f1 (tgt n)[j].f2 _ _ (tgt n)[j].f3 _ _ (tgt n)[j].f4 _ _ (HG.out.below (by with_reducible repeat (first | exact HB.out | apply below_alloc | apply pw_below_drewN | apply below_drew1 | refine below_set ?_ GE_p.out | refine below_set ?_ GE_q.out))) (by repeat (first | (with_reducible first | exact HC_i3.out | apply C_alloc | apply C_drewN | apply C_drew) | exact HC_i3.out)) L3.out (by repeat (first | (with_reducible first | exact HC_i4.out | apply C_alloc | apply C_drewN | apply C_drew) | exact HC_i4.out)) L4.out HKX.out).mono ?_
          rintro e w6 ⟨rfl, hb⟩
          have nB := Aside0.mk (below_step (by with_reducible repeat (first | exact HB.out | apply below_alloc | apply pw_below_drewN | apply below_drew1 | refine below_set ?_ GE_p.out | refine below_set ?_ GE_q.out)) hb)
          have nX_p := Aside0.mk (blk_below (g := w.heap.size) (by with_reducible repeat (first | exact HX_p.out | (apply blk_newN; first | rfl | (simp; done)) | apply blk_alloc | apply blk_drewN | apply blk_drew | apply blk_far (hp := NE_p_q.out))) hb)
          have nX_q := Aside0.mk (blk_below (g := w.heap.size + 1) (by with_reducible repeat (first | exact HX_q.out | (apply blk_newN; first | rfl | (simp; done)) | apply blk_alloc | apply blk_drewN | apply blk_drew | apply blk_far (hp := NE_q_p.out))) hb)
          have nC_t := Aside0.mk (Kd.C_below (by repeat (first | (with_reducible first | exact HC_t.out | apply C_alloc | apply C_drewN | apply C_drew) | exact HC_t.out)) hb)
          have nC_i3 := Aside0.mk (Kd.C_below (by repeat (first | (with_reducible first | exact HC_i3.out | apply C_alloc | apply C_drewN | apply C_drew) | exact HC_i3.out)) hb)
          have nC_i4 := Aside0.mk (Kd.C_below (by repeat (first | (with_reducible first | exact HC_i4.out | apply C_alloc | apply C_drewN | apply C_drew) | exact HC_i4.out)) hb)
          clear HB HC_t HC_i3 HC_i4 HX_p cs_p fr_p lt_p HX_q cs_q fr_q lt_q
          have HB := nB
          clear nB
          have HC_t := nC_t
          clear nC_t
          have HC_i3 := nC_i3
          clear nC_i3
          have HC_i4 := nC_i4
          clear nC_i4
          have HX_p := nX_p
          clear nX_p
          have cs_p : ∀ i, w6.cell? ⟨w.heap.size, i, none⟩ = _ := fun i => blk_cell HX_p.out i
          have fr_p : ∀ i, w6.frozen? ⟨w.heap.size, i, none⟩ = false := fun i => blk_frozen HX_p.out i
          have lt_p := lt_of_block HX_p.out
          have HX_q := nX_q
          clear nX_q
          have cs_q : ∀ i, w6.cell? ⟨w.heap.size + 1, i, none⟩ = _ := fun i => blk_cell HX_q.out i
          have fr_q : ∀ i, w6.frozen? ⟨w.heap.size + 1, i, none⟩ = false := fun i => blk_frozen HX_q.out i
          have lt_q := lt_of_block HX_q.out
          clear hb
          clear HC_i3
          clear HC_i4
          clear x0 x1 x2 x3 x4
          go_wp2_with fail
          go_roundw
          case rel => exact ⟨j + 1, S + nsz (tgt n)[j], by omega, by go_num, by go_num, HS2, ⟨(by with_reducible repeat (first | exact HB.out | apply below_alloc | apply pw_below_drewN | apply below_drew1 | refine below_set ?_ GE_p.out | refine below_set ?_ GE_q.out))⟩, ⟨(by with_reducible repeat (first | exact HX_p.out | (apply blk_newN; first | rfl | (simp; done)) | apply blk_alloc | apply blk_drewN | apply blk_drew | apply blk_far (hp := NE_p_q.out)))⟩, ⟨(by with_reducible repeat (first | exact HX_q.out | (apply blk_newN; first | rfl | (simp; done)) | apply blk_alloc | apply blk_drewN | apply blk_drew | apply blk_far (hp := NE_q_p.out)))⟩, ⟨(by repeat (first | (with_reducible first | exact HC_t.out | apply C_alloc | apply C_drewN | apply C_drew) | exact HC_t.out))⟩⟩
          case measure => simp [intOf]; omega
        · obtain rfl : j = (tgt n).length := by omega
          have hS := HS.out
          rw [List.drop_length, nszs, Int.add_zero] at hS
          obtain ⟨rfl, _⟩ := hS
          clear HS
          go_wp2_with fail
          have hw1 : IntKind.i64.wrap (2 + nsz n) = 2 + nsz n := by rw [IntKind.wrap_i64]; omega
          have hw2 : IntKind.i64.wrap (2 + nsz n + nsz m) = 2 + nsz n + nsz m := by rw [IntKind.wrap_i64]; omega
          have hb9 : Below wr.heap.size wr ((wr.alloc (.cells #[.int .i64 n.f0, .int .i64 n.f1, .int .i64 n.f2, .slice A3 n.f3.length c3, .slice A4 n.f4.length c4, .int .i64 m.f0, .int .i64 m.f1, .int .i64 m.f2, .slice B3 m.f3.length d3, .slice B4 m.f4.length d4] 25)).alloc (.cells #[.int .i64 2, .int .i64 6, .int .i64 2, .slice none 0 0, .slice (some ⟨wr.heap.size, 0, none⟩) 2 2] 25)) := by repeat (first | exact Below.refl _ _ | apply below_alloc)
          have e0 : ((wr.alloc (.cells #[.int .i64 n.f0, .int .i64 n.f1, .int .i64 n.f2, .slice A3 n.f3.length c3, .slice A4 n.f4.length c4, .int .i64 m.f0, .int .i64 m.f1, .int .i64 m.f2, .slice B3 m.f3.length d3, .slice B4 m.f4.length d4] 25)).alloc (.cells #[.int .i64 2, .int .i64 6, .int .i64 2, .slice none 0 0, .slice (some ⟨wr.heap.size, 0, none⟩) 2 2] 25)).heap[wr.heap.size]? = some (.cells #[.int .i64 n.f0, .int .i64 n.f1, .int .i64 n.f2, .slice A3 n.f3.length c3, .slice A4 n.f4.length c4, .int .i64 m.f0, .int .i64 m.f1, .int .i64 m.f2, .slice B3 m.f3.length d3, .slice B4 m.f4.length d4] 25 (0, 0)) := (by repeat (first | (apply blk_newN; first | rfl | (simp; done)) | apply blk_alloc))
          have e1 : ((wr.alloc (.cells #[.int .i64 n.f0, .int .i64 n.f1, .int .i64 n.f2, .slice A3 n.f3.length c3, .slice A4 n.f4.length c4, .int .i64 m.f0, .int .i64 m.f1, .int .i64 m.f2, .slice B3 m.f3.length d3, .slice B4 m.f4.length d4] 25)).alloc (.cells #[.int .i64 2, .int .i64 6, .int .i64 2, .slice none 0 0, .slice (some ⟨wr.heap.size, 0, none⟩) 2 2] 25)).heap[wr.heap.size + 1]? = some (.cells #[.int .i64 2, .int .i64 6, .int .i64 2, .slice none 0 0, .slice (some ⟨wr.heap.size, 0, none⟩) 2 2] 25 (0, 0)) := (by repeat (first | (apply blk_newN; first | rfl | (simp; done)) | apply blk_alloc))
          have gs : w.heap.size ≤ wr.heap.size := HB.out.size
          have nB : Below w.heap.size w ((wr.alloc (.cells #[.int .i64 n.f0, .int .i64 n.f1, .int .i64 n.f2, .slice A3 n.f3.length c3, .slice A4 n.f4.length c4, .int .i64 m.f0, .int .i64 m.f1, .int .i64 m.f2, .slice B3 m.f3.length d3, .slice B4 m.f4.length d4] 25)).alloc (.cells #[.int .i64 2, .int .i64 6, .int .i64 2, .slice none 0 0, .slice (some ⟨wr.heap.size, 0, none⟩) 2 2] 25)) := below_step HB.out hb9
          generalize ((wr.alloc (.cells #[.int .i64 n.f0, .int .i64 n.f1, .int .i64 n.f2, .slice A3 n.f3.length c3, .slice A4 n.f4.length c4, .int .i64 m.f0, .int .i64 m.f1, .int .i64 m.f2, .slice B3 m.f3.length d3, .slice B4 m.f4.length d4] 25)).alloc (.cells #[.int .i64 2, .int .i64 6, .int .i64 2, .slice none 0 0, .slice (some ⟨wr.heap.size, 0, none⟩) 2 2] 25)) = w7 at hb9 e0 e1 nB ⊢
          have ka : Kd.C k25 w7 (some ⟨wr.heap.size, 0, none⟩) 2 [n, m] := C_blk e0 (Reps.c5 (k25_mk w7 n H3.out (Kd.C_below HC_n3.out nB) H4.out (Kd.C_below HC_n4.out nB)) (Reps.c5 (k25_mk w7 m G3.out (Kd.C_below HC_m3.out nB) G4.out (Kd.C_below HC_m4.out nB)) (Reps.none _ _))) rfl (by decide)
          have HC_l := Aside0.mk ka
          have HX_l := Aside0.mk e1
          clear nB ka
          obtain ⟨k3, h3⟩ := (Node_has HBG.out NN.out).ex
          obtain ⟨k4, h4⟩ := (Node_has HBM.out MM.out).ex
          obtain ⟨k5, h5⟩ := (Node_has LB.out LV.out).ex
          obtain ⟨k6, h6⟩ := (Object_has LB.out (vld_top LV.out)).ex
          rw [pair_nsz] at h5
          rw [pair_obj] at h6
          have K3 := Aside0.mk h3
          have K4 := Aside0.mk h4
          have NL : ∀ W, Glob true W → Kd.C k25 W (some ⟨wr.heap.size, 0, none⟩) 2 [n, m] → Calls Tryd.prog 12 #[.agg #[.int .i64 2, .int .i64 6, .int .i64 2, .slice none 0 0, .slice (some ⟨wr.heap.size, 0, none⟩) 2 2]] W fun e w' => e = .returned (.int .i64 (2 + nsz n + nsz m)) ∧ Below W.heap.size W w' := fun W g c => canonsize_Node.calls k5 2 6 2 none 0 [] (some ⟨wr.heap.size, 0, none⟩) 2 [n, m] _ W g (C_nil _ _ none) (Nat.le_refl 0) c (Nat.le_refl 2) h5
          have OL : ∀ W, Glob true W → Kd.C k25 W (some ⟨wr.heap.size, 0, none⟩) 2 [n, m] → Calls Tryd.prog 10 #[.agg #[.int .i64 2, .int .i64 6, .int .i64 2, .slice none 0 0, .slice (some ⟨wr.heap.size, 0, none⟩) 2 2]] W fun e w' => e = .returned (.int .i64 2) ∧ Below W.heap.size W w' := fun W g c => canonsize_Object.calls k6 2 6 2 none 0 [] (some ⟨wr.heap.size, 0, none⟩) 2 [n, m] _ W g (C_nil _ _ none) (Nat.le_refl 0) c (Nat.le_refl 2) h6
          have HNL := Aside0.mk NL
          have HOL := Aside0.mk OL
          clear h3 h4 h5 h6 NL OL hsum
          clear HC_t
          have nB := Aside0.mk (below_step (by with_reducible repeat (first | exact HB.out | apply below_alloc | apply pw_below_drewN | apply below_drew1 | refine below_set ?_ GE_p.out | refine below_set ?_ GE_q.out)) hb9)
          have nX_p := Aside0.mk (blk_below (g := w.heap.size) (by with_reducible repeat (first | exact HX_p.out | (apply blk_newN; first | rfl | (simp; done)) | apply blk_alloc | apply blk_drewN | apply blk_drew | apply blk_far (hp := NE_p_q.out))) hb9)
          have nX_q := Aside0.mk (blk_below (g := w.heap.size + 1) (by with_reducible repeat (first | exact HX_q.out | (apply blk_newN; first | rfl | (simp; done)) | apply blk_alloc | apply blk_drewN | apply blk_drew | apply blk_far (hp := NE_q_p.out))) hb9)
          clear HB HX_p cs_p fr_p lt_p HX_q cs_q fr_q lt_q
          have HB := nB
          clear nB
          have HX_p := nX_p
          clear nX_p
          have cs_p : ∀ i, w7.cell? ⟨w.heap.size, i, none⟩ = _ := fun i => blk_cell HX_p.out i
          have fr_p : ∀ i, w7.frozen? ⟨w.heap.size, i, none⟩ = false := fun i => blk_frozen HX_p.out i
          have lt_p := lt_of_block HX_p.out
          have HX_q := nX_q
          clear nX_q
          have cs_q : ∀ i, w7.cell? ⟨w.heap.size + 1, i, none⟩ = _ := fun i => blk_cell HX_q.out i
          have fr_q : ∀ i, w7.frozen? ⟨w.heap.size + 1, i, none⟩ = false := fun i => blk_frozen HX_q.out i
          have lt_q := lt_of_block HX_q.out
          clear hb9 e0 e1 hlen ho hj
          have GE_l : Aside0 (w.heap.size ≤ wr.heap.size + 1) := ⟨by have := HB.out.size; first | exact this | omega⟩
          have cs_p : ∀ i, w7.cell? ⟨w.heap.size, i, none⟩ = _ := fun i => blk_cell HX_p.out i
          have fr_p : ∀ i, w7.frozen? ⟨w.heap.size, i, none⟩ = false := fun i => blk_frozen HX_p.out i
          have lt_p := lt_of_block HX_p.out
          have cs_q : ∀ i, w7.cell? ⟨w.heap.size + 1, i, none⟩ = _ := fun i => blk_cell HX_q.out i
          have fr_q : ∀ i, w7.frozen? ⟨w.heap.size + 1, i, none⟩ = false := fun i => blk_frozen HX_q.out i
          have lt_q := lt_of_block HX_q.out
          have cs_l : ∀ i, w7.cell? ⟨wr.heap.size + 1, i, none⟩ = _ := fun i => blk_cell HX_l.out i
          have fr_l : ∀ i, w7.frozen? ⟨wr.heap.size + 1, i, none⟩ = false := fun i => blk_frozen HX_l.out i
          have lt_l := lt_of_block HX_l.out
          go_region_held3 (fun w' => Below w.heap.size w w' ∧ w'.heap[w.heap.size]? = some (.cells #[.int .i64 n.f0, .int .i64 n.f1, .int .i64 n.f2, .slice A3 n.f3.length c3, .slice A4 n.f4.length c4] 25 (0, 0)) ∧ (∀ i, w'.cell? ⟨w.heap.size, i, none⟩ = (#[.int .i64 n.f0, .int .i64 n.f1, .int .i64 n.f2, .slice A3 n.f3.length c3, .slice A4 n.f4.length c4] : Array Value)[i]?) ∧ w'.heap[w.heap.size + 1]? = some (.cells #[.int .i64 m.f0, .int .i64 m.f1, .int .i64 m.f2, .slice B3 m.f3.length d3, .slice B4 m.f4.length d4] 25 (0, 0)) ∧ (∀ i, w'.cell? ⟨w.heap.size + 1, i, none⟩ = (#[.int .i64 m.f0, .int .i64 m.f1, .int .i64 m.f2, .slice B3 m.f3.length d3, .slice B4 m.f4.length d4] : Array Value)[i]?) ∧ w'.heap[wr.heap.size + 1]? = some (.cells #[.int .i64 2, .int .i64 6, .int .i64 2, .slice none 0 0, .slice (some ⟨wr.heap.size, 0, none⟩) 2 2] 25 (0, 0)) ∧ (∀ i, w'.cell? ⟨wr.heap.size + 1, i, none⟩ = (#[.int .i64 2, .int .i64 6, .int .i64 2, .slice none 0 0, .slice (some ⟨wr.heap.size, 0, none⟩) 2 2] : Array Value)[i]?)) (first | exact ⟨HB.out.drew, HX_p.out, cs_p, HX_q.out, cs_q, HX_l.out, cs_l⟩ | exact ⟨HB.out, HX_p.out, cs_p, HX_q.out, cs_q, HX_l.out, cs_l⟩) (first | (go_at_call 12; (with_reducible refine (canonsize_Node.calls k3 n.f0 n.f1 n.f2 _ _ n.f3 _ _ n.f4 _ _ (HG.out.below (by with_reducible repeat (first | exact HB.out | apply below_alloc | apply pw_below_drewN | apply below_drew1 | refine below_set ?_ GE_p.out | refine below_set ?_ GE_q.out | refine below_set ?_ GE_l.out))) (Kd.C_below HC_n3.out (by with_reducible repeat (first | exact HB.out | apply below_alloc | apply pw_below_drewN | apply below_drew1 | refine below_set ?_ GE_p.out | refine below_set ?_ GE_q.out | refine below_set ?_ GE_l.out))) H3.out (Kd.C_below HC_n4.out (by with_reducible repeat (first | exact HB.out | apply below_alloc | apply pw_below_drewN | apply below_drew1 | refine below_set ?_ GE_p.out | refine below_set ?_ GE_q.out | refine below_set ?_ GE_l.out))) H4.out K3.out).mono ?_); rintro e w9 ⟨rfl, hb⟩; (have nB := Aside0.mk (below_step (by with_reducible repeat (first | exact HB.out | apply below_alloc | apply pw_below_drewN | apply below_drew1 | refine below_set ?_ GE_p.out | refine below_set ?_ GE_q.out | refine below_set ?_ GE_l.out)) hb)); (have nX_p := Aside0.mk (blk_below (g := w.heap.size) (by with_reducible repeat (first | exact HX_p.out | (apply blk_newN; first | rfl | (simp; done)) | apply blk_alloc | apply blk_drewN | apply blk_drew | apply blk_far (hp := NE_p_q.out) | apply blk_far (hp := NE_p_l.out))) hb)); (have nX_q := Aside0.mk (blk_below (g := w.heap.size + 1) (by with_reducible repeat (first | exact HX_q.out | (apply blk_newN; first | rfl | (simp; done)) | apply blk_alloc | apply blk_drewN | apply blk_drew | apply blk_far (hp := NE_q_p.out) | apply blk_far (hp := NE_q_l.out))) hb)); (have nX_l := Aside0.mk (blk_below (g := wr.heap.size + 1) (by with_reducible repeat (first | exact HX_l.out | (apply blk_newN; first | rfl | (simp; done)) | apply blk_alloc | apply blk_drewN | apply blk_drew | apply blk_far (hp := NE_l_p.out) | apply blk_far (hp := NE_l_q.out))) hb)); (have nC_l := Aside0.mk (Kd.C_below (by repeat (first | (with_reducible first | exact HC_l.out | apply C_alloc | apply C_drewN | apply C_drew) | exact HC_l.out)) hb)); clear HB HC_l HX_p cs_p fr_p lt_p HX_q cs_q fr_q lt_q HX_l cs_l fr_l lt_l; (have HB := nB); clear nB; (have HC_l := nC_l); clear nC_l; (have HX_p := nX_p); clear nX_p; (have cs_p : ∀ i, w9.cell? ⟨w.heap.size, i, none⟩ = _ := fun i => blk_cell HX_p.out i); (have fr_p : ∀ i, w9.frozen? ⟨w.heap.size, i, none⟩ = false := fun i => blk_frozen HX_p.out i); (have lt_p := lt_of_block HX_p.out); (have HX_q := nX_q); clear nX_q; (have cs_q : ∀ i, w9.cell? ⟨w.heap.size + 1, i, none⟩ = _ := fun i => blk_cell HX_q.out i); (have fr_q : ∀ i, w9.frozen? ⟨w.heap.size + 1, i, none⟩ = false := fun i => blk_frozen HX_q.out i); (have lt_q := lt_of_block HX_q.out); (have HX_l := nX_l); clear nX_l; (have cs_l : ∀ i, w9.cell? ⟨wr.heap.size + 1, i, none⟩ = _ := fun i => blk_cell HX_l.out i); (have fr_l : ∀ i, w9.frozen? ⟨wr.heap.size + 1, i, none⟩ = false := fun i => blk_frozen HX_l.out i); (have lt_l := lt_of_block HX_l.out); clear hb) | (go_at_call 12; (with_reducible refine (canonsize_Node.calls k4 m.f0 m.f1 m.f2 _ _ m.f3 _ _ m.f4 _ _ (HG.out.below (by with_reducible repeat (first | exact HB.out | apply below_alloc | apply pw_below_drewN | apply below_drew1 | refine below_set ?_ GE_p.out | refine below_set ?_ GE_q.out | refine below_set ?_ GE_l.out))) (Kd.C_below HC_m3.out (by with_reducible repeat (first | exact HB.out | apply below_alloc | apply pw_below_drewN | apply below_drew1 | refine below_set ?_ GE_p.out | refine below_set ?_ GE_q.out | refine below_set ?_ GE_l.out))) G3.out (Kd.C_below HC_m4.out (by with_reducible repeat (first | exact HB.out | apply below_alloc | apply pw_below_drewN | apply below_drew1 | refine below_set ?_ GE_p.out | refine below_set ?_ GE_q.out | refine below_set ?_ GE_l.out))) G4.out K4.out).mono ?_); rintro e w9 ⟨rfl, hb⟩; (have nB := Aside0.mk (below_step (by with_reducible repeat (first | exact HB.out | apply below_alloc | apply pw_below_drewN | apply below_drew1 | refine below_set ?_ GE_p.out | refine below_set ?_ GE_q.out | refine below_set ?_ GE_l.out)) hb)); (have nX_p := Aside0.mk (blk_below (g := w.heap.size) (by with_reducible repeat (first | exact HX_p.out | (apply blk_newN; first | rfl | (simp; done)) | apply blk_alloc | apply blk_drewN | apply blk_drew | apply blk_far (hp := NE_p_q.out) | apply blk_far (hp := NE_p_l.out))) hb)); (have nX_q := Aside0.mk (blk_below (g := w.heap.size + 1) (by with_reducible repeat (first | exact HX_q.out | (apply blk_newN; first | rfl | (simp; done)) | apply blk_alloc | apply blk_drewN | apply blk_drew | apply blk_far (hp := NE_q_p.out) | apply blk_far (hp := NE_q_l.out))) hb)); (have nX_l := Aside0.mk (blk_below (g := wr.heap.size + 1) (by with_reducible repeat (first | exact HX_l.out | (apply blk_newN; first | rfl | (simp; done)) | apply blk_alloc | apply blk_drewN | apply blk_drew | apply blk_far (hp := NE_l_p.out) | apply blk_far (hp := NE_l_q.out))) hb)); (have nC_l := Aside0.mk (Kd.C_below (by repeat (first | (with_reducible first | exact HC_l.out | apply C_alloc | apply C_drewN | apply C_drew) | exact HC_l.out)) hb)); clear HB HC_l HX_p cs_p fr_p lt_p HX_q cs_q fr_q lt_q HX_l cs_l fr_l lt_l; (have HB := nB); clear nB; (have HC_l := nC_l); clear nC_l; (have HX_p := nX_p); clear nX_p; (have cs_p : ∀ i, w9.cell? ⟨w.heap.size, i, none⟩ = _ := fun i => blk_cell HX_p.out i); (have fr_p : ∀ i, w9.frozen? ⟨w.heap.size, i, none⟩ = false := fun i => blk_frozen HX_p.out i); (have lt_p := lt_of_block HX_p.out); (have HX_q := nX_q); clear nX_q; (have cs_q : ∀ i, w9.cell? ⟨w.heap.size + 1, i, none⟩ = _ := fun i => blk_cell HX_q.out i); (have fr_q : ∀ i, w9.frozen? ⟨w.heap.size + 1, i, none⟩ = false := fun i => blk_frozen HX_q.out i); (have lt_q := lt_of_block HX_q.out); (have HX_l := nX_l); clear nX_l; (have cs_l : ∀ i, w9.cell? ⟨wr.heap.size + 1, i, none⟩ = _ := fun i => blk_cell HX_l.out i); (have fr_l : ∀ i, w9.frozen? ⟨wr.heap.size + 1, i, none⟩ = false := fun i => blk_frozen HX_l.out i); (have lt_l := lt_of_block HX_l.out); clear hb) | (go_at_call 12; (with_reducible refine (HNL.out _ (HG.out.below (by with_reducible repeat (first | exact HB.out | apply below_alloc | apply pw_below_drewN | apply below_drew1 | refine below_set ?_ GE_p.out | refine below_set ?_ GE_q.out | refine below_set ?_ GE_l.out))) (by repeat (first | (with_reducible first | exact HC_l.out | apply C_alloc | apply C_drewN | apply C_drew) | exact HC_l.out))).mono ?_); rintro e w9 ⟨rfl, hb⟩; (have nB := Aside0.mk (below_step (by with_reducible repeat (first | exact HB.out | apply below_alloc | apply pw_below_drewN | apply below_drew1 | refine below_set ?_ GE_p.out | refine below_set ?_ GE_q.out | refine below_set ?_ GE_l.out)) hb)); (have nX_p := Aside0.mk (blk_below (g := w.heap.size) (by with_reducible repeat (first | exact HX_p.out | (apply blk_newN; first | rfl | (simp; done)) | apply blk_alloc | apply blk_drewN | apply blk_drew | apply blk_far (hp := NE_p_q.out) | apply blk_far (hp := NE_p_l.out))) hb)); (have nX_q := Aside0.mk (blk_below (g := w.heap.size + 1) (by with_reducible repeat (first | exact HX_q.out | (apply blk_newN; first | rfl | (simp; done)) | apply blk_alloc | apply blk_drewN | apply blk_drew | apply blk_far (hp := NE_q_p.out) | apply blk_far (hp := NE_q_l.out))) hb)); (have nX_l := Aside0.mk (blk_below (g := wr.heap.size + 1) (by with_reducible repeat (first | exact HX_l.out | (apply blk_newN; first | rfl | (simp; done)) | apply blk_alloc | apply blk_drewN | apply blk_drew | apply blk_far (hp := NE_l_p.out) | apply blk_far (hp := NE_l_q.out))) hb)); (have nC_l := Aside0.mk (Kd.C_below (by repeat (first | (with_reducible first | exact HC_l.out | apply C_alloc | apply C_drewN | apply C_drew) | exact HC_l.out)) hb)); clear HB HC_l HX_p cs_p fr_p lt_p HX_q cs_q fr_q lt_q HX_l cs_l fr_l lt_l; (have HB := nB); clear nB; (have HC_l := nC_l); clear nC_l; (have HX_p := nX_p); clear nX_p; (have cs_p : ∀ i, w9.cell? ⟨w.heap.size, i, none⟩ = _ := fun i => blk_cell HX_p.out i); (have fr_p : ∀ i, w9.frozen? ⟨w.heap.size, i, none⟩ = false := fun i => blk_frozen HX_p.out i); (have lt_p := lt_of_block HX_p.out); (have HX_q := nX_q); clear nX_q; (have cs_q : ∀ i, w9.cell? ⟨w.heap.size + 1, i, none⟩ = _ := fun i => blk_cell HX_q.out i); (have fr_q : ∀ i, w9.frozen? ⟨w.heap.size + 1, i, none⟩ = false := fun i => blk_frozen HX_q.out i); (have lt_q := lt_of_block HX_q.out); (have HX_l := nX_l); clear nX_l; (have cs_l : ∀ i, w9.cell? ⟨wr.heap.size + 1, i, none⟩ = _ := fun i => blk_cell HX_l.out i); (have fr_l : ∀ i, w9.frozen? ⟨wr.heap.size + 1, i, none⟩ = false := fun i => blk_frozen HX_l.out i); (have lt_l := lt_of_block HX_l.out); clear hb) | (go_at_call 10; (with_reducible refine (HOL.out _ (HG.out.below (by with_reducible repeat (first | exact HB.out | apply below_alloc | apply pw_below_drewN | apply below_drew1 | refine below_set ?_ GE_p.out | refine below_set ?_ GE_q.out | refine below_set ?_ GE_l.out))) (by repeat (first | (with_reducible first | exact HC_l.out | apply C_alloc | apply C_drewN | apply C_drew) | exact HC_l.out))).mono ?_); rintro e w9 ⟨rfl, hb⟩; (have nB := Aside0.mk (below_step (by with_reducible repeat (first | exact HB.out | apply below_alloc | apply pw_below_drewN | apply below_drew1 | refine below_set ?_ GE_p.out | refine below_set ?_ GE_q.out | refine below_set ?_ GE_l.out)) hb)); (have nX_p := Aside0.mk (blk_below (g := w.heap.size) (by with_reducible repeat (first | exact HX_p.out | (apply blk_newN; first | rfl | (simp; done)) | apply blk_alloc | apply blk_drewN | apply blk_drew | apply blk_far (hp := NE_p_q.out) | apply blk_far (hp := NE_p_l.out))) hb)); (have nX_q := Aside0.mk (blk_below (g := w.heap.size + 1) (by with_reducible repeat (first | exact HX_q.out | (apply blk_newN; first | rfl | (simp; done)) | apply blk_alloc | apply blk_drewN | apply blk_drew | apply blk_far (hp := NE_q_p.out) | apply blk_far (hp := NE_q_l.out))) hb)); (have nX_l := Aside0.mk (blk_below (g := wr.heap.size + 1) (by with_reducible repeat (first | exact HX_l.out | (apply blk_newN; first | rfl | (simp; done)) | apply blk_alloc | apply blk_drewN | apply blk_drew | apply blk_far (hp := NE_l_p.out) | apply blk_far (hp := NE_l_q.out))) hb)); (have nC_l := Aside0.mk (Kd.C_below (by repeat (first | (with_reducible first | exact HC_l.out | apply C_alloc | apply C_drewN | apply C_drew) | exact HC_l.out)) hb)); clear HB HC_l HX_p cs_p fr_p lt_p HX_q cs_q fr_q lt_q HX_l cs_l fr_l lt_l; (have HB := nB); clear nB; (have HC_l := nC_l); clear nC_l; (have HX_p := nX_p); clear nX_p; (have cs_p : ∀ i, w9.cell? ⟨w.heap.size, i, none⟩ = _ := fun i => blk_cell HX_p.out i); (have fr_p : ∀ i, w9.frozen? ⟨w.heap.size, i, none⟩ = false := fun i => blk_frozen HX_p.out i); (have lt_p := lt_of_block HX_p.out); (have HX_q := nX_q); clear nX_q; (have cs_q : ∀ i, w9.cell? ⟨w.heap.size + 1, i, none⟩ = _ := fun i => blk_cell HX_q.out i); (have fr_q : ∀ i, w9.frozen? ⟨w.heap.size + 1, i, none⟩ = false := fun i => blk_frozen HX_q.out i); (have lt_q := lt_of_block HX_q.out); (have HX_l := nX_l); clear nX_l; (have cs_l : ∀ i, w9.cell? ⟨wr.heap.size + 1, i, none⟩ = _ := fun i => blk_cell HX_l.out i); (have fr_l : ∀ i, w9.frozen? ⟨wr.heap.size + 1, i, none⟩ = false := fun i => blk_frozen HX_l.out i); (have lt_l := lt_of_block HX_l.out); clear hb))
          go_wp2
          go_ret
          refine ⟨by first | rfl | (simp; done), ?_⟩
          exact (by with_reducible repeat (first | exact HB.out | apply below_alloc | apply pw_below_drewN | apply below_drew1 | refine below_set ?_ GE_p.out | refine below_set ?_ GE_q.out | refine below_set ?_ GE_l.out))
end Go.Proofs.YtkiompgbmjoflaaDoor.P

namespace Go.Proofs.YtkiompgbmjoflaaDoor.canonsizeAddsUp
open Go.ChangeShapes Go.WideShapes Go.ChangeAt Go.RowKit Go.Proofs.YtkiompgbmjoflaaDoor.P Go.Proofs.YtkiompgbmjoflaaDoorW.PrintWords
open Go.ChangeMaps (open_string shut_string)
open Go.Proofs.YtkiompgbmjoflaaDoor.P
set_option linter.unusedVariables false
theorem own : ownKnob Tryd.prog.godebug = none := by kernel_rfl
theorem laidOut : laidOutB Tryd.prog = true := by kernel_rfl
theorem door_met (os : Os) (args : Array Value) : laidMetH Tryd.prog Rows.canonsizeAddsUpUptoRow.laid ((World.doorLaid Tryd.prog 600 os).forCall (fun _ _ => 0) ⟨#[], args, []⟩).memory :=
  laidMetH_of_parts3 (fuel := 8) (laidMet_of_run' 8 (by kernel_rfl) (by kernel_rfl)) (by kernel_rfl) (by kernel_rfl)
set_option maxRecDepth 100000 in
set_option maxHeartbeats 1000000 in
theorem reads (os : Os) {H : Type} (enc : TypeId × Value → H) : DataW.whole enc Tryd.prog ((World.doorLaid Tryd.prog 600 os).forCall (fun _ _ => 0) ⟨#[], #[.agg #[.int .i64 0, .int .i64 0, .int .i64 0, .slice none 0 0, .slice none 0 0], .agg #[.int .i64 0, .int .i64 0, .int .i64 0, .slice none 0 0, .slice none 0 0]], []⟩).memory Tryd.f4.params.toList Rows.canonsizeAddsUpSpec.vars false (#[.agg #[.int .i64 0, .int .i64 0, .int .i64 0, .slice none 0 0, .slice none 0 0], .agg #[.int .i64 0, .int .i64 0, .int .i64 0, .slice none 0 0, .slice none 0 0]] : Array Value).toList 8 = some ([.agg [.lit (.int .i64 0), .lit (.int .i64 0), .lit (.int .i64 0), .nil, .nil], .agg [.lit (.int .i64 0), .lit (.int .i64 0), .lit (.int .i64 0), .nil, .nil]], [], []) := by kernel_rfl
set_option maxRecDepth 100000 in
set_option maxHeartbeats 1000000 in
theorem lifted (os : Os) (started : os.Started) (H : Type) (enc : TypeId × Value → H) (F : Stop.Interp) :
    ReturnsInHanded {} Tryd.checked os 4 .any ((Rows.OpenSpec.upto Rows.canonsizeAddsUpSpec).preRow enc Tryd.prog Tryd.f4 Rows.canonsizeAddsUpUptoRow.domain false Rows.canonsizeAddsUpUptoRow.laid) (((Rows.OpenSpec.upto Rows.canonsizeAddsUpSpec).at F).post enc Tryd.prog Tryd.f4 false true false false) := by
  refine returnsInHanded_of_row (C := Tryd.checked) (s := (Rows.OpenSpec.upto Rows.canonsizeAddsUpSpec)) own started (by kernel_rfl) Tryd.func4
    (witness_row_atRef (enc := enc) (C := Tryd.checked) false (World.doorLaid Tryd.prog 600 os) #[.agg #[.int .i64 0, .int .i64 0, .int .i64 0, .slice none 0 0, .slice none 0 0], .agg #[.int .i64 0, .int .i64 0, .int .i64 0, .slice none 0 0, .slice none 0 0]] rfl (by kernel_rfl) (by kernel_rfl) (by kernel_rfl)
      (OpenSpec.preRow_of_cond 8 (reads os enc) (by kernel_rfl) (fun k hk => by cases hk; kernel_rfl) (by kernel_rfl) (door_met os _))) ?_
  intro W base args ds gs before hval0 hW _ hcond _ hL _ _
  have hval : ∀ (j : Nat) t v, Tryd.f4.params[j]? = some t → args[j]? = some v → Value.okWide Tryd.prog W .any base t v := hval0
  have hW' := hW
  obtain ⟨p, q, hA0, hV, rfl, hfz, hnd⟩ := hW
  have hA : DataW.TrodAll enc Tryd.prog W 0 (fun _ => true) true Tryd.f4.params.toList args.toList ds p := hA0
  rw [Tryd.params4] at hA hval
  obtain ⟨v0, vs0, d0, ds0, p0, q0, hargs, rfl, rfl, h0, r0⟩ := trodAll_cons hA
  obtain ⟨v1, vs1, d1, ds1, p1, q1, rfl, rfl, rfl, h1, r1⟩ := trodAll_cons r0
  obtain ⟨rfl, rfl, rfl⟩ := trodAll_nil r1
  obtain rfl : args = #[v0, v1] := by cases args; simp_all
  obtain ⟨rfl, rfl⟩ := trodVars_none hV
  have k0 := h0
  have lt0 : ∀ x ∈ p0, x.block < W.heap.size := by obtain ⟨m, hm⟩ := k0; exact DataW.trod_lt m _ _ _ hm
  obtain ⟨u0, rfl, sz0⟩ := okWide_struct Tryd.underlying25 (hval 0 25 v0 rfl rfl)
  obtain ⟨u0⟩ := u0
  obtain ⟨fuel0, hf0⟩ := h0
  obtain ⟨n0, hK0, hD0⟩ := Node.opens enc W fuel0 _ _ hf0
  obtain ⟨A0_3, c0_3, A0_4, c0_4, hcs0, hl0_3, hr0_3, hl0_4, hr0_4⟩ := k25_open hK0
  obtain rfl : u0 = _ := hcs0
  have k1 := h1
  have lt1 : ∀ x ∈ p1, x.block < W.heap.size := by obtain ⟨m, hm⟩ := k1; exact DataW.trod_lt m _ _ _ hm
  obtain ⟨u1, rfl, sz1⟩ := okWide_struct Tryd.underlying25 (hval 1 25 v1 rfl rfl)
  obtain ⟨u1⟩ := u1
  obtain ⟨fuel1, hf1⟩ := h1
  obtain ⟨n1, hK1, hD1⟩ := Node.opens enc W fuel1 _ _ hf1
  obtain ⟨A1_3, c1_3, A1_4, c1_4, hcs1, hl1_3, hr1_3, hl1_4, hr1_4⟩ := k25_open hK1
  obtain rfl : u1 = _ := hcs1
  have hG : Glob true W := ⟨fun _ => bits_of_laid hL rfl⟩
  have hbulk := of_decide_eq_true (hcond _ rfl)
  simp only [List.append_nil, Rows.uptoBulkAll] at hbulk
  refine (CanonsizeAddsUp_walk n0 _ _ _ _ (show tsz n0 ≤ 1048576 by have h_ : tsz n0 ≤ Rows.uptoBulk d0 := hD0.1; omega) hD0.2 n1 _ _ _ _ (show tsz n1 ≤ 1048576 by have h_ : tsz n1 ≤ Rows.uptoBulk d1 := hD1.1; omega) hD1.2 W hr0_3 hl0_3 hr0_4 hl0_4 hr1_3 hl1_3 hr1_4 hl1_4 hG).mono fun e W' ⟨he, bel⟩ => ?_
  subst he
  exact ⟨_, rfl, _, _, _, [], _, [], hW', trodAll_mk1 (shut_bool Tryd.underlying4 _), (trodAll_cons_mk (Below.trod laidOut (by kernel_rfl) (of_decide_eq_true (by kernel_rfl)) k0 bel lt0) (trodAll_cons_mk (Below.trod laidOut (by kernel_rfl) (of_decide_eq_true (by kernel_rfl)) k1 bel lt1) trodAll_mk0)), rfl, bel.frame _, fun h => by cases h⟩
theorem over : Rows.canonsizeAddsUpUptoRow.holds Tryd.pinned (Rows.OpenSpec.upto Rows.canonsizeAddsUpSpec) :=
  OpenClaim.holds_of_cond 4 Tryd.f4 rfl rfl rfl rfl rfl rfl rfl ⟨rfl, rfl, rfl, rfl, rfl⟩ rfl rfl rfl rfl rfl (by kernel_rfl) Tryd.func4 (by kernel_rfl)
    (of_decide_eq_true (by kernel_rfl)) (by unfold Func.isWrapper; first | (rw [if_pos (by decide +kernel)]; kernel_rfl) | (rw [if_neg (by decide +kernel)]; exact ⟨rfl, rfl⟩))
    (fun os started H enc _ F => by rw [OpenClaim.pre_eq_preRow]; exact lifted os started H enc F)
theorem card_holds : Rows.CanonsizeAddsUpUptoCardSaid :=
  Claim7.holds_tied_plain_at .later [] [.data] true (true, "21dfaa1fd6afe672d91862e975811425167d0747745aa3fb4b9766fc17991a3a") false
    over (fun _ h => by cases h) (by kernel_rfl) (fun _ h => by cases h) canonsizeAddsUpUpto_row_tie rfl ⟨rfl, rfl⟩ (by kernel_rfl) rfl
    (fun f fn hf hfn => by
      obtain rfl : f = 4 := Option.some.inj ((show Tryd.prog.funcNamed "capnp/capnplaw13.CanonsizeAddsUp" = some 4 by kernel_rfl).symm.trans hf) |>.symm
      obtain rfl : fn = Tryd.f4 := (Option.some.inj (Tryd.func4.symm.trans hfn)).symm
      exact ⟨by kernel_rfl, fun j t ht => by
        rw [Tryd.params4] at ht
        have hm : t ∈ [25, 25] := by simpa using Array.mem_of_getElem? ht
        have hall : ([25, 25].all fun u => !Tryd.prog.wantsStandIn u) = true := by kernel_rfl
        exact (show Tryd.prog.wantsStandIn t = false by simpa using List.all_eq_true.1 hall t hm)⟩)
    (by kernel_rfl)
#print axioms card_holds
end Go.Proofs.YtkiompgbmjoflaaDoor.canonsizeAddsUp
namespace Go.Proofs.YtkiompgbmjoflaaDoor
theorem canonsizeAddsUp_holds : Go.Proofs.YtkiompgbmjoflaaDoor.Rows.CanonsizeAddsUpUptoCardSaid := canonsizeAddsUp.card_holds
end Go.Proofs.YtkiompgbmjoflaaDoor
