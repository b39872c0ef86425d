/- This text proves that the law CanonsizeComposite of the given program returns true on every input that its statement covers, as the statement says it. Its conditions are the statement's own. -/
import Derived.Test.YtkiompgbmjoflaaDoorBN2
import Derived.Test.YtkiompgbmjoflaaDoorBN3
import Derived.Deep.RegionHeld3
import Derived.Test.YtkiompgbmjoflaaDoorRows
import Derived.Test.YtkiompgbmjoflaaDoorCards
import Derived.Test.YtkiompgbmjoflaaDoorTie
import Derived.WalkKit
import Derived.ProofKit
import Derived.OpenShut
import Derived.ChangeOld
import Derived.SizedLaws
import Derived.SevenTiedAt
import Derived.Deep.DeepHandedRow
import Derived.Deep.DeepWitnessRowRef
set_option linter.unusedVariables false
namespace Go.Proofs.YtkiompgbmjoflaaDoor.P
open Go.RowKit Go.Proofs.YtkiompgbmjoflaaDoorW.PrintWords Go.Proofs.YtkiompgbmjoflaaDoorW.PrintLast Go.Proofs.YtkiompgbmjoflaaDoorW.PrintMore
section
variable {α : Type} {d : Kd α} {W : World} {A : Option Addr} {n : Nat} {xs : List α}
/-- What is read, as what may be shared. -/
theorem V_of_C (hd : Kd.Heap d) {c : Nat} (hl : xs.length ≤ c) (hC : d.C W A xs.length xs) (e base : Nat) (ok : Nat → Prop) (hok : ∀ k, k < W.heap.size → ok k) : Kd.V d e W base ok (.slice A xs.length c) xs :=
  ⟨A, c, rfl, hl, fun W' hW => Kd.Heap.C hd (fun k hk => hW k (hok k hk) hk) hC⟩
/-- What was there at the begin, as what stays if that stays. -/
theorem F_of_base {w : World} (hd : Kd.Heap d) (hC : d.C w A n xs) (hb : Below w.heap.size w W) : Kd.F d W (fun b => b < w.heap.size) A n xs :=
  fun W' hW => Kd.Heap.C hd (fun k hk => (hW k hk (Nat.lt_of_lt_of_le hk hb.size)).trans (hb.block k hk)) hC
theorem V_read {e base : Nat} {ok : Nat → Prop} {v : Value} (h : Kd.V d e W base ok v xs) : ∃ A c, v = .slice A xs.length c ∧ xs.length ≤ c ∧ d.C W A xs.length xs := by
  obtain ⟨A, c, hv, hl, hF⟩ := h
  exact ⟨A, c, hv, hl, hF W (fun _ _ _ => rfl)⟩
end
end Go.Proofs.YtkiompgbmjoflaaDoor.P

set_option linter.unusedVariables false
set_option linter.unusedSimpArgs false
namespace Go.Proofs.YtkiompgbmjoflaaDoor.P
open Go.RowKit Go.Proofs.YtkiompgbmjoflaaDoorW.PrintWords Go.Proofs.YtkiompgbmjoflaaDoorW.PrintLast Go.Proofs.YtkiompgbmjoflaaDoorW.PrintMore
namespace composite
theorem right_parts {n : Nd} (h : right n = true) : tsz n ≤ 3000 ∧ vld n = true := by
  unfold right few at h
  rw [Bool.and_eq_true, Bool.and_eq_true, decide_eq_true_iff] at h
  exact ⟨h.1.1, h.2.1⟩
abbrev em : Nd := ⟨1, 0, 0, [], []⟩
/-- The list of n and so many empty structs. -/
def cl (n : Nd) (j : Nat) : Nd := ⟨2, 7, (j : Int) + 1, [], n :: List.replicate j em⟩
theorem em_vld : vld em = true := by simp [vld, vlds, vtop]
theorem rep_vlds : ∀ j, vlds true (List.replicate j em) = true
  | 0 => rfl
  | j + 1 => by rw [List.replicate_succ, vlds_cons, em_vld, rep_vlds j]; rfl
theorem rep_tszs : ∀ j, tszs (List.replicate j em) = j
  | 0 => rfl
  | j + 1 => by rw [List.replicate_succ, tszs_cons, rep_tszs j]; simp [tsz, tszs]; omega
theorem rep_ua : ∀ j, ua (List.replicate j em) = 0
  | 0 => rfl
  | j + 1 => by rw [List.replicate_succ, ua, rep_ua j]; rfl
theorem rep_ub : ∀ j, ub (List.replicate j em) = 0
  | 0 => rfl
  | j + 1 => by rw [List.replicate_succ, ub, rep_ub j]; rfl
theorem rep_nszg : ∀ j, nszg (List.replicate j em) = 0
  | 0 => rfl
  | j + 1 => by rw [List.replicate_succ, nszg_cons, rep_nszg j]; simp [nszs]
theorem cl_big {n : Nd} (h : tsz n ≤ 3000) {j : Nat} (hj : j ≤ 8) : Big (cl n j) := by
  unfold Big cl
  rw [tsz, tszs_cons, rep_tszs, List.length_nil]
  omega
theorem cl_vld {n : Nd} (h : vld n = true) (h1 : n.f0 = 1) {j : Nat} (hj : j ≤ 8) : vld (cl n j) = true := by
  unfold cl
  rw [vld, show ((2 : Int) == 2 && (7 : Int) == 7) = true from rfl, vlds_cons, rep_vlds, h, h1]
  simp only [beq_self_eq_true, Bool.or_true, Bool.true_and]
  unfold vtop
  rw [if_neg (by simp), if_neg (by simp), if_pos rfl]
  dsimp only
  rw [if_neg (by omega), if_pos (by omega), decide_eq_true_iff]
  exact ⟨rfl, by simp⟩
theorem struct_obj {n : Nd} (h1 : n.f0 = 1) : obj n = ((n.f3.length / 8 + n.f4.length : Nat) : Int) := by
  unfold obj
  rw [if_neg (by omega), if_pos h1]
theorem cl_obj {n : Nd} (h1 : n.f0 = 1) (j : Nat) : obj (cl n j) = 1 + ((j : Int) + 1) * obj n := by
  rw [struct_obj h1]
  unfold obj cl
  dsimp only
  rw [if_neg (by decide), if_neg (by decide), if_pos rfl, ua, ub, rep_ua, rep_ub, Nat.max_zero, Nat.max_zero]
theorem cl_nsz {n : Nd} (h : vld n = true) (h1 : n.f0 = 1) (j : Nat) : nsz (cl n j) = obj (cl n j) + nsz n - obj n := by
  have h7 : ¬ n.f1 = 7 := by have := (vtop_struct (vld_top h) h1).1; omega
  rw [nsz_eq n, if_neg h7, nsz_eq (cl n j)]
  unfold cl
  dsimp only
  rw [if_pos rfl, nszg_cons, rep_nszg]
  omega
end composite
open composite
set_option maxHeartbeats 4000000 in
set_option maxRecDepth 100000 in
theorem CanonsizeComposite_walk (n : Nd) (A3 : Option Addr) (c3 : Nat) (A4 : Option Addr) (c4 : Nat) (hb : Big n) (hg : good n) (k : Int) (hk : 0 ≤ k ∧ k ≤ 255) (w : World) (hr3 : Kd.C (Kd.int .u8) w A3 n.f3.length n.f3) (hc3 : n.f3.length ≤ c3) (hr4 : Kd.C k25 w A4 n.f4.length n.f4) (hc4 : n.f4.length ≤ c4) (hG : Glob true w) :
    Calls Tryd.prog 6 #[.agg #[.int .i64 n.f0, .int .i64 n.f1, .int .i64 n.f2, .slice A3 n.f3.length c3, .slice A4 n.f4.length c4], .int .u8 k] w fun e w' => e = .returned (.bool true) ∧ Below w.heap.size w w' := by
  obtain ⟨kR, hR⟩ := (Right_has n hb hg).ex
  have HR := Aside0.mk hR
  have HBG := Aside0.mk hb
  have HC_n3 := Aside0.mk hr3
  have HC_n4 := Aside0.mk hr4
  have H3 := Aside0.mk hc3
  have H4 := Aside0.mk hc4
  clear hR hg hr3 hr4 hc3 hc4 hb
  have HG := Aside0.mk hG
  have HB := Aside0.mk (Below.refl w.heap.size w)
  clear hG
  go_enter Tryd.func6, Tryd.ntmps6
  go_wp2_with fail
  have GE_p : Aside0 (w.heap.size ≤ w.heap.size) := ⟨by have := HB.out.size; first | exact this | omega⟩
  refine (capnplaw13_awake.calls true _ (HG.out.below (by with_reducible repeat (first | exact HB.out | apply below_alloc | apply pw_below_drewN | apply below_drew1 | refine below_set ?_ GE_p.out))) rfl).mono ?_
  rintro e w1 ⟨rfl, hb⟩
  have nB := Aside0.mk (below_step (by with_reducible repeat (first | exact HB.out | apply below_alloc | apply pw_below_drewN | apply below_drew1 | refine below_set ?_ GE_p.out)) hb)
  have nX_p := Aside0.mk (blk_below (g := w.heap.size) (by with_reducible repeat (first | exact HX_p.out | (apply blk_newN; first | rfl | (simp; done)) | apply blk_alloc | apply blk_drewN | apply blk_drew)) hb)
  clear HB 
  have HB := nB
  clear nB
  have HX_p := nX_p
  clear nX_p
  have cs_p : ∀ i, w1.cell? ⟨w.heap.size, i, none⟩ = _ := fun i => blk_cell HX_p.out i
  have fr_p : ∀ i, w1.frozen? ⟨w.heap.size, i, none⟩ = false := fun i => blk_frozen HX_p.out i
  have lt_p := lt_of_block HX_p.out
  clear hb
  go_wp2_with fail
  refine (capnpref13_Right.calls kR n.f0 n.f1 n.f2 _ _ n.f3 _ _ n.f4 (right n) _ (Kd.C_below HC_n3.out (by with_reducible repeat (first | exact HB.out | apply below_alloc | apply pw_below_drewN | apply below_drew1 | refine below_set ?_ GE_p.out))) H3.out (Kd.C_below HC_n4.out (by with_reducible repeat (first | exact HB.out | apply below_alloc | apply pw_below_drewN | apply below_drew1 | refine below_set ?_ GE_p.out))) H4.out HR.out).mono ?_
  rintro e w2 ⟨rfl, hb⟩
  have nB := Aside0.mk (below_step (by with_reducible repeat (first | exact HB.out | apply below_alloc | apply pw_below_drewN | apply below_drew1 | refine below_set ?_ GE_p.out)) hb)
  have nX_p := Aside0.mk (blk_below (g := w.heap.size) (by with_reducible repeat (first | exact HX_p.out | (apply blk_newN; first | rfl | (simp; done)) | apply blk_alloc | apply blk_drewN | apply blk_drew)) hb)
  clear HB HX_p cs_p fr_p lt_p
  have HB := nB
  clear nB
  have HX_p := nX_p
  clear nX_p
  have cs_p : ∀ i, w2.cell? ⟨w.heap.size, i, none⟩ = _ := fun i => blk_cell HX_p.out i
  have fr_p : ∀ i, w2.frozen? ⟨w.heap.size, i, none⟩ = false := fun i => blk_frozen HX_p.out i
  have lt_p := lt_of_block HX_p.out
  clear hb
  cases hr : right n
  · go_wp2_with fail
    refine (capnplaw13_awake.calls true _ (HG.out.below (by with_reducible repeat (first | exact HB.out | apply below_alloc | apply pw_below_drewN | apply below_drew1 | refine below_set ?_ GE_p.out))) rfl).mono ?_
    rintro e w3 ⟨rfl, hb⟩
    have nB := Aside0.mk (below_step (by with_reducible repeat (first | exact HB.out | apply below_alloc | apply pw_below_drewN | apply below_drew1 | refine below_set ?_ GE_p.out)) hb)
    have nX_p := Aside0.mk (blk_below (g := w.heap.size) (by with_reducible repeat (first | exact HX_p.out | (apply blk_newN; first | rfl | (simp; done)) | apply blk_alloc | apply blk_drewN | apply blk_drew)) hb)
    clear HB HX_p cs_p fr_p lt_p
    have HB := nB
    clear nB
    have HX_p := nX_p
    clear nX_p
    have cs_p : ∀ i, w3.cell? ⟨w.heap.size, i, none⟩ = _ := fun i => blk_cell HX_p.out i
    have fr_p : ∀ i, w3.frozen? ⟨w.heap.size, i, none⟩ = false := fun i => blk_frozen HX_p.out i
    have lt_p := lt_of_block HX_p.out
    clear hb
    go_wp2
    go_ret
    refine ⟨by first | rfl | (simp; done), ?_⟩
    exact (by with_reducible repeat (first | exact HB.out | apply below_alloc | apply pw_below_drewN | apply below_drew1 | refine below_set ?_ GE_p.out))
  by_cases h1 : n.f0 = 1
  case neg =>
    have hne : (n.f0 != 1) = true := by simp [h1]
    clear h1
    go_wp2_with fail
    refine (capnplaw13_awake.calls true _ (HG.out.below (by with_reducible repeat (first | exact HB.out | apply below_alloc | apply pw_below_drewN | apply below_drew1 | refine below_set ?_ GE_p.out))) rfl).mono ?_
    rintro e w3 ⟨rfl, hb⟩
    have nB := Aside0.mk (below_step (by with_reducible repeat (first | exact HB.out | apply below_alloc | apply pw_below_drewN | apply below_drew1 | refine below_set ?_ GE_p.out)) hb)
    have nX_p := Aside0.mk (blk_below (g := w.heap.size) (by with_reducible repeat (first | exact HX_p.out | (apply blk_newN; first | rfl | (simp; done)) | apply blk_alloc | apply blk_drewN | apply blk_drew)) hb)
    clear HB HX_p cs_p fr_p lt_p
    have HB := nB
    clear nB
    have HX_p := nX_p
    clear nX_p
    have cs_p : ∀ i, w3.cell? ⟨w.heap.size, i, none⟩ = _ := fun i => blk_cell HX_p.out i
    have fr_p : ∀ i, w3.frozen? ⟨w.heap.size, i, none⟩ = false := fun i => blk_frozen HX_p.out i
    have lt_p := lt_of_block HX_p.out
    clear hb
    go_wp2
    go_ret
    refine ⟨by first | rfl | (simp; done), ?_⟩
    exact (by with_reducible repeat (first | exact HB.out | apply below_alloc | apply pw_below_drewN | apply below_drew1 | refine below_set ?_ GE_p.out))
  case pos =>
    have hne : (n.f0 != 1) = false := by simp [h1]
    obtain ⟨hn1, hn2⟩ := right_parts hr
    have NN := Aside0.mk hn2
    have F1 := Aside0.mk h1
    have HM : Aside0 (0 ≤ k % 9 ∧ k % 9 ≤ 8) := ⟨by omega⟩
    obtain ⟨q, hq⟩ : ∃ q : Nat, k % 9 = (q : Int) := ⟨(k % 9).toNat, by omega⟩
    have hq8 : q ≤ 8 := by omega
    have HQ := Aside0.mk hq
    clear h1 hr hn2 hq
    go_wp2_with ((with_reducible refine gate_dst (N := 23) rfl ?_); refine Kd.N_lit k25 w.heap.size 25 ?hg (N' := 23) ?hd (xs := [n]) (inner := [.int .i64 n.f0, .int .i64 n.f1, .int .i64 n.f2, .slice A3 n.f3.length c3, .slice A4 n.f4.length c4]) (ok := fun b => b ≠ w.heap.size) (okp := fun b => b < w.heap.size) ?hr ?hp (fun _ h => by omega) (by omega) (w0 := w) ?hB (by omega) (by simp) ?_; (case hd => rfl); (case hg => rfl); (case hr => first | (go_simp; done) | (go_simp; rfl)))
    case hp =>
      refine Reps.c5 (k25_mkF _ _ n H3.out (F_of_base (Kd.heap_int .u8) HC_n3.out ?hB1) H4.out (F_of_base k25_heap HC_n4.out ?hB1)) (Reps.none _ _)
      exact (by with_reducible repeat (first | exact HB.out | apply below_alloc | apply pw_below_drewN | apply below_drew1 | refine below_set ?_ GE_p.out))
    case hB =>
      exact (by with_reducible repeat (first | exact HB.out | apply below_alloc | apply pw_below_drewN | apply below_drew1 | refine below_set ?_ GE_p.out))
    intro v0 w3 hN hB3 hg0 b0 hb0 hb1
    have nX := Aside0.mk ((hg0.block w.heap.size (by omega) (by simp)).trans HX_p.out)
    clear HB HX_p cs_p fr_p lt_p 
    have HB := Aside0.mk hB3
    have HX_p := nX
    have HN := Aside0.mk hN
    clear nX hB3 hN hg0 hb0 hb1
    have cs_p : ∀ i, w3.cell? ⟨w.heap.size, i, none⟩ = _ := fun i => blk_cell HX_p.out i
    have fr_p : ∀ i, w3.frozen? ⟨w.heap.size, i, none⟩ = false := fun i => blk_frozen HX_p.out i
    have lt_p := lt_of_block HX_p.out
    go_wp2_with fail
    go_loopw [5, 6] (fun kv i wr => ∃ (j : Nat), j ≤ q ∧ i = .int .i64 j ∧ Aside0 (Kd.N k25 25 wr w.heap.size (fun b => b ≠ w.heap.size) kv (n :: List.replicate j em)) ∧ Aside0 (Below w.heap.size w wr) ∧ Aside0 (wr.heap[w.heap.size]? = some (.cells #[.int .i64 n.f0, .int .i64 n.f1, .int .i64 n.f2, .slice A3 n.f3.length c3, .slice A4 n.f4.length c4] 25 (0, 0)))) (fun _ i _ => q - (intOf i).toNat)
    case atStart => exact ⟨0, by omega, rfl, HN, ⟨(by with_reducible repeat (first | exact HB.out | apply below_alloc | apply pw_below_drewN | apply below_drew1 | refine below_set ?_ GE_p.out))⟩, ⟨(by with_reducible repeat (first | exact HX_p.out | (apply blk_newN; first | rfl | (simp; done)) | apply blk_alloc | apply blk_drewN | apply blk_drew))⟩⟩
    case round =>
      clear HB HX_p cs_p fr_p lt_p 
      clear HN
      obtain ⟨j, hj, rfl, HN, HB, HX_p⟩ := hrel
      have cs_p : ∀ i, wr.cell? ⟨w.heap.size, i, none⟩ = _ := fun i => blk_cell HX_p.out i
      have fr_p : ∀ i, wr.frozen? ⟨w.heap.size, i, none⟩ = false := fun i => blk_frozen HX_p.out i
      have lt_p := lt_of_block HX_p.out
      by_cases hlt : j < q
      · have ht : (j : Int) < k % 9 := by rw [HQ.out]; omega
        have hsz := HB.out.size
        go_wp2_with (at_builtin; refine Kd.N_append (w0 := w) k25 w.heap.size rfl (.tmp 31) (.tmp 33) 23 25 (.agg #[(.int .i64 0), (.int .i64 0), (.int .i64 0), (.slice none 0 0), (.slice none 0 0)]) 72 rfl Tryd.underlying23 info25 rfl (by decide) (by decide) _ _ em [.int .i64 1, .int .i64 0, .int .i64 0, .slice none 0 0, .slice none 0 0] (fun b => b ≠ w.heap.size) (fun _ => False) rfl rfl (k25_mkF _ _ em (Nat.le_refl 0) (Kd.F_nil _ _ _) (Nat.le_refl 0) (Kd.F_nil _ _ _)) (fun _ h => h.elim) (fun _ h => by omega) HN.out HB.out hsz (by simp; omega) ?_)
        intro v1 w4 hN hB4 hg4 hat
        have nX := Aside0.mk ((hg4.block w.heap.size (by have := lt_p; omega) (fun he => HN.out.1 _ he.symm rfl)).trans HX_p.out)
        clear HB HX_p cs_p fr_p lt_p 
        have HB := Aside0.mk hB4
        have HX_p := nX
        have HN2 := Aside0.mk hN
        clear nX hB4 hN hg4 hat HN
        have cs_p : ∀ i, w4.cell? ⟨w.heap.size, i, none⟩ = _ := fun i => blk_cell HX_p.out i
        have fr_p : ∀ i, w4.frozen? ⟨w.heap.size, i, none⟩ = false := fun i => blk_frozen HX_p.out i
        have lt_p := lt_of_block HX_p.out
        go_wp2_with fail
        go_roundw
        case rel => exact ⟨j + 1, by omega, by go_num, ⟨by rw [List.replicate_succ']; exact HN2.out⟩, ⟨(by with_reducible repeat (first | exact HB.out | apply below_alloc | apply pw_below_drewN | apply below_drew1 | refine below_set ?_ GE_p.out))⟩, ⟨(by with_reducible repeat (first | exact HX_p.out | (apply blk_newN; first | rfl | (simp; done)) | apply blk_alloc | apply blk_drewN | apply blk_drew))⟩⟩
        case measure => simp [intOf]; omega
      · obtain rfl : j = q := by omega
        have ht : ¬ (j : Int) < k % 9 := by rw [HQ.out]; omega
        obtain ⟨AK, cK, rfl, hlK, hCK⟩ := Kd.N_reads HN.out
        have HLK : Aside0 (j + 1 ≤ cK) := ⟨by simpa using hlK⟩
        have HC_k := Aside0.mk (show Kd.C k25 wr AK (j + 1) (n :: List.replicate j em) by simpa using hCK)
        clear HN hlK hCK
        go_wp2_with fail
        have hO : 0 ≤ obj n ∧ obj n ≤ 3000 := by
          rw [struct_obj F1.out]
          have := tsz_eq n
          have := len_tszs n.f4
          omega
        have hmul : 0 ≤ ((j : Int) + 1) * obj n ∧ ((j : Int) + 1) * obj n ≤ 27000 := by
          constructor
          · exact Int.mul_nonneg (by omega) hO.1
          · have h9 := Int.mul_le_mul_of_nonneg_right (show ((j : Int) + 1) ≤ 9 by omega) hO.1
            omega
        have hsm : 0 ≤ nsz n ∧ nsz n ≤ 13194139533312000 := by have := nsz_range n HBG.out NN.out; omega
        obtain ⟨k1, h1⟩ := (Object_has HBG.out (vld_top NN.out)).ex
        obtain ⟨k2, h2⟩ := (Node_has HBG.out NN.out).ex
        obtain ⟨k3, h3⟩ := (Object_has (cl_big hn1 hq8) (vld_top (cl_vld NN.out F1.out hq8))).ex
        obtain ⟨k4, h4⟩ := (Node_has (cl_big hn1 hq8) (cl_vld NN.out F1.out hq8)).ex
        rw [cl_obj F1.out] at h3
        rw [cl_nsz NN.out F1.out, cl_obj F1.out] at h4
        have K1 := Aside0.mk h1
        have K2 := Aside0.mk h2
        have OC : ∀ W, Glob true W → Kd.C k25 W AK (j + 1) (n :: List.replicate j em) → Calls Tryd.prog 10 #[.agg #[.int .i64 2, .int .i64 7, .int .i64 ((j : Int) + 1), .slice none 0 0, .slice AK (j + 1) cK]] W fun e w' => e = .returned (.int .i64 (1 + ((j : Int) + 1) * obj n)) ∧ Below W.heap.size W w' := fun W g c => by
          have := canonsize_Object.calls k3 2 7 ((j : Int) + 1) none 0 [] AK cK (n :: List.replicate j em) _ W g (C_nil _ _ none) (Nat.le_refl 0) (by simpa using c) (by simpa using HLK.out) h3
          simpa using this
        have NC : ∀ W, Glob true W → Kd.C k25 W AK (j + 1) (n :: List.replicate j em) → Calls Tryd.prog 12 #[.agg #[.int .i64 2, .int .i64 7, .int .i64 ((j : Int) + 1), .slice none 0 0, .slice AK (j + 1) cK]] W fun e w' => e = .returned (.int .i64 (1 + ((j : Int) + 1) * obj n + nsz n - obj n)) ∧ Below W.heap.size W w' := fun W g c => by
          have := canonsize_Node.calls k4 2 7 ((j : Int) + 1) none 0 [] AK cK (n :: List.replicate j em) _ W g (C_nil _ _ none) (Nat.le_refl 0) (by simpa using c) (by simpa using HLK.out) h4
          simpa using this
        have HOC := Aside0.mk OC
        have HNC := Aside0.mk NC
        clear h1 h2 h3 h4 OC NC
        have GE_c : Aside0 (w.heap.size ≤ wr.heap.size) := ⟨by have := HB.out.size; first | exact this | omega⟩
        refine (canonsize_Object.calls k1 n.f0 n.f1 n.f2 _ _ n.f3 _ _ n.f4 _ _ (HG.out.below (by with_reducible repeat (first | exact HB.out | apply below_alloc | apply pw_below_drewN | apply below_drew1 | refine below_set ?_ GE_p.out | refine below_set ?_ GE_c.out))) (Kd.C_below HC_n3.out (by with_reducible repeat (first | exact HB.out | apply below_alloc | apply pw_below_drewN | apply below_drew1 | refine below_set ?_ GE_p.out | refine below_set ?_ GE_c.out))) H3.out (Kd.C_below HC_n4.out (by with_reducible repeat (first | exact HB.out | apply below_alloc | apply pw_below_drewN | apply below_drew1 | refine below_set ?_ GE_p.out | refine below_set ?_ GE_c.out))) H4.out K1.out).mono ?_
        rintro e w5 ⟨rfl, hb⟩
        have nB := Aside0.mk (below_step (by with_reducible repeat (first | exact HB.out | apply below_alloc | apply pw_below_drewN | apply below_drew1 | refine below_set ?_ GE_p.out | refine below_set ?_ GE_c.out)) hb)
        have nX_p := Aside0.mk (blk_below (g := w.heap.size) (by with_reducible repeat (first | exact HX_p.out | (apply blk_newN; first | rfl | (simp; done)) | apply blk_alloc | apply blk_drewN | apply blk_drew | apply blk_far (hp := NE_p_c.out))) hb)
        have nX_c := Aside0.mk (blk_below (g := wr.heap.size) (by with_reducible repeat (first | exact HX_c.out | (apply blk_newN; first | rfl | (simp; done)) | apply blk_alloc | apply blk_drewN | apply blk_drew | apply blk_far (hp := NE_c_p.out))) hb)
        have nC_k := Aside0.mk (Kd.C_below (by repeat (first | (with_reducible first | exact HC_k.out | apply C_alloc | apply C_drewN | apply C_drew) | exact HC_k.out)) hb)
        clear HB HC_k HX_p cs_p fr_p lt_p
        have HB := nB
        clear nB
        have HC_k := nC_k
        clear nC_k
        have HX_p := nX_p
        clear nX_p
        have cs_p : ∀ i, w5.cell? ⟨w.heap.size, i, none⟩ = _ := fun i => blk_cell HX_p.out i
        have fr_p : ∀ i, w5.frozen? ⟨w.heap.size, i, none⟩ = false := fun i => blk_frozen HX_p.out i
        have lt_p := lt_of_block HX_p.out
        have HX_c := nX_c
        clear nX_c
        have cs_c : ∀ i, w5.cell? ⟨wr.heap.size, i, none⟩ = _ := fun i => blk_cell HX_c.out i
        have fr_c : ∀ i, w5.frozen? ⟨wr.heap.size, i, none⟩ = false := fun i => blk_frozen HX_c.out i
        have lt_c := lt_of_block HX_c.out
        clear hb
        go_wp2_with fail
        have hw0 : IntKind.i64.wrap (((j : Int) + 1) * obj n) = ((j : Int) + 1) * obj n := by rw [IntKind.wrap_i64]; omega
        have hw1 : IntKind.i64.wrap (1 + ((j : Int) + 1) * obj n) = 1 + ((j : Int) + 1) * obj n := by rw [IntKind.wrap_i64]; omega
        have hw2 : IntKind.i64.wrap (1 + ((j : Int) + 1) * obj n + nsz n) = 1 + ((j : Int) + 1) * obj n + nsz n := by rw [IntKind.wrap_i64]; omega
        have hw3 : IntKind.i64.wrap (1 + ((j : Int) + 1) * obj n + nsz n - obj n) = 1 + ((j : Int) + 1) * obj n + nsz n - obj n := by rw [IntKind.wrap_i64]; omega
        clear hmul hsm hO
        go_region_held3 (fun w' => Below w.heap.size w w' ∧ w'.heap[w.heap.size]? = some (.cells #[.int .i64 n.f0, .int .i64 n.f1, .int .i64 n.f2, .slice A3 n.f3.length c3, .slice A4 n.f4.length c4] 25 (0, 0)) ∧ (∀ i, w'.cell? ⟨w.heap.size, i, none⟩ = (#[.int .i64 n.f0, .int .i64 n.f1, .int .i64 n.f2, .slice A3 n.f3.length c3, .slice A4 n.f4.length c4] : Array Value)[i]?) ∧ w'.heap[wr.heap.size]? = some (.cells #[.int .i64 2, .int .i64 7, .int .i64 ((j : Int) + 1), .slice none 0 0, .slice AK (j + 1) cK] 25 (0, 0)) ∧ (∀ i, w'.cell? ⟨wr.heap.size, i, none⟩ = (#[.int .i64 2, .int .i64 7, .int .i64 ((j : Int) + 1), .slice none 0 0, .slice AK (j + 1) cK] : Array Value)[i]?)) (first | exact ⟨HB.out.drew, HX_p.out, cs_p, HX_c.out, cs_c⟩ | exact ⟨HB.out, HX_p.out, cs_p, HX_c.out, cs_c⟩) (first | (go_at_call 12; (with_reducible refine (canonsize_Node.calls k2 n.f0 n.f1 n.f2 _ _ n.f3 _ _ n.f4 _ _ (HG.out.below (by with_reducible repeat (first | exact HB.out | apply below_alloc | apply pw_below_drewN | apply below_drew1 | refine below_set ?_ GE_p.out | refine below_set ?_ GE_c.out))) (Kd.C_below HC_n3.out (by with_reducible repeat (first | exact HB.out | apply below_alloc | apply pw_below_drewN | apply below_drew1 | refine below_set ?_ GE_p.out | refine below_set ?_ GE_c.out))) H3.out (Kd.C_below HC_n4.out (by with_reducible repeat (first | exact HB.out | apply below_alloc | apply pw_below_drewN | apply below_drew1 | refine below_set ?_ GE_p.out | refine below_set ?_ GE_c.out))) H4.out K2.out).mono ?_); rintro e w9 ⟨rfl, hb⟩; (have nB := Aside0.mk (below_step (by with_reducible repeat (first | exact HB.out | apply below_alloc | apply pw_below_drewN | apply below_drew1 | refine below_set ?_ GE_p.out | refine below_set ?_ GE_c.out)) hb)); (have nX_p := Aside0.mk (blk_below (g := w.heap.size) (by with_reducible repeat (first | exact HX_p.out | (apply blk_newN; first | rfl | (simp; done)) | apply blk_alloc | apply blk_drewN | apply blk_drew | apply blk_far (hp := NE_p_c.out))) hb)); (have nX_c := Aside0.mk (blk_below (g := wr.heap.size) (by with_reducible repeat (first | exact HX_c.out | (apply blk_newN; first | rfl | (simp; done)) | apply blk_alloc | apply blk_drewN | apply blk_drew | apply blk_far (hp := NE_c_p.out))) hb)); (have nC_k := Aside0.mk (Kd.C_below (by repeat (first | (with_reducible first | exact HC_k.out | apply C_alloc | apply C_drewN | apply C_drew) | exact HC_k.out)) hb)); clear HB HC_k HX_p cs_p fr_p lt_p HX_c cs_c fr_c lt_c; (have HB := nB); clear nB; (have HC_k := nC_k); clear nC_k; (have HX_p := nX_p); clear nX_p; (have cs_p : ∀ i, w9.cell? ⟨w.heap.size, i, none⟩ = _ := fun i => blk_cell HX_p.out i); (have fr_p : ∀ i, w9.frozen? ⟨w.heap.size, i, none⟩ = false := fun i => blk_frozen HX_p.out i); (have lt_p := lt_of_block HX_p.out); (have HX_c := nX_c); clear nX_c; (have cs_c : ∀ i, w9.cell? ⟨wr.heap.size, i, none⟩ = _ := fun i => blk_cell HX_c.out i); (have fr_c : ∀ i, w9.frozen? ⟨wr.heap.size, i, none⟩ = false := fun i => blk_frozen HX_c.out i); (have lt_c := lt_of_block HX_c.out); clear hb) | (go_at_call 12; (with_reducible refine (HNC.out _ (HG.out.below (by with_reducible repeat (first | exact HB.out | apply below_alloc | apply pw_below_drewN | apply below_drew1 | refine below_set ?_ GE_p.out | refine below_set ?_ GE_c.out))) (by repeat (first | (with_reducible first | exact HC_k.out | apply C_alloc | apply C_drewN | apply C_drew) | exact HC_k.out))).mono ?_); rintro e w9 ⟨rfl, hb⟩; (have nB := Aside0.mk (below_step (by with_reducible repeat (first | exact HB.out | apply below_alloc | apply pw_below_drewN | apply below_drew1 | refine below_set ?_ GE_p.out | refine below_set ?_ GE_c.out)) hb)); (have nX_p := Aside0.mk (blk_below (g := w.heap.size) (by with_reducible repeat (first | exact HX_p.out | (apply blk_newN; first | rfl | (simp; done)) | apply blk_alloc | apply blk_drewN | apply blk_drew | apply blk_far (hp := NE_p_c.out))) hb)); (have nX_c := Aside0.mk (blk_below (g := wr.heap.size) (by with_reducible repeat (first | exact HX_c.out | (apply blk_newN; first | rfl | (simp; done)) | apply blk_alloc | apply blk_drewN | apply blk_drew | apply blk_far (hp := NE_c_p.out))) hb)); (have nC_k := Aside0.mk (Kd.C_below (by repeat (first | (with_reducible first | exact HC_k.out | apply C_alloc | apply C_drewN | apply C_drew) | exact HC_k.out)) hb)); clear HB HC_k HX_p cs_p fr_p lt_p HX_c cs_c fr_c lt_c; (have HB := nB); clear nB; (have HC_k := nC_k); clear nC_k; (have HX_p := nX_p); clear nX_p; (have cs_p : ∀ i, w9.cell? ⟨w.heap.size, i, none⟩ = _ := fun i => blk_cell HX_p.out i); (have fr_p : ∀ i, w9.frozen? ⟨w.heap.size, i, none⟩ = false := fun i => blk_frozen HX_p.out i); (have lt_p := lt_of_block HX_p.out); (have HX_c := nX_c); clear nX_c; (have cs_c : ∀ i, w9.cell? ⟨wr.heap.size, i, none⟩ = _ := fun i => blk_cell HX_c.out i); (have fr_c : ∀ i, w9.frozen? ⟨wr.heap.size, i, none⟩ = false := fun i => blk_frozen HX_c.out i); (have lt_c := lt_of_block HX_c.out); clear hb) | (go_at_call 10; (with_reducible refine (HOC.out _ (HG.out.below (by with_reducible repeat (first | exact HB.out | apply below_alloc | apply pw_below_drewN | apply below_drew1 | refine below_set ?_ GE_p.out | refine below_set ?_ GE_c.out))) (by repeat (first | (with_reducible first | exact HC_k.out | apply C_alloc | apply C_drewN | apply C_drew) | exact HC_k.out))).mono ?_); rintro e w9 ⟨rfl, hb⟩; (have nB := Aside0.mk (below_step (by with_reducible repeat (first | exact HB.out | apply below_alloc | apply pw_below_drewN | apply below_drew1 | refine below_set ?_ GE_p.out | refine below_set ?_ GE_c.out)) hb)); (have nX_p := Aside0.mk (blk_below (g := w.heap.size) (by with_reducible repeat (first | exact HX_p.out | (apply blk_newN; first | rfl | (simp; done)) | apply blk_alloc | apply blk_drewN | apply blk_drew | apply blk_far (hp := NE_p_c.out))) hb)); (have nX_c := Aside0.mk (blk_below (g := wr.heap.size) (by with_reducible repeat (first | exact HX_c.out | (apply blk_newN; first | rfl | (simp; done)) | apply blk_alloc | apply blk_drewN | apply blk_drew | apply blk_far (hp := NE_c_p.out))) hb)); (have nC_k := Aside0.mk (Kd.C_below (by repeat (first | (with_reducible first | exact HC_k.out | apply C_alloc | apply C_drewN | apply C_drew) | exact HC_k.out)) hb)); clear HB HC_k HX_p cs_p fr_p lt_p HX_c cs_c fr_c lt_c; (have HB := nB); clear nB; (have HC_k := nC_k); clear nC_k; (have HX_p := nX_p); clear nX_p; (have cs_p : ∀ i, w9.cell? ⟨w.heap.size, i, none⟩ = _ := fun i => blk_cell HX_p.out i); (have fr_p : ∀ i, w9.frozen? ⟨w.heap.size, i, none⟩ = false := fun i => blk_frozen HX_p.out i); (have lt_p := lt_of_block HX_p.out); (have HX_c := nX_c); clear nX_c; (have cs_c : ∀ i, w9.cell? ⟨wr.heap.size, i, none⟩ = _ := fun i => blk_cell HX_c.out i); (have fr_c : ∀ i, w9.frozen? ⟨wr.heap.size, i, none⟩ = false := fun i => blk_frozen HX_c.out i); (have lt_c := lt_of_block HX_c.out); clear hb))
        go_wp2
        go_ret
        refine ⟨by first | rfl | (simp; done), ?_⟩
        exact (by with_reducible repeat (first | exact HB.out | apply below_alloc | apply pw_below_drewN | apply below_drew1 | refine below_set ?_ GE_p.out | refine below_set ?_ GE_c.out))
end Go.Proofs.YtkiompgbmjoflaaDoor.P

namespace Go.Proofs.YtkiompgbmjoflaaDoor.canonsizeComposite
open Go.ChangeShapes Go.WideShapes Go.ChangeAt Go.RowKit Go.Proofs.YtkiompgbmjoflaaDoor.P Go.Proofs.YtkiompgbmjoflaaDoorW.PrintWords
open Go.ChangeMaps (open_string shut_string)
open Go.Proofs.YtkiompgbmjoflaaDoor.P
set_option linter.unusedVariables false
theorem own : ownKnob Tryd.prog.godebug = none := by kernel_rfl
theorem laidOut : laidOutB Tryd.prog = true := by kernel_rfl
theorem door_met (os : Os) (args : Array Value) : laidMetH Tryd.prog Rows.canonsizeCompositeUptoRow.laid ((World.doorLaid Tryd.prog 600 os).forCall (fun _ _ => 0) ⟨#[], args, []⟩).memory :=
  laidMetH_of_parts3 (fuel := 8) (laidMet_of_run' 8 (by kernel_rfl) (by kernel_rfl)) (by kernel_rfl) (by kernel_rfl)
set_option maxRecDepth 100000 in
set_option maxHeartbeats 1000000 in
theorem reads (os : Os) {H : Type} (enc : TypeId × Value → H) : DataW.whole enc Tryd.prog ((World.doorLaid Tryd.prog 600 os).forCall (fun _ _ => 0) ⟨#[], #[.agg #[.int .i64 0, .int .i64 0, .int .i64 0, .slice none 0 0, .slice none 0 0], .int .u8 0], []⟩).memory Tryd.f6.params.toList Rows.canonsizeCompositeSpec.vars false (#[.agg #[.int .i64 0, .int .i64 0, .int .i64 0, .slice none 0 0, .slice none 0 0], .int .u8 0] : Array Value).toList 8 = some ([.agg [.lit (.int .i64 0), .lit (.int .i64 0), .lit (.int .i64 0), .nil, .nil], .lit (.int .u8 0)], [], []) := by kernel_rfl
set_option maxRecDepth 100000 in
set_option maxHeartbeats 1000000 in
theorem lifted (os : Os) (started : os.Started) (H : Type) (enc : TypeId × Value → H) (F : Stop.Interp) :
    ReturnsInHanded {} Tryd.checked os 6 .any ((Rows.OpenSpec.upto Rows.canonsizeCompositeSpec).preRow enc Tryd.prog Tryd.f6 Rows.canonsizeCompositeUptoRow.domain false Rows.canonsizeCompositeUptoRow.laid) (((Rows.OpenSpec.upto Rows.canonsizeCompositeSpec).at F).post enc Tryd.prog Tryd.f6 false true false false) := by
  refine returnsInHanded_of_row (C := Tryd.checked) (s := (Rows.OpenSpec.upto Rows.canonsizeCompositeSpec)) own started (by kernel_rfl) Tryd.func6
    (witness_row_atRef (enc := enc) (C := Tryd.checked) false (World.doorLaid Tryd.prog 600 os) #[.agg #[.int .i64 0, .int .i64 0, .int .i64 0, .slice none 0 0, .slice none 0 0], .int .u8 0] rfl (by kernel_rfl) (by kernel_rfl) (by kernel_rfl)
      (OpenSpec.preRow_of_cond 8 (reads os enc) (by kernel_rfl) (fun k hk => by cases hk; kernel_rfl) (by kernel_rfl) (door_met os _))) ?_
  intro W base args ds gs before hval0 hW _ hcond _ hL _ _
  have hval : ∀ (j : Nat) t v, Tryd.f6.params[j]? = some t → args[j]? = some v → Value.okWide Tryd.prog W .any base t v := hval0
  have hW' := hW
  obtain ⟨p, q, hA0, hV, rfl, hfz, hnd⟩ := hW
  have hA : DataW.TrodAll enc Tryd.prog W 0 (fun _ => true) true Tryd.f6.params.toList args.toList ds p := hA0
  rw [Tryd.params6] at hA hval
  obtain ⟨v0, vs0, d0, ds0, p0, q0, hargs, rfl, rfl, h0, r0⟩ := trodAll_cons hA
  obtain ⟨v1, vs1, d1, ds1, p1, q1, rfl, rfl, rfl, h1, r1⟩ := trodAll_cons r0
  obtain ⟨rfl, rfl, rfl⟩ := trodAll_nil r1
  obtain rfl : args = #[v0, v1] := by cases args; simp_all
  obtain ⟨rfl, rfl⟩ := trodVars_none hV
  have k0 := h0
  have lt0 : ∀ x ∈ p0, x.block < W.heap.size := by obtain ⟨m, hm⟩ := k0; exact DataW.trod_lt m _ _ _ hm
  obtain ⟨u0, rfl, sz0⟩ := okWide_struct Tryd.underlying25 (hval 0 25 v0 rfl rfl)
  obtain ⟨u0⟩ := u0
  obtain ⟨fuel0, hf0⟩ := h0
  obtain ⟨n0, hK0, hD0⟩ := Node.opens enc W fuel0 _ _ hf0
  obtain ⟨A0_3, c0_3, A0_4, c0_4, hcs0, hl0_3, hr0_3, hl0_4, hr0_4⟩ := k25_open hK0
  obtain rfl : u0 = _ := hcs0
  have k1 := h1
  have lt1 : ∀ x ∈ p1, x.block < W.heap.size := by obtain ⟨m, hm⟩ := k1; exact DataW.trod_lt m _ _ _ hm
  obtain ⟨a1, rfl, _, _, w1⟩ := open_int Tryd.underlying5 (hval 1 5 v1 rfl rfl) h1
  have hG : Glob true W := ⟨fun _ => bits_of_laid hL rfl⟩
  have hbulk := of_decide_eq_true (hcond _ rfl)
  simp only [List.append_nil, Rows.uptoBulkAll] at hbulk
  refine (CanonsizeComposite_walk n0 _ _ _ _ (show tsz n0 ≤ 1048576 by have h_ : tsz n0 ≤ Rows.uptoBulk d0 := hD0.1; omega) hD0.2 a1 (bounds_u8 w1) W hr0_3 hl0_3 hr0_4 hl0_4 hG).mono fun e W' ⟨he, bel⟩ => ?_
  subst he
  exact ⟨_, rfl, _, _, _, [], _, [], hW', trodAll_mk1 (shut_bool Tryd.underlying4 _), (trodAll_cons_mk (Below.trod laidOut (by kernel_rfl) (of_decide_eq_true (by kernel_rfl)) k0 bel lt0) (trodAll_cons_mk (Below.trod laidOut (by kernel_rfl) (of_decide_eq_true (by kernel_rfl)) k1 bel lt1) trodAll_mk0)), rfl, bel.frame _, fun h => by cases h⟩
theorem over : Rows.canonsizeCompositeUptoRow.holds Tryd.pinned (Rows.OpenSpec.upto Rows.canonsizeCompositeSpec) :=
  OpenClaim.holds_of_cond 6 Tryd.f6 rfl rfl rfl rfl rfl rfl rfl ⟨rfl, rfl, rfl, rfl, rfl⟩ rfl rfl rfl rfl rfl (by kernel_rfl) Tryd.func6 (by kernel_rfl)
    (of_decide_eq_true (by kernel_rfl)) (by unfold Func.isWrapper; first | (rw [if_pos (by decide +kernel)]; kernel_rfl) | (rw [if_neg (by decide +kernel)]; exact ⟨rfl, rfl⟩))
    (fun os started H enc _ F => by rw [OpenClaim.pre_eq_preRow]; exact lifted os started H enc F)
theorem card_holds : Rows.CanonsizeCompositeUptoCardSaid :=
  Claim7.holds_tied_plain_at .later [] [.data] true (true, "21dfaa1fd6afe672d91862e975811425167d0747745aa3fb4b9766fc17991a3a") false
    over (fun _ h => by cases h) (by kernel_rfl) (fun _ h => by cases h) canonsizeCompositeUpto_row_tie rfl ⟨rfl, rfl⟩ (by kernel_rfl) rfl
    (fun f fn hf hfn => by
      obtain rfl : f = 6 := Option.some.inj ((show Tryd.prog.funcNamed "capnp/capnplaw13.CanonsizeComposite" = some 6 by kernel_rfl).symm.trans hf) |>.symm
      obtain rfl : fn = Tryd.f6 := (Option.some.inj (Tryd.func6.symm.trans hfn)).symm
      exact ⟨by kernel_rfl, fun j t ht => by
        rw [Tryd.params6] at ht
        have hm : t ∈ [25, 5] := by simpa using Array.mem_of_getElem? ht
        have hall : ([25, 5].all fun u => !Tryd.prog.wantsStandIn u) = true := by kernel_rfl
        exact (show Tryd.prog.wantsStandIn t = false by simpa using List.all_eq_true.1 hall t hm)⟩)
    (by kernel_rfl)
#print axioms card_holds
end Go.Proofs.YtkiompgbmjoflaaDoor.canonsizeComposite
namespace Go.Proofs.YtkiompgbmjoflaaDoor
theorem canonsizeComposite_holds : Go.Proofs.YtkiompgbmjoflaaDoor.Rows.CanonsizeCompositeUptoCardSaid := canonsizeComposite.card_holds
end Go.Proofs.YtkiompgbmjoflaaDoor
