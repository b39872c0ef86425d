-- Printed by this session's wip/pp.py, out of Lean's print of the program.
import Derived.Test.YtlkcmpamjheldaaPx0
import Derived.Test.YtlkcmpamjheldaaPx1
import Derived.Test.YtlkcmpamjheldaaPx3
import Derived.Test.YtlkcmpamjheldaaPx4
import Derived.Test.YtlkcmpamjheldaaPx6
import Derived.Test.YtlkcmpamjheldaaPx7
namespace Go.Proofs.Ytlkcmpamjheldaa.P
open Go.RowKit Go.Proofs.YtlkcmpamjheldaaW.PrintWords Go.Proofs.YtlkcmpamjheldaaW.PrintLast Go.Proofs.YtlkcmpamjheldaaW.PrintMore
attribute [local go_sem] max2_int min2_int max_two min_two max_three min_three max_four min_four   -- for this text's walks alone
set_option linter.unusedVariables false
set_option linter.unusedSimpArgs false

/-! ### capnplaw05_ArenaRanges: function 5 -/
mutual
def capnplaw05_ArenaRanges.j0 : Nat → List (List Int) → Int → Int → Int → Int → Bool → Option (Bool)
  | 0, _, _, _, _, _, _ => none
  | k + 1, x0, x1, x2, x3, x4, x34 => if x34 = true then ((capnplaw05_awake.f k).bind fun t191 => (some t191)) else (if (wrap64 ((wrap64 (x3)) + 1)) = 0 then (none) else ((arena_InBounds.f x0 x1 x2 (wrap64 (x3))).bind fun t192 => ((arena_InBounds.f x0 x1 x2 (Int.tmod (wrap64 (x4)) (wrap64 ((wrap64 (x3)) + 1)))).bind fun t193 => (if t193 = true then ((arena_InBounds.f x0 x1 (wrap64 (x2 + (Int.tmod (wrap64 (x4)) (wrap64 ((wrap64 (x3)) + 1))))) (wrap64 ((wrap64 (x3)) - (Int.tmod (wrap64 (x4)) (wrap64 ((wrap64 (x3)) + 1)))))).bind fun t194 => (capnplaw05_ArenaRanges.j1 k x0 x1 x2 x3 (Int.tmod (wrap64 (x4)) (wrap64 ((wrap64 (x3)) + 1))) t192 t194)) else (capnplaw05_ArenaRanges.j1 k x0 x1 x2 x3 (Int.tmod (wrap64 (x4)) (wrap64 ((wrap64 (x3)) + 1))) t192 false)))))
def capnplaw05_ArenaRanges.j1 : Nat → List (List Int) → Int → Int → Int → Int → Bool → Bool → Option (Bool)
  | 0, _, _, _, _, _, _, _ => none
  | k + 1, x0, x1, x2, x3, x11, x12, x13 => if (x12 != x13) = true then (capnplaw05_ArenaRanges.j2 k x0 x1 x2 x3 x11 x12 true) else (if x12 = true then (if x1 < 0 then (capnplaw05_ArenaRanges.j2 k x0 x1 x2 x3 x11 x12 true) else (capnplaw05_ArenaRanges.j2 k x0 x1 x2 x3 x11 x12 (decide (x1 ≥ (x0.length : Int))))) else (capnplaw05_ArenaRanges.j2 k x0 x1 x2 x3 x11 x12 false))
def capnplaw05_ArenaRanges.j2 : Nat → List (List Int) → Int → Int → Int → Int → Bool → Bool → Option (Bool)
  | 0, _, _, _, _, _, _, _ => none
  | k + 1, x0, x1, x2, x3, x11, x12, x80 => if x80 = true then (some false) else (if x12 = true then ((arena_Slice.f x0 x1 x2 x11).bind fun bt195 => ((arena_Slice.f x0 x1 (wrap64 (x2 + x11)) (wrap64 ((wrap64 (x3)) - x11))).bind fun bt199 => ((arena_Slice.f x0 x1 x2 (wrap64 (x3))).bind fun bt203 => ((some (([] : List Int) : List Int)).bind fun y207 => (if y207.length + bt195.1.length < 17592186044416 then ((some (y207 ++ bt195.1 : List Int)).bind fun y210 => (if y210.length + bt199.1.length < 17592186044416 then ((capnpref01_SameWords.f k (y210 ++ bt199.1) bt203.1).bind fun t216 => (some t216)) else (none))) else (none)))))) else (some true))
end
def capnplaw05_ArenaRanges.f (k : Nat) (l0 : List (List Int)) (a1 : Int) (a2 : Int) (a3 : Int) (a4 : Int) : Option (Bool) := (capnplaw05_awake.f k).bind fun t189 => (if t189 = true then ((capnpref04_Few.f k l0).bind fun t190 => (if t190 = true then (if a2 > 1099511627776 then (capnplaw05_ArenaRanges.j0 k l0 a1 a2 a3 a4 true) else (capnplaw05_ArenaRanges.j0 k l0 a1 a2 a3 a4 (decide (a2 < (-1099511627776))))) else (capnplaw05_ArenaRanges.j0 k l0 a1 a2 a3 a4 true))) else (capnplaw05_ArenaRanges.j0 k l0 a1 a2 a3 a4 true))
theorem capnplaw05_ArenaRanges.mono_l : ∀ k, (∀ y0 y1 y2 y3 y4 y5, LeO (capnplaw05_ArenaRanges.j0 k y0 y1 y2 y3 y4 y5) (capnplaw05_ArenaRanges.j0 (k + 1) y0 y1 y2 y3 y4 y5)) ∧ (∀ y0 y1 y2 y3 y4 y5 y6, LeO (capnplaw05_ArenaRanges.j1 k y0 y1 y2 y3 y4 y5 y6) (capnplaw05_ArenaRanges.j1 (k + 1) y0 y1 y2 y3 y4 y5 y6)) ∧ (∀ y0 y1 y2 y3 y4 y5 y6, LeO (capnplaw05_ArenaRanges.j2 k y0 y1 y2 y3 y4 y5 y6) (capnplaw05_ArenaRanges.j2 (k + 1) y0 y1 y2 y3 y4 y5 y6))
  | 0 => ⟨fun _ _ _ _ _ _ r h => by simp [capnplaw05_ArenaRanges.j0] at h, fun _ _ _ _ _ _ _ r h => by simp [capnplaw05_ArenaRanges.j1] at h, fun _ _ _ _ _ _ _ r h => by simp [capnplaw05_ArenaRanges.j2] at h⟩
  | k + 1 => by
    obtain ⟨ih0, ih1, ih2⟩ := capnplaw05_ArenaRanges.mono_l k
    refine ⟨?_, ?_, ?_⟩
    · intro y0 y1 y2 y3 y4 y5
      unfold capnplaw05_ArenaRanges.j0
      repeat' first
      | (with_reducible exact ih0 _ _ _ _ _ _)
      | (with_reducible exact ih1 _ _ _ _ _ _ _)
      | (with_reducible exact ih2 _ _ _ _ _ _ _)
      | (with_reducible exact capnplaw05_awake.mono _)
      | (with_reducible exact capnpref01_SameWords.mono _ _ _)
      | (with_reducible exact capnpref04_Few.mono _ _)
      | (with_reducible exact LeO.refl _)
      | (with_reducible exact LeO.none _)
      | (with_reducible refine LeO.ite ?_ ?_)
      | (with_reducible refine LeO.bind ?_ (fun _ => ?_))
      | exact ih0 _ _ _ _ _ _
      | exact ih1 _ _ _ _ _ _ _
      | exact ih2 _ _ _ _ _ _ _
      | exact capnplaw05_awake.mono _
      | exact capnpref01_SameWords.mono _ _ _
      | exact capnpref04_Few.mono _ _
      | exact LeO.none _
      | refine LeO.ite ?_ ?_
      | refine LeO.bind ?_ (fun _ => ?_)
    · intro y0 y1 y2 y3 y4 y5 y6
      unfold capnplaw05_ArenaRanges.j1
      repeat' first
      | (with_reducible exact ih0 _ _ _ _ _ _)
      | (with_reducible exact ih1 _ _ _ _ _ _ _)
      | (with_reducible exact ih2 _ _ _ _ _ _ _)
      | (with_reducible exact capnplaw05_awake.mono _)
      | (with_reducible exact capnpref01_SameWords.mono _ _ _)
      | (with_reducible exact capnpref04_Few.mono _ _)
      | (with_reducible exact LeO.refl _)
      | (with_reducible exact LeO.none _)
      | (with_reducible refine LeO.ite ?_ ?_)
      | (with_reducible refine LeO.bind ?_ (fun _ => ?_))
      | exact ih0 _ _ _ _ _ _
      | exact ih1 _ _ _ _ _ _ _
      | exact ih2 _ _ _ _ _ _ _
      | exact capnplaw05_awake.mono _
      | exact capnpref01_SameWords.mono _ _ _
      | exact capnpref04_Few.mono _ _
      | exact LeO.none _
      | refine LeO.ite ?_ ?_
      | refine LeO.bind ?_ (fun _ => ?_)
    · intro y0 y1 y2 y3 y4 y5 y6
      unfold capnplaw05_ArenaRanges.j2
      repeat' first
      | (with_reducible exact ih0 _ _ _ _ _ _)
      | (with_reducible exact ih1 _ _ _ _ _ _ _)
      | (with_reducible exact ih2 _ _ _ _ _ _ _)
      | (with_reducible exact capnplaw05_awake.mono _)
      | (with_reducible exact capnpref01_SameWords.mono _ _ _)
      | (with_reducible exact capnpref04_Few.mono _ _)
      | (with_reducible exact LeO.refl _)
      | (with_reducible exact LeO.none _)
      | (with_reducible refine LeO.ite ?_ ?_)
      | (with_reducible refine LeO.bind ?_ (fun _ => ?_))
      | exact ih0 _ _ _ _ _ _
      | exact ih1 _ _ _ _ _ _ _
      | exact ih2 _ _ _ _ _ _ _
      | exact capnplaw05_awake.mono _
      | exact capnpref01_SameWords.mono _ _ _
      | exact capnpref04_Few.mono _ _
      | exact LeO.none _
      | refine LeO.ite ?_ ?_
      | refine LeO.bind ?_ (fun _ => ?_)
theorem capnplaw05_ArenaRanges.mono : ∀ a0 a1 a2 a3 a4 k, LeO (capnplaw05_ArenaRanges.f k a0 a1 a2 a3 a4) (capnplaw05_ArenaRanges.f (k + 1) a0 a1 a2 a3 a4) := by
  intro a0 a1 a2 a3 a4 k
  obtain ⟨ih0, ih1, ih2⟩ := capnplaw05_ArenaRanges.mono_l k
  unfold capnplaw05_ArenaRanges.f
  repeat' first
      | (with_reducible exact ih0 _ _ _ _ _ _)
      | (with_reducible exact ih1 _ _ _ _ _ _ _)
      | (with_reducible exact ih2 _ _ _ _ _ _ _)
      | (with_reducible exact capnplaw05_awake.mono _)
      | (with_reducible exact capnpref01_SameWords.mono _ _ _)
      | (with_reducible exact capnpref04_Few.mono _ _)
      | (with_reducible exact LeO.refl _)
      | (with_reducible exact LeO.none _)
      | (with_reducible refine LeO.ite ?_ ?_)
      | (with_reducible refine LeO.bind ?_ (fun _ => ?_))
      | exact ih0 _ _ _ _ _ _
      | exact ih1 _ _ _ _ _ _ _
      | exact ih2 _ _ _ _ _ _ _
      | exact capnplaw05_awake.mono _
      | exact capnpref01_SameWords.mono _ _ _
      | exact capnpref04_Few.mono _ _
      | exact LeO.none _
      | refine LeO.ite ?_ ?_
      | refine LeO.bind ?_ (fun _ => ?_)
set_option maxHeartbeats 8000000 in
set_option maxRecDepth 100000 in
theorem capnplaw05_ArenaRanges.calls (k : Nat) (A0 : Option Addr) (c0 : Nat) (l0 : List (List Int)) (a1 : Int) (a2 : Int) (a3 : Int) (a4 : Int) (r : Bool) (w : World) (hr0 : Kd.C (Kd.slice 25 (Kd.int .u64)) w A0 l0.length l0) (hc0 : l0.length ≤ c0) (h : capnplaw05_ArenaRanges.f k l0 a1 a2 a3 a4 = some r) :
    Calls Try.prog 5 #[.slice A0 l0.length c0, .int .i64 a1, .int .i64 a2, .int .u16 a3, .int .u16 a4] w fun e w' => e = .returned (.bool r) ∧ Below w.heap.size w w' := by
  have HR0 := Aside0.mk hr0
  have HC0 := Aside0.mk hc0
  clear hr0 hc0
  have HB := Aside0.mk (Below.refl w.heap.size w)
  have H : ((capnplaw05_awake.f k).bind fun t189 => (if t189 = true then ((capnpref04_Few.f k l0).bind fun t190 => (if t190 = true then (if a2 > 1099511627776 then (capnplaw05_ArenaRanges.j0 k l0 a1 a2 a3 a4 true) else (capnplaw05_ArenaRanges.j0 k l0 a1 a2 a3 a4 (decide (a2 < (-1099511627776))))) else (capnplaw05_ArenaRanges.j0 k l0 a1 a2 a3 a4 true))) else (capnplaw05_ArenaRanges.j0 k l0 a1 a2 a3 a4 true))) = some r := h
  clear h
  have HC6 := Aside0.mk H
  clear H
  go_enter Try.func5, Try.ntmps5
  go_upto_region 1 with (fail)
  go_cut [34] (fun v34 wc => ∃ (kq : Nat) (x34_5 : Bool), v34 = .bool x34_5 ∧ Aside0 (capnplaw05_ArenaRanges.j0 kq l0 a1 a2 a3 a4 x34_5 = some r) ∧ Aside0 (kq ≤ k) ∧ Aside0 (Below w.heap.size w wc))
  case first =>
    have H := HC6.out
    clear HC6
    replace H := Option.bind_eq_some_iff.mp H
    obtain ⟨t189, A70, H⟩ := H
    replace H : (if t189 = true then ((capnpref04_Few.f k l0).bind fun t190 => (if t190 = true then (if a2 > 1099511627776 then (capnplaw05_ArenaRanges.j0 k l0 a1 a2 a3 a4 true) else (capnplaw05_ArenaRanges.j0 k l0 a1 a2 a3 a4 (decide (a2 < (-1099511627776))))) else (capnplaw05_ArenaRanges.j0 k l0 a1 a2 a3 a4 true))) else (capnplaw05_ArenaRanges.j0 k l0 a1 a2 a3 a4 true)) = some r := H
    have A7 := Aside0.mk A70
    clear A70
    by_cases c8 : t189 = true
    · subst c8
      have H1 : ((capnpref04_Few.f k l0).bind fun t190 => (if t190 = true then (if a2 > 1099511627776 then (capnplaw05_ArenaRanges.j0 k l0 a1 a2 a3 a4 true) else (capnplaw05_ArenaRanges.j0 k l0 a1 a2 a3 a4 (decide (a2 < (-1099511627776))))) else (capnplaw05_ArenaRanges.j0 k l0 a1 a2 a3 a4 true))) = some r := by rw [if_pos rfl] at H; exact H
      clear H
      have H := H1
      clear H1
      replace H := Option.bind_eq_some_iff.mp H
      obtain ⟨t190, A90, H⟩ := H
      replace H : (if t190 = true then (if a2 > 1099511627776 then (capnplaw05_ArenaRanges.j0 k l0 a1 a2 a3 a4 true) else (capnplaw05_ArenaRanges.j0 k l0 a1 a2 a3 a4 (decide (a2 < (-1099511627776))))) else (capnplaw05_ArenaRanges.j0 k l0 a1 a2 a3 a4 true)) = some r := H
      have A9 := Aside0.mk A90
      clear A90
      by_cases c10 : t190 = true
      · subst c10
        have H1 : (if a2 > 1099511627776 then (capnplaw05_ArenaRanges.j0 k l0 a1 a2 a3 a4 true) else (capnplaw05_ArenaRanges.j0 k l0 a1 a2 a3 a4 (decide (a2 < (-1099511627776))))) = some r := by rw [if_pos rfl] at H; exact H
        clear H
        have H := H1
        clear H1
        by_cases c11 : a2 > 1099511627776
        · rw [if_pos c11] at H
          have c11b0 : decide (1099511627776 < a2) = true := decide_eq_true c11
          clear c11
          (first | rw [c11b0] | (simp only [i64_w, i32_w]; rw [c11b0]) | skip)
          have H' := Aside0.mk H
          clear H
          go_wp2_with (first | ((with_reducible refine gate_callee (f := 7) rfl ?_); refine goesL_ (some 20) rfl rfl Try.func7 (by kernel_rfl) rfl #[] rfl (by (try simp only [List.map_toArray, List.map_cons, List.map_nil]); first | done | rfl | (simp only [List.length_drop, List.length_take]; rfl)) ?_; (with_reducible refine (capnplaw05_awake.calls k  true _ A7.out).mono ?_); rintro e w12 ⟨rfl, hb⟩; refine ⟨_, rfl, ?_⟩; have n0_ := Aside0.mk (below_step (by repeat (first | (with_reducible first | exact HB.out | apply below_alloc | apply pw_below_drewN | apply below_drew1) | exact HB.out)) hb); clear HB; have HB := n0_; clear n0_; (try clear hb); (try clear hb2); (try clear hk); (try clear hi)) | (go_at_call 8; (with_reducible refine (capnpref04_Few.calls k _ _ l0 true _ ?side1 ?side2 A9.out).mono ?_); (case side1 => repeat (first | exact (Kd.C_below HR0.out HB.out) | (with_reducible refine Kd.C_alloc ?_ _) | (with_reducible refine Kd.C_drewN ?_ _) | (with_reducible refine Kd.C_drew ?_))); (case side2 => exact HC0.out); rintro e w' ⟨rfl, ⟨nd, rfl⟩⟩))
          go_meet
          case rel => exact ⟨_, (true), (by first | rfl | (simp; done) | (simp [*]; done)), H', ⟨by first | omega | exact Nat.le_refl _⟩, ⟨by repeat (first | (with_reducible first | exact HB.out | apply below_alloc | apply pw_below_drewN | apply below_drew1) | exact HB.out)⟩⟩
        · rw [if_neg c11] at H
          have c11b0 : decide (1099511627776 < a2) = false := decide_eq_false c11
          clear c11
          (first | rw [c11b0] | (simp only [i64_w, i32_w]; rw [c11b0]) | skip)
          have H' := Aside0.mk H
          clear H
          go_wp2_with (first | ((with_reducible refine gate_callee (f := 7) rfl ?_); refine goesL_ (some 20) rfl rfl Try.func7 (by kernel_rfl) rfl #[] rfl (by (try simp only [List.map_toArray, List.map_cons, List.map_nil]); first | done | rfl | (simp only [List.length_drop, List.length_take]; rfl)) ?_; (with_reducible refine (capnplaw05_awake.calls k  true _ A7.out).mono ?_); rintro e w13 ⟨rfl, hb⟩; refine ⟨_, rfl, ?_⟩; have n0_ := Aside0.mk (below_step (by repeat (first | (with_reducible first | exact HB.out | apply below_alloc | apply pw_below_drewN | apply below_drew1) | exact HB.out)) hb); clear HB; have HB := n0_; clear n0_; (try clear hb); (try clear hb2); (try clear hk); (try clear hi)) | (go_at_call 8; (with_reducible refine (capnpref04_Few.calls k _ _ l0 true _ ?side1 ?side2 A9.out).mono ?_); (case side1 => repeat (first | exact (Kd.C_below HR0.out HB.out) | (with_reducible refine Kd.C_alloc ?_ _) | (with_reducible refine Kd.C_drewN ?_ _) | (with_reducible refine Kd.C_drew ?_))); (case side2 => exact HC0.out); rintro e w' ⟨rfl, ⟨nd, rfl⟩⟩))
          go_meet
          case rel => exact ⟨_, (decide (a2 < (-1099511627776))), (by first | rfl | (simp; done) | (simp [*]; done)), H', ⟨by first | omega | exact Nat.le_refl _⟩, ⟨by repeat (first | (with_reducible first | exact HB.out | apply below_alloc | apply pw_below_drewN | apply below_drew1) | exact HB.out)⟩⟩
      · replace c10 := Bool.eq_false_iff.mpr c10
        subst c10
        have H1 : (capnplaw05_ArenaRanges.j0 k l0 a1 a2 a3 a4 true) = some r := by rw [if_neg (show ¬ (false = true) by decide)] at H; exact H
        clear H
        have H := H1
        clear H1
        have H' := Aside0.mk H
        clear H
        go_wp2_with (first | ((with_reducible refine gate_callee (f := 7) rfl ?_); refine goesL_ (some 20) rfl rfl Try.func7 (by kernel_rfl) rfl #[] rfl (by (try simp only [List.map_toArray, List.map_cons, List.map_nil]); first | done | rfl | (simp only [List.length_drop, List.length_take]; rfl)) ?_; (with_reducible refine (capnplaw05_awake.calls k  true _ A7.out).mono ?_); rintro e w14 ⟨rfl, hb⟩; refine ⟨_, rfl, ?_⟩; have n0_ := Aside0.mk (below_step (by repeat (first | (with_reducible first | exact HB.out | apply below_alloc | apply pw_below_drewN | apply below_drew1) | exact HB.out)) hb); clear HB; have HB := n0_; clear n0_; (try clear hb); (try clear hb2); (try clear hk); (try clear hi)) | (go_at_call 8; (with_reducible refine (capnpref04_Few.calls k _ _ l0 false _ ?side1 ?side2 A9.out).mono ?_); (case side1 => repeat (first | exact (Kd.C_below HR0.out HB.out) | (with_reducible refine Kd.C_alloc ?_ _) | (with_reducible refine Kd.C_drewN ?_ _) | (with_reducible refine Kd.C_drew ?_))); (case side2 => exact HC0.out); rintro e w' ⟨rfl, ⟨nd, rfl⟩⟩))
        go_meet
        case rel => exact ⟨_, (true), (by first | rfl | (simp; done) | (simp [*]; done)), H', ⟨by first | omega | exact Nat.le_refl _⟩, ⟨by repeat (first | (with_reducible first | exact HB.out | apply below_alloc | apply pw_below_drewN | apply below_drew1) | exact HB.out)⟩⟩
    · replace c8 := Bool.eq_false_iff.mpr c8
      subst c8
      have H1 : (capnplaw05_ArenaRanges.j0 k l0 a1 a2 a3 a4 true) = some r := by rw [if_neg (show ¬ (false = true) by decide)] at H; exact H
      clear H
      have H := H1
      clear H1
      have H' := Aside0.mk H
      clear H
      go_wp2_with (first | ((with_reducible refine gate_callee (f := 7) rfl ?_); refine goesL_ (some 20) rfl rfl Try.func7 (by kernel_rfl) rfl #[] rfl (by (try simp only [List.map_toArray, List.map_cons, List.map_nil]); first | done | rfl | (simp only [List.length_drop, List.length_take]; rfl)) ?_; (with_reducible refine (capnplaw05_awake.calls k  false _ A7.out).mono ?_); rintro e w15 ⟨rfl, hb⟩; refine ⟨_, rfl, ?_⟩; have n0_ := Aside0.mk (below_step (by repeat (first | (with_reducible first | exact HB.out | apply below_alloc | apply pw_below_drewN | apply below_drew1) | exact HB.out)) hb); clear HB; have HB := n0_; clear n0_; (try clear hb); (try clear hb2); (try clear hk); (try clear hi)))
      go_meet
      case rel => exact ⟨_, (true), (by first | rfl | (simp; done) | (simp [*]; done)), H', ⟨by first | omega | exact Nat.le_refl _⟩, ⟨by repeat (first | (with_reducible first | exact HB.out | apply below_alloc | apply pw_below_drewN | apply below_drew1) | exact HB.out)⟩⟩
  case rest =>
    clear HC6
    try clear c1
    try clear p2
    try clear c5
    try clear c7
    try clear c8
    try clear c10
    try clear c11
    try clear c11b0
    obtain ⟨kq, x34_5, rfl, HA, HJ5, HB⟩ := hcut
    cases kq with
    | zero => exact absurd HA.out (by simp [capnplaw05_ArenaRanges.j0])
    | succ kj5 =>
      have H := HA.out
      clear HA
      simp only [capnplaw05_ArenaRanges.j0] at H
      by_cases c16 : x34_5 = true
      · subst c16
        have H1 : ((capnplaw05_awake.f kj5).bind fun t191 => (some t191)) = some r := by rw [if_pos rfl] at H; exact H
        clear H
        have H := H1
        clear H1
        replace H := Option.bind_eq_some_iff.mp H
        obtain ⟨t191, A170, H⟩ := H
        replace H : (some t191) = some r := H
        have A17 := Aside0.mk A170
        clear A170
        obtain rfl := Option.some.inj H
        go_wp2_with (first | ((with_reducible refine gate_callee (f := 7) rfl ?_); refine goesL_ (some 35) rfl rfl Try.func7 (by kernel_rfl) rfl #[] rfl (by (try simp only [List.map_toArray, List.map_cons, List.map_nil]); first | done | rfl | (simp only [List.length_drop, List.length_take]; rfl)) ?_; (with_reducible refine (capnplaw05_awake.calls kj5  t191 _ A17.out).mono ?_); rintro e w18 ⟨rfl, hb⟩; refine ⟨_, rfl, ?_⟩; have n0_ := Aside0.mk (below_step (by repeat (first | (with_reducible first | exact HB.out | apply below_alloc | apply pw_below_drewN | apply below_drew1) | exact HB.out)) hb); clear HB; have HB := n0_; clear n0_; (try clear hb); (try clear hb2); (try clear hk); (try clear hi)))
        go_ret
        exact ⟨by first | rfl | (simp [errW_none, errW_some] <;> rfl) | (simp [*, errW_none, errW_some] <;> rfl), by repeat (first | (with_reducible first | exact HB.out | apply below_alloc | apply pw_below_drewN | apply below_drew1) | exact HB.out)⟩
      · replace c16 := Bool.eq_false_iff.mpr c16
        subst c16
        have H1 : (if (wrap64 ((wrap64 (a3)) + 1)) = 0 then (none) else ((arena_InBounds.f l0 a1 a2 (wrap64 (a3))).bind fun t192 => ((arena_InBounds.f l0 a1 a2 (Int.tmod (wrap64 (a4)) (wrap64 ((wrap64 (a3)) + 1)))).bind fun t193 => (if t193 = true then ((arena_InBounds.f l0 a1 (wrap64 (a2 + (Int.tmod (wrap64 (a4)) (wrap64 ((wrap64 (a3)) + 1))))) (wrap64 ((wrap64 (a3)) - (Int.tmod (wrap64 (a4)) (wrap64 ((wrap64 (a3)) + 1)))))).bind fun t194 => (capnplaw05_ArenaRanges.j1 kj5 l0 a1 a2 a3 (Int.tmod (wrap64 (a4)) (wrap64 ((wrap64 (a3)) + 1))) t192 t194)) else (capnplaw05_ArenaRanges.j1 kj5 l0 a1 a2 a3 (Int.tmod (wrap64 (a4)) (wrap64 ((wrap64 (a3)) + 1))) t192 false))))) = some r := by rw [if_neg (show ¬ (false = true) by decide)] at H; exact H
        clear H
        have H := H1
        clear H1
        by_cases c19 : (wrap64 ((wrap64 (a3)) + 1)) = 0
        · rw [if_pos c19] at H
          exact absurd H (by simp)
        · rw [if_neg c19] at H
          have c19b0 : ((wrap64 ((wrap64 (a3)) + 1)) == 0) = false := beq_eq_false_iff_ne.mpr c19
          have c19b1 : ((wrap64 ((wrap64 (a3)) + 1)) != 0) = true := bne_iff_ne.mpr c19
          replace H := Option.bind_eq_some_iff.mp H
          obtain ⟨t192, A200, H⟩ := H
          replace H : ((arena_InBounds.f l0 a1 a2 (Int.tmod (wrap64 (a4)) (wrap64 ((wrap64 (a3)) + 1)))).bind fun t193 => (if t193 = true then ((arena_InBounds.f l0 a1 (wrap64 (a2 + (Int.tmod (wrap64 (a4)) (wrap64 ((wrap64 (a3)) + 1))))) (wrap64 ((wrap64 (a3)) - (Int.tmod (wrap64 (a4)) (wrap64 ((wrap64 (a3)) + 1)))))).bind fun t194 => (capnplaw05_ArenaRanges.j1 kj5 l0 a1 a2 a3 (Int.tmod (wrap64 (a4)) (wrap64 ((wrap64 (a3)) + 1))) t192 t194)) else (capnplaw05_ArenaRanges.j1 kj5 l0 a1 a2 a3 (Int.tmod (wrap64 (a4)) (wrap64 ((wrap64 (a3)) + 1))) t192 false))) = some r := H
          have A20 := Aside0.mk A200
          clear A200
          have HC21 := Aside0.mk H
          clear H
          go_upto_region 5 with (first | ((with_reducible refine gate_callee (f := 14) rfl ?_); refine goesL_ (some 47) rfl rfl Try.func14 (by kernel_rfl) rfl #[.slice A0 l0.length c0, .int .i64 a1, .int .i64 a2, .int .i64 (wrap64 (a3))] rfl (by (try simp only [List.map_toArray, List.map_cons, List.map_nil]); first | done | rfl | (simp only [List.length_drop, List.length_take]; rfl)) ?_; (with_reducible refine (arena_InBounds.calls _ _ l0 a1 a2 (wrap64 (a3)) t192 _ ?side1 ?side2 A20.out).mono ?_); (case side1 => repeat (first | exact (Kd.C_below HR0.out HB.out) | (with_reducible refine Kd.C_alloc ?_ _) | (with_reducible refine Kd.C_drewN ?_ _) | (with_reducible refine Kd.C_drew ?_))); (case side2 => exact HC0.out); rintro e w' ⟨rfl, ⟨nd, rfl⟩⟩; refine ⟨_, rfl, ?_⟩))
          (try simp only [Act.put, List.setIfInBounds_toArray, List.set_cons_zero, List.set_cons_succ])
          go_cut [13] (fun v13 wc => ∃ (kq : Nat) (x13_20 : Bool), v13 = .bool x13_20 ∧ Aside0 (capnplaw05_ArenaRanges.j1 kq l0 a1 a2 a3 (Int.tmod (wrap64 (a4)) (wrap64 ((wrap64 (a3)) + 1))) t192 x13_20 = some r) ∧ Aside0 (kq ≤ kj5) ∧ Aside0 (Below w.heap.size w wc))
          case first =>
            have H := HC21.out
            clear HC21
            replace H := Option.bind_eq_some_iff.mp H
            obtain ⟨t193, A220, H⟩ := H
            replace H : (if t193 = true then ((arena_InBounds.f l0 a1 (wrap64 (a2 + (Int.tmod (wrap64 (a4)) (wrap64 ((wrap64 (a3)) + 1))))) (wrap64 ((wrap64 (a3)) - (Int.tmod (wrap64 (a4)) (wrap64 ((wrap64 (a3)) + 1)))))).bind fun t194 => (capnplaw05_ArenaRanges.j1 kj5 l0 a1 a2 a3 (Int.tmod (wrap64 (a4)) (wrap64 ((wrap64 (a3)) + 1))) t192 t194)) else (capnplaw05_ArenaRanges.j1 kj5 l0 a1 a2 a3 (Int.tmod (wrap64 (a4)) (wrap64 ((wrap64 (a3)) + 1))) t192 false)) = some r := H
            have A22 := Aside0.mk A220
            clear A220
            by_cases c23 : t193 = true
            · subst c23
              have H1 : ((arena_InBounds.f l0 a1 (wrap64 (a2 + (Int.tmod (wrap64 (a4)) (wrap64 ((wrap64 (a3)) + 1))))) (wrap64 ((wrap64 (a3)) - (Int.tmod (wrap64 (a4)) (wrap64 ((wrap64 (a3)) + 1)))))).bind fun t194 => (capnplaw05_ArenaRanges.j1 kj5 l0 a1 a2 a3 (Int.tmod (wrap64 (a4)) (wrap64 ((wrap64 (a3)) + 1))) t192 t194)) = some r := by rw [if_pos rfl] at H; exact H
              clear H
              have H := H1
              clear H1
              replace H := Option.bind_eq_some_iff.mp H
              obtain ⟨t194, A240, H⟩ := H
              replace H : (capnplaw05_ArenaRanges.j1 kj5 l0 a1 a2 a3 (Int.tmod (wrap64 (a4)) (wrap64 ((wrap64 (a3)) + 1))) t192 t194) = some r := H
              have A24 := Aside0.mk A240
              clear A240
              have H' := Aside0.mk H
              clear H
              go_wp2_with (first | ((with_reducible refine gate_callee (f := 14) rfl ?_); refine goesL_ (some 52) rfl rfl Try.func14 (by kernel_rfl) rfl #[.slice A0 l0.length c0, .int .i64 a1, .int .i64 a2, .int .i64 (Int.tmod (wrap64 (a4)) (wrap64 ((wrap64 (a3)) + 1)))] rfl (by (try simp only [List.map_toArray, List.map_cons, List.map_nil]); first | done | rfl | (simp only [List.length_drop, List.length_take]; rfl)) ?_; (with_reducible refine (arena_InBounds.calls _ _ l0 a1 a2 (Int.tmod (wrap64 (a4)) (wrap64 ((wrap64 (a3)) + 1))) true _ ?side1 ?side2 A22.out).mono ?_); (case side1 => repeat (first | exact (Kd.C_below HR0.out HB.out) | (with_reducible refine Kd.C_alloc ?_ _) | (with_reducible refine Kd.C_drewN ?_ _) | (with_reducible refine Kd.C_drew ?_))); (case side2 => exact HC0.out); rintro e w' ⟨rfl, ⟨nd, rfl⟩⟩; refine ⟨_, rfl, ?_⟩) | (go_at_call 14; (with_reducible refine (arena_InBounds.calls _ _ l0 a1 (wrap64 (a2 + (Int.tmod (wrap64 (a4)) (wrap64 ((wrap64 (a3)) + 1))))) (wrap64 ((wrap64 (a3)) - (Int.tmod (wrap64 (a4)) (wrap64 ((wrap64 (a3)) + 1))))) t194 _ ?side1 ?side2 A24.out).mono ?_); (case side1 => repeat (first | exact (Kd.C_below HR0.out (by repeat (first | (with_reducible first | exact HB.out | apply below_alloc | apply pw_below_drewN | apply below_drew1) | exact HB.out))) | (with_reducible refine Kd.C_alloc ?_ _) | (with_reducible refine Kd.C_drewN ?_ _) | (with_reducible refine Kd.C_drew ?_))); (case side2 => exact HC0.out); rintro e w' ⟨rfl, ⟨nd, rfl⟩⟩))
              go_meet
              case rel => exact ⟨_, (t194), (by first | rfl | (simp; done) | (simp [*]; done)), H', ⟨by have := HJ5.out; first | omega | exact Nat.le_refl _⟩, ⟨by repeat (first | (with_reducible first | exact HB.out | apply below_alloc | apply pw_below_drewN | apply below_drew1) | exact HB.out)⟩⟩
            · replace c23 := Bool.eq_false_iff.mpr c23
              subst c23
              have H1 : (capnplaw05_ArenaRanges.j1 kj5 l0 a1 a2 a3 (Int.tmod (wrap64 (a4)) (wrap64 ((wrap64 (a3)) + 1))) t192 false) = some r := by rw [if_neg (show ¬ (false = true) by decide)] at H; exact H
              clear H
              have H := H1
              clear H1
              have H' := Aside0.mk H
              clear H
              go_wp2_with (first | ((with_reducible refine gate_callee (f := 14) rfl ?_); refine goesL_ (some 52) rfl rfl Try.func14 (by kernel_rfl) rfl #[.slice A0 l0.length c0, .int .i64 a1, .int .i64 a2, .int .i64 (Int.tmod (wrap64 (a4)) (wrap64 ((wrap64 (a3)) + 1)))] rfl (by (try simp only [List.map_toArray, List.map_cons, List.map_nil]); first | done | rfl | (simp only [List.length_drop, List.length_take]; rfl)) ?_; (with_reducible refine (arena_InBounds.calls _ _ l0 a1 a2 (Int.tmod (wrap64 (a4)) (wrap64 ((wrap64 (a3)) + 1))) false _ ?side1 ?side2 A22.out).mono ?_); (case side1 => repeat (first | exact (Kd.C_below HR0.out HB.out) | (with_reducible refine Kd.C_alloc ?_ _) | (with_reducible refine Kd.C_drewN ?_ _) | (with_reducible refine Kd.C_drew ?_))); (case side2 => exact HC0.out); rintro e w' ⟨rfl, ⟨nd, rfl⟩⟩; refine ⟨_, rfl, ?_⟩))
              go_meet
              case rel => exact ⟨_, (false), (by first | rfl | (simp; done) | (simp [*]; done)), H', ⟨by have := HJ5.out; first | omega | exact Nat.le_refl _⟩, ⟨by repeat (first | (with_reducible first | exact HB.out | apply below_alloc | apply pw_below_drewN | apply below_drew1) | exact HB.out)⟩⟩
          case rest =>
            clear HC21
            try clear c1
            try clear c2
            try clear p2
            try clear c5
            try clear p6
            try clear c7
            try clear c8
            try clear c10
            try clear c11
            try clear c11b0
            try clear c14
            try clear c16
            try clear c19
            try clear c19b0
            try clear c19b1
            try clear c23
            try clear p2
            obtain ⟨kq, x13_20, rfl, HA, HJ20, HB⟩ := hcut
            cases kq with
            | zero => exact absurd HA.out (by simp [capnplaw05_ArenaRanges.j1])
            | succ kj20 =>
              have H := HA.out
              clear HA
              simp only [capnplaw05_ArenaRanges.j1] at H
              have HC25 := Aside0.mk H
              clear H
              go_upto_region 6 with (fail)
              go_cut [80] (fun v80 wc => ∃ (kq : Nat) (x80_24 : Bool), v80 = .bool x80_24 ∧ Aside0 (capnplaw05_ArenaRanges.j2 kq l0 a1 a2 a3 (Int.tmod (wrap64 (a4)) (wrap64 ((wrap64 (a3)) + 1))) t192 x80_24 = some r) ∧ Aside0 (kq ≤ kj20) ∧ Aside0 (Below w.heap.size w wc))
              case first =>
                have H := HC25.out
                clear HC25
                by_cases c26 : (t192 != x13_20) = true
                · rw [if_pos c26] at H
                  have c26b0 : (t192 != x13_20) = true := c26
                  (try (have c26b1 : decide (t192 = x13_20) = false := by simpa using c26))
                  (try (have c26b2 : (t192 == x13_20) = false := by simpa using c26))
                  (try (have c26b3 : ¬ (t192 = x13_20) := by simpa using c26))
                  clear c26
                  (first | rw [c26b0] | (simp only [i64_w, i32_w]; rw [c26b0]) | skip)
                  have H' := Aside0.mk H
                  clear H
                  go_wp2
                  go_meet
                  case rel => exact ⟨_, (true), (by first | rfl | (simp; done) | (simp [*]; done)), H', ⟨by have := HJ5.out; have := HJ20.out; first | omega | exact Nat.le_refl _⟩, ⟨by repeat (first | (with_reducible first | exact HB.out | apply below_alloc | apply pw_below_drewN | apply below_drew1) | exact HB.out)⟩⟩
                · rw [if_neg c26] at H
                  have c26b0 : (t192 != x13_20) = false := by simpa using c26
                  (try (have c26b1 : decide (t192 = x13_20) = true := by simpa using c26))
                  (try (have c26b2 : (t192 == x13_20) = true := by simpa using c26))
                  clear c26
                  (first | rw [c26b0] | (simp only [i64_w, i32_w]; rw [c26b0]) | skip)
                  by_cases c27 : t192 = true
                  · subst c27
                    have H1 : (if a1 < 0 then (capnplaw05_ArenaRanges.j2 kj20 l0 a1 a2 a3 (Int.tmod (wrap64 (a4)) (wrap64 ((wrap64 (a3)) + 1))) true true) else (capnplaw05_ArenaRanges.j2 kj20 l0 a1 a2 a3 (Int.tmod (wrap64 (a4)) (wrap64 ((wrap64 (a3)) + 1))) true (decide (a1 ≥ (l0.length : Int))))) = some r := by rw [if_pos rfl] at H; exact H
                    clear H
                    have H := H1
                    clear H1
                    by_cases c28 : a1 < 0
                    · rw [if_pos c28] at H
                      have c28b0 : decide (a1 < 0) = true := decide_eq_true c28
                      clear c28
                      have H' := Aside0.mk H
                      clear H
                      go_wp2
                      go_meet
                      case rel => exact ⟨_, (true), (by first | rfl | (simp; done) | (simp [*]; done)), H', ⟨by have := HJ5.out; have := HJ20.out; first | omega | exact Nat.le_refl _⟩, ⟨by repeat (first | (with_reducible first | exact HB.out | apply below_alloc | apply pw_below_drewN | apply below_drew1) | exact HB.out)⟩⟩
                    · rw [if_neg c28] at H
                      have c28b0 : decide (a1 < 0) = false := decide_eq_false c28
                      clear c28
                      have H' := Aside0.mk H
                      clear H
                      go_wp2
                      go_meet
                      case rel => exact ⟨_, (decide (a1 ≥ (l0.length : Int))), (by first | rfl | (simp; done) | (simp [*]; done)), H', ⟨by have := HJ5.out; have := HJ20.out; first | omega | exact Nat.le_refl _⟩, ⟨by repeat (first | (with_reducible first | exact HB.out | apply below_alloc | apply pw_below_drewN | apply below_drew1) | exact HB.out)⟩⟩
                  · replace c27 := Bool.eq_false_iff.mpr c27
                    subst c27
                    have H1 : (capnplaw05_ArenaRanges.j2 kj20 l0 a1 a2 a3 (Int.tmod (wrap64 (a4)) (wrap64 ((wrap64 (a3)) + 1))) false false) = some r := by rw [if_neg (show ¬ (false = true) by decide)] at H; exact H
                    clear H
                    have H := H1
                    clear H1
                    have H' := Aside0.mk H
                    clear H
                    go_wp2
                    go_meet
                    case rel => exact ⟨_, (false), (by first | rfl | (simp; done) | (simp [*]; done)), H', ⟨by have := HJ5.out; have := HJ20.out; first | omega | exact Nat.le_refl _⟩, ⟨by repeat (first | (with_reducible first | exact HB.out | apply below_alloc | apply pw_below_drewN | apply below_drew1) | exact HB.out)⟩⟩
              case rest =>
                clear HC25
                try clear c1
                try clear c2
                try clear p2
                try clear c5
                try clear p6
                try clear c7
                try clear c8
                try clear c10
                try clear c11
                try clear c11b0
                try clear c14
                try clear c16
                try clear c19
                try clear c19b0
                try clear c19b1
                try clear c23
                try clear c26
                try clear c26b0
                try clear c26b1
                try clear c26b2
                try clear c27
                try clear c28
                try clear c28b0
                try clear p2
                try clear p6
                obtain ⟨kq, x80_24, rfl, HA, HJ24, HB⟩ := hcut
                cases kq with
                | zero => exact absurd HA.out (by simp [capnplaw05_ArenaRanges.j2])
                | succ kj24 =>
                  have H := HA.out
                  clear HA
                  simp only [capnplaw05_ArenaRanges.j2] at H
                  by_cases c29 : x80_24 = true
                  · subst c29
                    have H1 : (some false) = some r := by rw [if_pos rfl] at H; exact H
                    clear H
                    have H := H1
                    clear H1
                    obtain rfl := Option.some.inj H
                    go_wp2
                    go_ret
                    exact ⟨by first | rfl | (simp [errW_none, errW_some] <;> rfl) | (simp [*, errW_none, errW_some] <;> rfl), by repeat (first | (with_reducible first | exact HB.out | apply below_alloc | apply pw_below_drewN | apply below_drew1) | exact HB.out)⟩
                  · replace c29 := Bool.eq_false_iff.mpr c29
                    subst c29
                    have H1 : (if t192 = true then ((arena_Slice.f l0 a1 a2 (Int.tmod (wrap64 (a4)) (wrap64 ((wrap64 (a3)) + 1)))).bind fun bt195 => ((arena_Slice.f l0 a1 (wrap64 (a2 + (Int.tmod (wrap64 (a4)) (wrap64 ((wrap64 (a3)) + 1))))) (wrap64 ((wrap64 (a3)) - (Int.tmod (wrap64 (a4)) (wrap64 ((wrap64 (a3)) + 1)))))).bind fun bt199 => ((arena_Slice.f l0 a1 a2 (wrap64 (a3))).bind fun bt203 => ((some (([] : List Int) : List Int)).bind fun y207 => (if y207.length + bt195.1.length < 17592186044416 then ((some (y207 ++ bt195.1 : List Int)).bind fun y210 => (if y210.length + bt199.1.length < 17592186044416 then ((capnpref01_SameWords.f kj24 (y210 ++ bt199.1) bt203.1).bind fun t216 => (some t216)) else (none))) else (none)))))) else (some true)) = some r := by rw [if_neg (show ¬ (false = true) by decide)] at H; exact H
                    clear H
                    have H := H1
                    clear H1
                    by_cases c30 : t192 = true
                    · subst c30
                      have H1 : ((arena_Slice.f l0 a1 a2 (Int.tmod (wrap64 (a4)) (wrap64 ((wrap64 (a3)) + 1)))).bind fun bt195 => ((arena_Slice.f l0 a1 (wrap64 (a2 + (Int.tmod (wrap64 (a4)) (wrap64 ((wrap64 (a3)) + 1))))) (wrap64 ((wrap64 (a3)) - (Int.tmod (wrap64 (a4)) (wrap64 ((wrap64 (a3)) + 1)))))).bind fun bt199 => ((arena_Slice.f l0 a1 a2 (wrap64 (a3))).bind fun bt203 => ((some (([] : List Int) : List Int)).bind fun y207 => (if y207.length + bt195.1.length < 17592186044416 then ((some (y207 ++ bt195.1 : List Int)).bind fun y210 => (if y210.length + bt199.1.length < 17592186044416 then ((capnpref01_SameWords.f kj24 (y210 ++ bt199.1) bt203.1).bind fun t216 => (some t216)) else (none))) else (none)))))) = some r := by rw [if_pos rfl] at H; exact H
                      clear H
                      have H := H1
                      clear H1
                      replace H := Option.bind_eq_some_iff.mp H
                      obtain ⟨⟨t195, t196⟩, A310, H⟩ := H
                      replace H : ((arena_Slice.f l0 a1 (wrap64 (a2 + (Int.tmod (wrap64 (a4)) (wrap64 ((wrap64 (a3)) + 1))))) (wrap64 ((wrap64 (a3)) - (Int.tmod (wrap64 (a4)) (wrap64 ((wrap64 (a3)) + 1)))))).bind fun bt199 => ((arena_Slice.f l0 a1 a2 (wrap64 (a3))).bind fun bt203 => ((some (([] : List Int) : List Int)).bind fun y207 => (if y207.length + t195.length < 17592186044416 then ((some (y207 ++ t195 : List Int)).bind fun y210 => (if y210.length + bt199.1.length < 17592186044416 then ((capnpref01_SameWords.f kj24 (y210 ++ bt199.1) bt203.1).bind fun t216 => (some t216)) else (none))) else (none))))) = some r := H
                      have A31 := Aside0.mk A310
                      clear A310
                      replace H := Option.bind_eq_some_iff.mp H
                      obtain ⟨⟨t199, t200⟩, A320, H⟩ := H
                      replace H : ((arena_Slice.f l0 a1 a2 (wrap64 (a3))).bind fun bt203 => ((some (([] : List Int) : List Int)).bind fun y207 => (if y207.length + t195.length < 17592186044416 then ((some (y207 ++ t195 : List Int)).bind fun y210 => (if y210.length + t199.length < 17592186044416 then ((capnpref01_SameWords.f kj24 (y210 ++ t199) bt203.1).bind fun t216 => (some t216)) else (none))) else (none)))) = some r := H
                      have A32 := Aside0.mk A320
                      clear A320
                      replace H := Option.bind_eq_some_iff.mp H
                      obtain ⟨⟨t203, t204⟩, A330, H⟩ := H
                      replace H : ((some (([] : List Int) : List Int)).bind fun y207 => (if y207.length + t195.length < 17592186044416 then ((some (y207 ++ t195 : List Int)).bind fun y210 => (if y210.length + t199.length < 17592186044416 then ((capnpref01_SameWords.f kj24 (y210 ++ t199) t203).bind fun t216 => (some t216)) else (none))) else (none))) = some r := H
                      have A33 := Aside0.mk A330
                      clear A330
                      obtain ⟨y207, hy207⟩ : ∃ y_ : List Int, y_ = (([] : List Int)) := ⟨_, rfl⟩
                      replace H : (if y207.length + t195.length < 17592186044416 then ((some (y207 ++ t195 : List Int)).bind fun y210 => (if y210.length + t199.length < 17592186044416 then ((capnpref01_SameWords.f kj24 (y210 ++ t199) t203).bind fun t216 => (some t216)) else (none))) else (none)) = some r := by first | (rw [hy207]; with_reducible exact H) | (have H2_ := (Option.bind_some _ _).symm.trans H; rw [hy207]; with_reducible exact H2_) | (have H2_ := (Option.bind_some _ _).symm.trans H; with_reducible exact H2_) | with_reducible exact H | (rw [hy207]; exact H) | exact H
                      have Ny207 := Aside0.mk hy207
                      clear hy207
                      by_cases c34 : y207.length + t195.length < 17592186044416
                      · rw [if_pos c34] at H
                        have LMc34 := Aside0.mk c34
                        clear c34
                        obtain ⟨y210, hy210⟩ : ∃ y_ : List Int, y_ = (y207 ++ t195) := ⟨_, rfl⟩
                        replace H : (if y210.length + t199.length < 17592186044416 then ((capnpref01_SameWords.f kj24 (y210 ++ t199) t203).bind fun t216 => (some t216)) else (none)) = some r := by first | (rw [hy210]; with_reducible exact H) | (have H2_ := (Option.bind_some _ _).symm.trans H; rw [hy210]; with_reducible exact H2_) | (have H2_ := (Option.bind_some _ _).symm.trans H; with_reducible exact H2_) | with_reducible exact H | (rw [hy210]; exact H) | exact H
                        have Ny210 := Aside0.mk hy210
                        clear hy210
                        by_cases c35 : y210.length + t199.length < 17592186044416
                        · rw [if_pos c35] at H
                          have LMc35 := Aside0.mk c35
                          clear c35
                          obtain ⟨y213, hy213⟩ : ∃ y_ : List Int, y_ = (y210 ++ t199) := ⟨_, rfl⟩
                          replace H : ((capnpref01_SameWords.f kj24 y213 t203).bind fun t216 => (some t216)) = some r := by first | (rw [hy213]; with_reducible exact H) | (have H2_ := (Option.bind_some _ _).symm.trans H; rw [hy213]; with_reducible exact H2_) | (have H2_ := (Option.bind_some _ _).symm.trans H; with_reducible exact H2_) | with_reducible exact H | (rw [hy213]; exact H) | exact H
                          have Ny213 := Aside0.mk hy213
                          clear hy213
                          replace H := Option.bind_eq_some_iff.mp H
                          obtain ⟨t216, A360, H⟩ := H
                          replace H : (some t216) = some r := H
                          have A36 := Aside0.mk A360
                          clear A360
                          obtain rfl := Option.some.inj H
                          go_wp2_with (first | ((with_reducible refine gate_callee (f := 11) rfl ?_); refine goesL_ (some 88) rfl rfl Try.func11 (by kernel_rfl) rfl #[.slice A0 l0.length c0, .int .i64 a1, .int .i64 a2, .int .i64 (Int.tmod (wrap64 (a4)) (wrap64 ((wrap64 (a3)) + 1)))] rfl (by (try simp only [List.map_toArray, List.map_cons, List.map_nil]); first | done | rfl | (simp only [List.length_drop, List.length_take]; rfl)) ?_; (with_reducible refine (arena_Slice.calls _ _ l0 a1 a2 (Int.tmod (wrap64 (a4)) (wrap64 ((wrap64 (a3)) + 1))) t195 t196 _ ?side1 ?side2 A31.out).mono ?_); (case side1 => repeat (first | exact (Kd.C_below HR0.out HB.out) | (with_reducible refine Kd.C_alloc ?_ _) | (with_reducible refine Kd.C_drewN ?_ _) | (with_reducible refine Kd.C_drew ?_))); (case side2 => exact HC0.out); rintro e w37 ⟨v197, rfl, ho0, hb⟩; refine ⟨_, rfl, ?_⟩; have n0_ := Aside0.mk (Kd.R_lower ho0 (below_size (by repeat (first | (with_reducible first | exact HB.out | apply below_alloc | apply pw_below_drewN | apply below_drew1) | exact HB.out)))); have n1_ := Aside0.mk (below_step (by repeat (first | (with_reducible first | exact HB.out | apply below_alloc | apply pw_below_drewN | apply below_drew1) | exact HB.out)) hb); clear HB; have HO198 := n0_; have HB := n1_; clear n0_ n1_; (try clear hb); (try clear hb2); (try clear hk); (try clear hi); (try clear ho0)) | ((with_reducible refine gate_callee (f := 11) rfl ?_); refine goesL_ (some 101) rfl rfl Try.func11 (by kernel_rfl) rfl #[.slice A0 l0.length c0, .int .i64 a1, .int .i64 (wrap64 (a2 + (Int.tmod (wrap64 (a4)) (wrap64 ((wrap64 (a3)) + 1))))), .int .i64 (wrap64 ((wrap64 (a3)) - (Int.tmod (wrap64 (a4)) (wrap64 ((wrap64 (a3)) + 1)))))] rfl (by (try simp only [List.map_toArray, List.map_cons, List.map_nil]); first | done | rfl | (simp only [List.length_drop, List.length_take]; rfl)) ?_; (with_reducible refine (arena_Slice.calls _ _ l0 a1 (wrap64 (a2 + (Int.tmod (wrap64 (a4)) (wrap64 ((wrap64 (a3)) + 1))))) (wrap64 ((wrap64 (a3)) - (Int.tmod (wrap64 (a4)) (wrap64 ((wrap64 (a3)) + 1))))) t199 t200 _ ?side1 ?side2 A32.out).mono ?_); (case side1 => repeat (first | exact (Kd.C_below HR0.out HB.out) | (with_reducible refine Kd.C_alloc ?_ _) | (with_reducible refine Kd.C_drewN ?_ _) | (with_reducible refine Kd.C_drew ?_))); (case side2 => exact HC0.out); rintro e w38 ⟨v201, rfl, ho0, hb⟩; refine ⟨_, rfl, ?_⟩; have n0_ := Aside0.mk (Kd.R_elder' (by (with_reducible repeat (first | apply Kd.R_alloc | apply Kd.R_drewN | apply Kd.R_drew)); exact HO198.out) (Kd.R_base ho0) hb); have n1_ := Aside0.mk (Kd.R_lower (Kd.R_new' ho0 (Kd.R_lt (by (with_reducible repeat (first | apply Kd.R_alloc | apply Kd.R_drewN | apply Kd.R_drew)); exact HO198.out))) (below_size (by repeat (first | (with_reducible first | exact HB.out | apply below_alloc | apply pw_below_drewN | apply below_drew1) | exact HB.out)))); have n2_ := Aside0.mk (below_step (by repeat (first | (with_reducible first | exact HB.out | apply below_alloc | apply pw_below_drewN | apply below_drew1) | exact HB.out)) hb); clear HO198; clear HB; have HO198 := n0_; have HO202 := n1_; have HB := n2_; clear n0_ n1_ n2_; (try clear hb); (try clear hb2); (try clear hk); (try clear hi); (try clear ho0)) | ((with_reducible refine gate_callee (f := 11) rfl ?_); refine goesL_ (some 110) rfl rfl Try.func11 (by kernel_rfl) rfl #[.slice A0 l0.length c0, .int .i64 a1, .int .i64 a2, .int .i64 (wrap64 (a3))] rfl (by (try simp only [List.map_toArray, List.map_cons, List.map_nil]); first | done | rfl | (simp only [List.length_drop, List.length_take]; rfl)) ?_; (with_reducible refine (arena_Slice.calls _ _ l0 a1 a2 (wrap64 (a3)) t203 t204 _ ?side1 ?side2 A33.out).mono ?_); (case side1 => repeat (first | exact (Kd.C_below HR0.out HB.out) | (with_reducible refine Kd.C_alloc ?_ _) | (with_reducible refine Kd.C_drewN ?_ _) | (with_reducible refine Kd.C_drew ?_))); (case side2 => exact HC0.out); rintro e w39 ⟨v205, rfl, ho0, hb⟩; refine ⟨_, rfl, ?_⟩; have n0_ := Aside0.mk (Kd.R_elder' (by (with_reducible repeat (first | apply Kd.R_alloc | apply Kd.R_drewN | apply Kd.R_drew)); exact HO198.out) (Kd.R_base ho0) hb); have n1_ := Aside0.mk (Kd.R_elder' (by (with_reducible repeat (first | apply Kd.R_alloc | apply Kd.R_drewN | apply Kd.R_drew)); exact HO202.out) (Kd.R_base ho0) hb); have n2_ := Aside0.mk (Kd.R_lower (Kd.R_new' (Kd.R_new' ho0 (Kd.R_lt (by (with_reducible repeat (first | apply Kd.R_alloc | apply Kd.R_drewN | apply Kd.R_drew)); exact HO198.out))) (Kd.R_lt (by (with_reducible repeat (first | apply Kd.R_alloc | apply Kd.R_drewN | apply Kd.R_drew)); exact HO202.out))) (below_size (by repeat (first | (with_reducible first | exact HB.out | apply below_alloc | apply pw_below_drewN | apply below_drew1) | exact HB.out)))); have n3_ := Aside0.mk (below_step (by repeat (first | (with_reducible first | exact HB.out | apply below_alloc | apply pw_below_drewN | apply below_drew1) | exact HB.out)) hb); clear HO198; clear HO202; clear HB; have HO198 := n0_; have HO202 := n1_; have HO206 := n2_; have HB := n3_; clear n0_ n1_ n2_ n3_; (try clear hb); (try clear hb2); (try clear hk); (try clear hi); (try clear ho0)) | ((with_reducible refine gate_dst (N := 113) rfl ?_); (try (refine gate_guard (by rfl) ?_; dsimp only)); refine Kd.R_lit (Kd.int .u64) _ 25 ?hg (N := 113) ?hd (xs := ([] : List Int)) (inner := []) (ok := fun _ => True) (okp := fun _ => True) ?hr ?hp (fun _ hk => hk) trivial (Below.refl _ _) (Nat.le_refl _) (by simp) ?_; (case hd => rfl); (case hg => rfl); (case hr => first | (go_simp; done) | (go_simp; rfl)); (case hp => exact (Reps.none _ _)); intro v208 w40 ho41 hb hg_ hnew_; clear hg_ hnew_; (first | rw [← Ny207.out] at ho41 | (simp only [Int.reduceToNat] at ho41; rw [← Ny207.out] at ho41)); have n0_ := Aside0.mk (Kd.R_elder' (by (with_reducible repeat (first | apply Kd.R_alloc | apply Kd.R_drewN | apply Kd.R_drew)); exact HO198.out) (Kd.R_base ho41) hb); have n1_ := Aside0.mk (Kd.R_elder' (by (with_reducible repeat (first | apply Kd.R_alloc | apply Kd.R_drewN | apply Kd.R_drew)); exact HO202.out) (Kd.R_base ho41) hb); have n2_ := Aside0.mk (Kd.R_elder' (by (with_reducible repeat (first | apply Kd.R_alloc | apply Kd.R_drewN | apply Kd.R_drew)); exact HO206.out) (Kd.R_base ho41) hb); have n3_ := Aside0.mk (Kd.R_lower (Kd.R_new' (Kd.R_new' (Kd.R_new' ho41 (Kd.R_lt (by (with_reducible repeat (first | apply Kd.R_alloc | apply Kd.R_drewN | apply Kd.R_drew)); exact HO198.out))) (Kd.R_lt (by (with_reducible repeat (first | apply Kd.R_alloc | apply Kd.R_drewN | apply Kd.R_drew)); exact HO202.out))) (Kd.R_lt (by (with_reducible repeat (first | apply Kd.R_alloc | apply Kd.R_drewN | apply Kd.R_drew)); exact HO206.out))) (below_size (by repeat (first | (with_reducible first | exact HB.out | apply below_alloc | apply pw_below_drewN | apply below_drew1) | exact HB.out)))); have n4_ := Aside0.mk (below_step (by repeat (first | (with_reducible first | exact HB.out | apply below_alloc | apply pw_below_drewN | apply below_drew1) | exact HB.out)) hb); clear HO198; clear HO202; clear HO206; clear HB; have HO198 := n0_; have HO202 := n1_; have HO206 := n2_; have HO209 := n3_; have HB := n4_; clear n0_ n1_ n2_ n3_ n4_; clear hb ho41; obtain ⟨Ao43, co43, eo43⟩ := Kd.R_slice HO198.out; subst eo43) | ((with_reducible refine gate_builtin (b := .append) (xs := #[.tmp 113, .tmp 114]) rfl ?_); (try (refine gate_guard (by rfl) ?_; dsimp only)); at_builtin; refine Kd.R_append_rows (Kd.int .u64) (w0 := w) w.heap.size rfl (.tmp 113) (.tmp 114) 28 25 (.int .u64 0) 8 rfl Try.underlying28 info25 rfl (by decide) (by omega) v208 y207 t195 _ _ _ (fun k_ => some k_ ≠ (.slice Ao43 t195.length co43 : Value).ownBlock ∧ some k_ ≠ (v201 : Value).ownBlock ∧ some k_ ≠ (v205 : Value).ownBlock) (fun _ => False) rfl rfl ?aO ?aR (fun _ _ h => h) (fun _ h => h.elim) ?aF ?aB ?aS ?aL ?_; (case aR => repeat (first | exact (Kd.R_reads' HO198.out).2.2 | (with_reducible refine Kd.C_alloc ?_ _) | (with_reducible refine Kd.C_drewN ?_ _) | (with_reducible refine Kd.C_drew ?_))); (case aB => exact (by repeat (first | (with_reducible first | exact HB.out | apply below_alloc | apply pw_below_drewN | apply below_drew1) | exact HB.out))); (case aF => exact (fun k_ hk => ⟨Kd.fresh' (Kd.R_lt (by (with_reducible repeat (first | apply Kd.R_alloc | apply Kd.R_drewN | apply Kd.R_drew)); exact HO198.out)) k_ hk, Kd.fresh' (Kd.R_lt (by (with_reducible repeat (first | apply Kd.R_alloc | apply Kd.R_drewN | apply Kd.R_drew)); exact HO202.out)) k_ hk, Kd.fresh' (Kd.R_lt (by (with_reducible repeat (first | apply Kd.R_alloc | apply Kd.R_drewN | apply Kd.R_drew)); exact HO206.out)) k_ hk⟩)); (case aO => exact (by (with_reducible repeat (first | apply Kd.R_alloc | apply Kd.R_drewN | apply Kd.R_drew)); exact Kd.R_mono HO209.out (fun _ hk => ⟨hk.1.1.2, ⟨hk.1.2, hk.2⟩⟩))); (case aS => exact (below_size (by repeat (first | (with_reducible first | exact HB.out | apply below_alloc | apply pw_below_drewN | apply below_drew1) | exact HB.out)))); (case aL => have := LMc34.out; omega); intro v211 w42 ho hb hg hat; rw [← Ny210.out] at ho; have n0_ := Aside0.mk (Kd.R_after (ok := (fun k_ => some k_ ≠ (v201 : Value).ownBlock ∧ some k_ ≠ (v205 : Value).ownBlock)) (by (with_reducible repeat (first | apply Kd.R_alloc | apply Kd.R_drewN | apply Kd.R_drew)); exact Kd.R_mono HO198.out (fun _ hk => ⟨⟨hk.1.1.2, hk.1.2⟩, hk.2⟩)) hg hat); have n1_ := Aside0.mk (Kd.R_after (ok := (fun k_ => some k_ ≠ (.slice Ao43 t195.length co43 : Value).ownBlock ∧ some k_ ≠ (v205 : Value).ownBlock)) (by (with_reducible repeat (first | apply Kd.R_alloc | apply Kd.R_drewN | apply Kd.R_drew)); exact Kd.R_mono HO202.out (fun _ hk => ⟨⟨hk.1.1.2, hk.1.2⟩, hk.2⟩)) hg hat); have n2_ := Aside0.mk (Kd.R_after (ok := (fun k_ => some k_ ≠ (.slice Ao43 t195.length co43 : Value).ownBlock ∧ some k_ ≠ (v201 : Value).ownBlock)) (by (with_reducible repeat (first | apply Kd.R_alloc | apply Kd.R_drewN | apply Kd.R_drew)); exact Kd.R_mono HO206.out (fun _ hk => ⟨⟨hk.1.1.2, hk.1.2⟩, hk.2⟩)) hg hat); have n3_ := Aside0.mk (hb); have n4_ := Aside0.mk (ho); clear HO198; clear HO202; clear HO206; clear HB; clear HO209; have HO198 := n0_; have HO202 := n1_; have HO206 := n2_; have HB := n3_; have HO212 := n4_; clear n0_ n1_ n2_ n3_ n4_; clear ho hb hg hat; obtain ⟨Ao45, co45, eo45⟩ := Kd.R_slice HO202.out; subst eo45) | ((with_reducible refine gate_builtin (b := .append) (xs := #[.tmp 115, .tmp 116]) rfl ?_); (try (refine gate_guard (by rfl) ?_; dsimp only)); at_builtin; refine Kd.R_append_rows (Kd.int .u64) (w0 := w) w.heap.size rfl (.tmp 115) (.tmp 116) 28 25 (.int .u64 0) 8 rfl Try.underlying28 info25 rfl (by decide) (by omega) v211 y210 t199 _ _ _ (fun k_ => some k_ ≠ (.slice Ao43 t195.length co43 : Value).ownBlock ∧ some k_ ≠ (.slice Ao45 t199.length co45 : Value).ownBlock ∧ some k_ ≠ (v205 : Value).ownBlock) (fun _ => False) rfl rfl ?aO ?aR (fun _ _ h => h) (fun _ h => h.elim) ?aF ?aB ?aS ?aL ?_; (case aR => repeat (first | exact (Kd.R_reads' HO202.out).2.2 | (with_reducible refine Kd.C_alloc ?_ _) | (with_reducible refine Kd.C_drewN ?_ _) | (with_reducible refine Kd.C_drew ?_))); (case aB => exact (by repeat (first | (with_reducible first | exact HB.out | apply below_alloc | apply pw_below_drewN | apply below_drew1) | exact HB.out))); (case aF => exact (fun k_ hk => ⟨Kd.fresh' (Kd.R_lt (by (with_reducible repeat (first | apply Kd.R_alloc | apply Kd.R_drewN | apply Kd.R_drew)); exact HO198.out)) k_ hk, Kd.fresh' (Kd.R_lt (by (with_reducible repeat (first | apply Kd.R_alloc | apply Kd.R_drewN | apply Kd.R_drew)); exact HO202.out)) k_ hk, Kd.fresh' (Kd.R_lt (by (with_reducible repeat (first | apply Kd.R_alloc | apply Kd.R_drewN | apply Kd.R_drew)); exact HO206.out)) k_ hk⟩)); (case aO => exact (by (with_reducible repeat (first | apply Kd.R_alloc | apply Kd.R_drewN | apply Kd.R_drew)); exact HO212.out)); (case aS => exact (below_size (by repeat (first | (with_reducible first | exact HB.out | apply below_alloc | apply pw_below_drewN | apply below_drew1) | exact HB.out)))); (case aL => have := LMc35.out; omega); intro v214 w44 ho hb hg hat; rw [← Ny213.out] at ho; have n0_ := Aside0.mk (Kd.R_after (ok := (fun k_ => some k_ ≠ (.slice Ao45 t199.length co45 : Value).ownBlock ∧ some k_ ≠ (v205 : Value).ownBlock)) (by (with_reducible repeat (first | apply Kd.R_alloc | apply Kd.R_drewN | apply Kd.R_drew)); exact HO198.out) hg hat); have n1_ := Aside0.mk (Kd.R_after (ok := (fun k_ => some k_ ≠ (.slice Ao43 t195.length co43 : Value).ownBlock ∧ some k_ ≠ (v205 : Value).ownBlock)) (by (with_reducible repeat (first | apply Kd.R_alloc | apply Kd.R_drewN | apply Kd.R_drew)); exact HO202.out) hg hat); have n2_ := Aside0.mk (Kd.R_after (ok := (fun k_ => some k_ ≠ (.slice Ao43 t195.length co43 : Value).ownBlock ∧ some k_ ≠ (.slice Ao45 t199.length co45 : Value).ownBlock)) (by (with_reducible repeat (first | apply Kd.R_alloc | apply Kd.R_drewN | apply Kd.R_drew)); exact HO206.out) hg hat); have n3_ := Aside0.mk (hb); have n4_ := Aside0.mk (ho); clear HO198; clear HO202; clear HO206; clear HB; clear HO212; have HO198 := n0_; have HO202 := n1_; have HO206 := n2_; have HB := n3_; have HO215 := n4_; clear n0_ n1_ n2_ n3_ n4_; clear ho hb hg hat; obtain ⟨Ao46, co46, eo46⟩ := Kd.R_slice HO215.out; subst eo46; obtain ⟨Ao47, co47, eo47⟩ := Kd.R_slice HO206.out; subst eo47) | ((with_reducible refine gate_callee (f := 13) rfl ?_); refine goesL_ (some 119) rfl rfl Try.func13 (by kernel_rfl) rfl #[.slice Ao46 y213.length co46, .slice Ao47 t203.length co47] rfl (by (try simp only [List.map_toArray, List.map_cons, List.map_nil]); first | done | rfl | (simp only [List.length_drop, List.length_take]; rfl)) ?_; (with_reducible refine (capnpref01_SameWords.calls kj24 _ _ y213 _ _ t203 t216 _ ?side1 ?side2 ?side3 ?side4 A36.out).mono ?_); (case side1 => repeat (first | exact (Kd.R_reads' HO215.out).2.2 | (with_reducible refine Kd.C_alloc ?_ _) | (with_reducible refine Kd.C_drewN ?_ _) | (with_reducible refine Kd.C_drew ?_))); (case side2 => exact (Kd.R_reads' HO215.out).2.1); (case side3 => repeat (first | exact (Kd.R_reads' HO206.out).2.2 | (with_reducible refine Kd.C_alloc ?_ _) | (with_reducible refine Kd.C_drewN ?_ _) | (with_reducible refine Kd.C_drew ?_))); (case side4 => exact (Kd.R_reads' HO206.out).2.1); rintro e w' ⟨rfl, ⟨nd, rfl⟩⟩; refine ⟨_, rfl, ?_⟩))
                          go_ret
                          exact ⟨by first | rfl | (simp [errW_none, errW_some] <;> rfl) | (simp [*, errW_none, errW_some] <;> rfl), by repeat (first | (with_reducible first | exact HB.out | apply below_alloc | apply pw_below_drewN | apply below_drew1) | exact HB.out)⟩
                        · rw [if_neg c35] at H
                          exact absurd H (by simp)
                      · rw [if_neg c34] at H
                        exact absurd H (by simp)
                    · replace c30 := Bool.eq_false_iff.mpr c30
                      subst c30
                      have H1 : (some true) = some r := by rw [if_neg (show ¬ (false = true) by decide)] at H; exact H
                      clear H
                      have H := H1
                      clear H1
                      obtain rfl := Option.some.inj H
                      go_wp2
                      go_ret
                      exact ⟨by first | rfl | (simp [errW_none, errW_some] <;> rfl) | (simp [*, errW_none, errW_some] <;> rfl), by repeat (first | (with_reducible first | exact HB.out | apply below_alloc | apply pw_below_drewN | apply below_drew1) | exact HB.out)⟩

end Go.Proofs.Ytlkcmpamjheldaa.P
