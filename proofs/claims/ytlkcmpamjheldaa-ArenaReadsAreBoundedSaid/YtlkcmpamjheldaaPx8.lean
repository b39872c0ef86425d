-- Printed by this session's wip/pp.py, out of Lean's print of the program.
import Derived.Test.YtlkcmpamjheldaaPx0
namespace Go.Proofs.Ytlkcmpamjheldaa.P
open Go.RowKit Go.Proofs.YtlkcmpamjheldaaW.PrintWords Go.Proofs.YtlkcmpamjheldaaW.PrintLast Go.Proofs.YtlkcmpamjheldaaW.PrintMore
attribute [local go_sem] max2_int min2_int max_two min_two max_three min_three max_four min_four   -- for this text's walks alone
set_option linter.unusedVariables false
set_option linter.unusedSimpArgs false

/-! ### capnpref05_Word: function 10 -/
mutual
def capnpref05_Word.l0 : Nat → List (List Int) → Int → Int → Int → Option (Int × Bool)
  | 0, _, _, _, _ => none
  | k + 1, x0, x1, x2, x8 => if x8 < (x0.length : Int) then (capnpref05_Word.l1 k x0 x1 x2 x8 0) else (some (0, false))
def capnpref05_Word.l1 : Nat → List (List Int) → Int → Int → Int → Int → Option (Int × Bool)
  | 0, _, _, _, _, _ => none
  | k + 1, x0, x1, x2, x8, x9 => if 0 ≤ x8 then (if x8 < (x0.length : Int) then (if x9 < ((rd_L1 x0 x8).length : Int) then (if x8 = x1 then (if x9 = x2 then (if 0 ≤ x9 then (some (rd (rd_L1 x0 x8) x9, true)) else (none)) else (capnpref05_Word.l1 k x0 x1 x2 x8 (wrap64 (x9 + 1)))) else (capnpref05_Word.l1 k x0 x1 x2 x8 (wrap64 (x9 + 1)))) else (capnpref05_Word.l0 k x0 x1 x2 (wrap64 (x8 + 1)))) else (none)) else (none)
end
def capnpref05_Word.f (k : Nat) (l0 : List (List Int)) (a1 : Int) (a2 : Int) : Option (Int × Bool) := capnpref05_Word.l0 k l0 a1 a2 0
theorem capnpref05_Word.mono_l : ∀ k, (∀ y0 y1 y2 y3, LeO (capnpref05_Word.l0 k y0 y1 y2 y3) (capnpref05_Word.l0 (k + 1) y0 y1 y2 y3)) ∧ (∀ y0 y1 y2 y3 y4, LeO (capnpref05_Word.l1 k y0 y1 y2 y3 y4) (capnpref05_Word.l1 (k + 1) y0 y1 y2 y3 y4))
  | 0 => ⟨fun _ _ _ _ r h => by simp [capnpref05_Word.l0] at h, fun _ _ _ _ _ r h => by simp [capnpref05_Word.l1] at h⟩
  | k + 1 => by
    obtain ⟨ih0, ih1⟩ := capnpref05_Word.mono_l k
    refine ⟨?_, ?_⟩
    · intro y0 y1 y2 y3
      unfold capnpref05_Word.l0
      repeat' first
      | (with_reducible exact ih0 _ _ _ _)
      | (with_reducible exact ih1 _ _ _ _ _)
      | (with_reducible exact LeO.refl _)
      | (with_reducible exact LeO.none _)
      | (with_reducible refine LeO.ite ?_ ?_)
      | (with_reducible refine LeO.bind ?_ (fun _ => ?_))
      | exact ih0 _ _ _ _
      | exact ih1 _ _ _ _ _
      | exact LeO.none _
      | refine LeO.ite ?_ ?_
      | refine LeO.bind ?_ (fun _ => ?_)
    · intro y0 y1 y2 y3 y4
      unfold capnpref05_Word.l1
      repeat' first
      | (with_reducible exact ih0 _ _ _ _)
      | (with_reducible exact ih1 _ _ _ _ _)
      | (with_reducible exact LeO.refl _)
      | (with_reducible exact LeO.none _)
      | (with_reducible refine LeO.ite ?_ ?_)
      | (with_reducible refine LeO.bind ?_ (fun _ => ?_))
      | exact ih0 _ _ _ _
      | exact ih1 _ _ _ _ _
      | exact LeO.none _
      | refine LeO.ite ?_ ?_
      | refine LeO.bind ?_ (fun _ => ?_)
theorem capnpref05_Word.mono : ∀ a0 a1 a2 k, LeO (capnpref05_Word.f k a0 a1 a2) (capnpref05_Word.f (k + 1) a0 a1 a2) := by
  intro a0 a1 a2 k
  obtain ⟨ih0, ih1⟩ := capnpref05_Word.mono_l k
  unfold capnpref05_Word.f
  repeat' first
      | (with_reducible exact ih0 _ _ _ _)
      | (with_reducible exact ih1 _ _ _ _ _)
      | (with_reducible exact LeO.refl _)
      | (with_reducible exact LeO.none _)
      | (with_reducible refine LeO.ite ?_ ?_)
      | (with_reducible refine LeO.bind ?_ (fun _ => ?_))
      | exact ih0 _ _ _ _
      | exact ih1 _ _ _ _ _
      | exact LeO.none _
      | refine LeO.ite ?_ ?_
      | refine LeO.bind ?_ (fun _ => ?_)
set_option maxHeartbeats 8000000 in
set_option maxRecDepth 100000 in
theorem capnpref05_Word.calls (k : Nat) (A0 : Option Addr) (c0 : Nat) (l0 : List (List Int)) (a1 : Int) (a2 : Int) (r1 : Int) (r2 : Bool) (w : World) (hr0 : Kd.C (Kd.slice 25 (Kd.int .u64)) w A0 l0.length l0) (hc0 : l0.length ≤ c0) (h : capnpref05_Word.f k l0 a1 a2 = some (r1, r2)) :
    Calls Try.prog 10 #[.slice A0 l0.length c0, .int .i64 a1, .int .i64 a2] w fun e w' => e = .returned (.tuple #[.int .u64 r1, .bool r2]) ∧ Drawn0 w w' := by
  have HR0 := Aside0.mk hr0
  have HC0 := Aside0.mk hc0
  clear hr0 hc0
  have H : (capnpref05_Word.l0 k l0 a1 a2 0) = some (r1, r2) := h
  clear h
  have H' := Aside0.mk H
  clear H
  go_enter Try.func10, Try.ntmps10
  go_wp2
  go_loopg [8] k (fun kq v8 w' => ∃ (x8_1 : Int), v8 = .int .i64 x8_1 ∧ Aside0 (capnpref05_Word.l0 kq l0 a1 a2 x8_1 = some (r1, r2)) ∧ Aside0 (kq ≤ k) ∧ Drawn0 w w')
  case atStart => exact ⟨(0), (by first | rfl | (simp; done) | (simp [*]; done)), H', ⟨Nat.le_refl _⟩, by repeat (first | exact Drawn0.refl _ | apply Drawn0.step)⟩
  case round =>
    clear H'
    try clear c1
    try clear p2
    obtain ⟨x8_1, rfl, HA, HK1, ⟨m1, rfl⟩⟩ := hrel
    cases gk with
    | zero => exact absurd HA.out (by simp [capnpref05_Word.l0])
    | succ k1 =>
      have H := HA.out
      clear HA
      simp only [capnpref05_Word.l0] at H
      by_cases c4 : x8_1 < (l0.length : Int)
      · rw [if_pos c4] at H
        have c4b0 : decide (x8_1 < (l0.length : Int)) = true := decide_eq_true c4
        clear c4
        have H' := Aside0.mk H
        clear H
        go_wp2
        go_loopg [9] k1 (fun kq v9 w' => ∃ (x9_2 : Int), v9 = .int .i64 x9_2 ∧ Aside0 (capnpref05_Word.l1 kq l0 a1 a2 x8_1 x9_2 = some (r1, r2)) ∧ Aside0 (kq ≤ k1) ∧ Drawn0 w w')
        case atStart => exact ⟨(0), (by first | rfl | (simp; done) | (simp [*]; done)), H', ⟨Nat.le_refl _⟩, by repeat (first | exact Drawn0.refl _ | apply Drawn0.step)⟩
        case round =>
          clear H'
          try clear c1
          try clear p2
          try clear c4
          try clear c4b0
          try clear p2
          obtain ⟨x9_2, rfl, HA, HK2, ⟨m2, rfl⟩⟩ := hrel
          cases gk with
          | zero => exact absurd HA.out (by simp [capnpref05_Word.l1])
          | succ k2 =>
            have H := HA.out
            clear HA
            simp only [capnpref05_Word.l1] at H
            by_cases c5 : 0 ≤ x8_1
            · rw [if_pos c5] at H
              have c5b0 : decide (0 ≤ x8_1) = true := decide_eq_true c5
              clear c5
              by_cases c6 : x8_1 < (l0.length : Int)
              · rw [if_pos c6] at H
                have c6b0 : decide (x8_1 < (l0.length : Int)) = true := decide_eq_true c6
                clear c6
                by_cases c7 : x9_2 < ((rd_L1 l0 x8_1).length : Int)
                · rw [if_pos c7] at H
                  have c7b0 : decide (x9_2 < ((rd_L1 l0 x8_1).length : Int)) = true := decide_eq_true c7
                  clear c7
                  by_cases c8 : x8_1 = a1
                  · rw [if_pos c8] at H
                    have c8b0 : (x8_1 == a1) = true := beq_iff_eq.mpr c8
                    have c8b1 : (x8_1 != a1) = false := bne_eq_false_iff_eq.mpr c8
                    clear c8
                    by_cases c9 : x9_2 = a2
                    · rw [if_pos c9] at H
                      have c9b0 : (x9_2 == a2) = true := beq_iff_eq.mpr c9
                      have c9b1 : (x9_2 != a2) = false := bne_eq_false_iff_eq.mpr c9
                      clear c9
                      by_cases c10 : 0 ≤ x9_2
                      · rw [if_pos c10] at H
                        have c10b0 : decide (0 ≤ x9_2) = true := decide_eq_true c10
                        clear c10
                        simp only [Option.some.injEq, Prod.mk.injEq] at H
                        obtain ⟨rfl, rfl⟩ := H
                        have p141 : 0 ≤ (x8_1 : Int) := of_decide_eq_true (by first | (with_reducible assumption) | assumption)
                        have q141 : x8_1 < (l0.length : Int) := of_decide_eq_true (by first | (with_reducible assumption) | assumption)
                        obtain ⟨ad141, A141_0, c141_0, e141, hx141_0, hl141_0, hi141_0⟩ := at_L1 HR0.out x8_1 p141 q141
                        cases e141
                        have HR141_0 := Aside0.mk hi141_0
                        have HC141_0 := Aside0.mk hl141_0
                        clear hi141_0 hl141_0
                        replace p141 := eq_true p141
                        replace q141 := eq_true q141
                        have p142 : 0 ≤ (x8_1 : Int) := of_decide_eq_true (by first | (with_reducible assumption) | assumption)
                        have q142 : x8_1 < (l0.length : Int) := of_decide_eq_true (by first | (with_reducible assumption) | assumption)
                        obtain ⟨ad142, A142_0, c142_0, e142, hx142_0, hl142_0, hi142_0⟩ := at_L1 HR0.out x8_1 p142 q142
                        obtain rfl : ad141 = ad142 := (by injection e142)
                        have HR142_0 := Aside0.mk hi142_0
                        have HC142_0 := Aside0.mk hl142_0
                        clear hi142_0 hl142_0
                        replace p142 := eq_true p142
                        replace q142 := eq_true q142
                        have ea_ := Option.some.inj (hx141_0.symm.trans hx142_0)
                        injection ea_ with ea_ en_ ec_
                        subst ea_
                        subst ec_
                        clear en_
                        have p143 : 0 ≤ (x9_2 : Int) := of_decide_eq_true (by first | (with_reducible assumption) | assumption)
                        have q143 : x9_2 < ((rd_L1 l0 x8_1).length : Int) := of_decide_eq_true (by first | (with_reducible assumption) | assumption)
                        obtain ⟨ad143, e143, hx143_0⟩ := Kd.at_int HR142_0.out x9_2 p143 q143
                        cases e143
                        replace p143 := eq_true p143
                        replace q143 := eq_true q143
                        go_wp2
                        go_ret2
                        exact ⟨by first | rfl | (simp; done) | (simp [*]; done), by repeat (first | exact Drawn0.refl _ | apply Drawn0.step)⟩
                      · rw [if_neg c10] at H
                        exact absurd H (by simp)
                    · rw [if_neg c9] at H
                      have c9b0 : (x9_2 == a2) = false := beq_eq_false_iff_ne.mpr c9
                      have c9b1 : (x9_2 != a2) = true := bne_iff_ne.mpr c9
                      have H' := Aside0.mk H
                      clear H
                      have p141 : 0 ≤ (x8_1 : Int) := of_decide_eq_true (by first | (with_reducible assumption) | assumption)
                      have q141 : x8_1 < (l0.length : Int) := of_decide_eq_true (by first | (with_reducible assumption) | assumption)
                      obtain ⟨ad141, A141_0, c141_0, e141, hx141_0, hl141_0, hi141_0⟩ := at_L1 HR0.out x8_1 p141 q141
                      cases e141
                      have HR141_0 := Aside0.mk hi141_0
                      have HC141_0 := Aside0.mk hl141_0
                      clear hi141_0 hl141_0
                      replace p141 := eq_true p141
                      replace q141 := eq_true q141
                      go_wp2
                      go_roundg k2
                      case measure => have := HK1.out; have := HK2.out; omega
                      case rel => exact ⟨(wrap64 (x9_2 + 1)), (by first | rfl | (simp; done) | (simp [*]; done)), H', ⟨by have := HK1.out; have := HK2.out; omega⟩, by repeat (first | exact Drawn0.refl _ | apply Drawn0.step)⟩
                  · rw [if_neg c8] at H
                    have c8b0 : (x8_1 == a1) = false := beq_eq_false_iff_ne.mpr c8
                    have c8b1 : (x8_1 != a1) = true := bne_iff_ne.mpr c8
                    have H' := Aside0.mk H
                    clear H
                    have p141 : 0 ≤ (x8_1 : Int) := of_decide_eq_true (by first | (with_reducible assumption) | assumption)
                    have q141 : x8_1 < (l0.length : Int) := of_decide_eq_true (by first | (with_reducible assumption) | assumption)
                    obtain ⟨ad141, A141_0, c141_0, e141, hx141_0, hl141_0, hi141_0⟩ := at_L1 HR0.out x8_1 p141 q141
                    cases e141
                    have HR141_0 := Aside0.mk hi141_0
                    have HC141_0 := Aside0.mk hl141_0
                    clear hi141_0 hl141_0
                    replace p141 := eq_true p141
                    replace q141 := eq_true q141
                    go_wp2
                    go_roundg k2
                    case measure => have := HK1.out; have := HK2.out; omega
                    case rel => exact ⟨(wrap64 (x9_2 + 1)), (by first | rfl | (simp; done) | (simp [*]; done)), H', ⟨by have := HK1.out; have := HK2.out; omega⟩, by repeat (first | exact Drawn0.refl _ | apply Drawn0.step)⟩
                · rw [if_neg c7] at H
                  have c7b0 : decide (x9_2 < ((rd_L1 l0 x8_1).length : Int)) = false := decide_eq_false c7
                  clear c7
                  have H' := Aside0.mk H
                  clear H
                  have p141 : 0 ≤ (x8_1 : Int) := of_decide_eq_true (by first | (with_reducible assumption) | assumption)
                  have q141 : x8_1 < (l0.length : Int) := of_decide_eq_true (by first | (with_reducible assumption) | assumption)
                  obtain ⟨ad141, A141_0, c141_0, e141, hx141_0, hl141_0, hi141_0⟩ := at_L1 HR0.out x8_1 p141 q141
                  cases e141
                  have HR141_0 := Aside0.mk hi141_0
                  have HC141_0 := Aside0.mk hl141_0
                  clear hi141_0 hl141_0
                  replace p141 := eq_true p141
                  replace q141 := eq_true q141
                  go_wp2
                  go_roundg k2
                  case measure => have := HK1.out; have := HK2.out; omega
                  case rel => exact ⟨(wrap64 (x8_1 + 1)), (by first | rfl | (simp; done) | (simp [*]; done)), H', ⟨by have := HK1.out; have := HK2.out; omega⟩, by repeat (first | exact Drawn0.refl _ | apply Drawn0.step)⟩
              · rw [if_neg c6] at H
                exact absurd H (by simp)
            · rw [if_neg c5] at H
              exact absurd H (by simp)
      · rw [if_neg c4] at H
        have c4b0 : decide (x8_1 < (l0.length : Int)) = false := decide_eq_false c4
        clear c4
        simp only [Option.some.injEq, Prod.mk.injEq] at H
        obtain ⟨rfl, rfl⟩ := H
        go_wp2
        go_ret2
        exact ⟨by first | rfl | (simp; done) | (simp [*]; done), by repeat (first | exact Drawn0.refl _ | apply Drawn0.step)⟩

end Go.Proofs.Ytlkcmpamjheldaa.P
