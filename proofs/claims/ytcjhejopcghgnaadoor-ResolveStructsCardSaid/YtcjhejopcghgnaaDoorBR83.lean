/- The texts of this session that come first, joined by wip/merge.py. -/
import Derived.Test.YtcjhejopcghgnaaDoorBR81
import Derived.Test.YtcjhejopcghgnaaDoorBR82
import Derived.Test.YtcjhejopcghgnaaDoorProg
import Derived.ProofKit
import Derived.OpenShut
import Derived.LaidMore
import Derived.Stop.Joined
import Derived.Deep.Slices
import Derived.Test.YtcjhejopcghgnaaDoorWMore
import Derived.Test.YtcjhejopcghgnaaDoorRows
import Derived.Maps.OwnSet
import Derived.Maps.Keyed
import Derived.LaidSub
import Derived.Lib.LaidTab
namespace Go.Proofs.YtcjhejopcghgnaaDoor.P
open Go.RowKit Go.Proofs.YtcjhejopcghgnaaDoorW.PrintWords Go.Proofs.YtcjhejopcghgnaaDoorW.PrintLast Go.Proofs.YtcjhejopcghgnaaDoorW.PrintMore
attribute [local go_sem] max2_int min2_int max_two min_two max_three min_three max_four min_four   -- for this text's walks alone
set_option linter.unusedVariables false
set_option linter.unusedSimpArgs false

variable {gb : Bool}
/-! ### capnpref05_Word: function 36 -/
mutual
def capnpref05_Word.l0 : Nat → List (List Int) → Int → Int → Int → Option (Int × Bool)
  | 0, _, _, _, _ => none
  | k + 1, x0, x1, x2, x8 => if x8 < (x0.length : Int) then (capnpref05_Word.l1 k x0 x1 x2 x8 0) else (some (0, false))
def capnpref05_Word.l1 : Nat → List (List Int) → Int → Int → Int → Int → Option (Int × Bool)
  | 0, _, _, _, _, _ => none
  | k + 1, x0, x1, x2, x8, x9 => if 0 ≤ x8 then (if x8 < (x0.length : Int) then (if x9 < ((rd_L5 x0 x8).length : Int) then (if x8 = x1 then (if x9 = x2 then (if 0 ≤ x9 then (some (rd (rd_L5 x0 x8) x9, true)) else (none)) else (capnpref05_Word.l1 k x0 x1 x2 x8 (wrap64 (x9 + 1)))) else (capnpref05_Word.l1 k x0 x1 x2 x8 (wrap64 (x9 + 1)))) else (capnpref05_Word.l0 k x0 x1 x2 (wrap64 (x8 + 1)))) else (none)) else (none)
end
def capnpref05_Word.f (k : Nat) (l0 : List (List Int)) (a1 a2 : Int) : Option (Int × Bool) := capnpref05_Word.l0 k l0 a1 a2 0
theorem capnpref05_Word.mono_l : ∀ k, (∀ y0 y1 y2 y3, LeO (capnpref05_Word.l0 k y0 y1 y2 y3) (capnpref05_Word.l0 (k + 1) y0 y1 y2 y3)) ∧ (∀ y0 y1 y2 y3 y4, LeO (capnpref05_Word.l1 k y0 y1 y2 y3 y4) (capnpref05_Word.l1 (k + 1) y0 y1 y2 y3 y4))
  | 0 => ⟨fun _ _ _ _ r h => by simp [capnpref05_Word.l0] at h, fun _ _ _ _ _ r h => by simp [capnpref05_Word.l1] at h⟩
  | k + 1 => by
    obtain ⟨ih0, ih1⟩ := capnpref05_Word.mono_l k
    refine ⟨?_, ?_⟩
    · intro y0 y1 y2 y3
      unfold capnpref05_Word.l0
      repeat' first
      | (with_reducible apply ih1)
      | (with_reducible exact LeO.refl _)
      | (with_reducible refine LeO.ite ?_ ?_)
    · intro y0 y1 y2 y3 y4
      unfold capnpref05_Word.l1
      repeat' first
      | (with_reducible apply ih0)
      | (with_reducible apply ih1)
      | (with_reducible exact LeO.refl _)
      | (with_reducible refine LeO.ite ?_ ?_)
theorem capnpref05_Word.mono : ∀ a0 a1 a2 k, LeO (capnpref05_Word.f k a0 a1 a2) (capnpref05_Word.f (k + 1) a0 a1 a2) := by
  intro a0 a1 a2 k
  obtain ⟨ih0, ih1⟩ := capnpref05_Word.mono_l k
  unfold capnpref05_Word.f
  repeat' (with_reducible apply ih0)
set_option maxHeartbeats 8000000 in
set_option maxRecDepth 100000 in
theorem capnpref05_Word.calls (k : Nat) (A0 : Option Addr) (c0 : Nat) (l0 : List (List Int)) (a1 a2 r1 : Int) (r2 : Bool) (w : World) (hr0 : Kd.C (Kd.slice 23 (Kd.int .u64)) w A0 l0.length l0) (hc0 : l0.length ≤ c0) (h : capnpref05_Word.f k l0 a1 a2 = some (r1, r2)) :
    Calls Tryd.prog 36 #[.slice A0 l0.length c0, .int .i64 a1, .int .i64 a2] w fun e w' => e = .returned (.tuple #[.int .u64 r1, .bool r2]) ∧ Drawn0 w w' := by
  have HR0 := Aside0.mk hr0
  clear hr0 hc0
  have H : (capnpref05_Word.l0 k l0 a1 a2 0) = some (r1, r2) := h
  clear h
  have H' := Aside0.mk H
  clear H
  go_enter Tryd.func36, Tryd.ntmps36
  go_wp2
  go_loopg [8] k (fun kq v8 w' => ∃ (x8_1 : Int), v8 = .int .i64 x8_1 ∧ Aside0 (capnpref05_Word.l0 kq l0 a1 a2 x8_1 = some (r1, r2)) ∧ Aside0 (kq ≤ k) ∧ Drawn0 w w')
  case atStart => exact ⟨(0), (by rfl), H', ⟨Nat.le_refl _⟩, by repeat (exact Drawn0.refl _)⟩
  case round =>
    clear H'
    skip
    skip
    obtain ⟨x8_1, rfl, HA, HK1, ⟨m1, rfl⟩⟩ := hrel
    cases gk with
    | zero => exact absurd HA.out (by simp [capnpref05_Word.l0])
    | succ k1 =>
      have H := HA.out
      clear HA
      simp only [capnpref05_Word.l0] at H
      by_cases c4 : x8_1 < (l0.length : Int)
      · rw [if_pos c4] at H
        have c4b0 : decide (x8_1 < (l0.length : Int)) = true := decide_eq_true c4
        clear c4
        have H' := Aside0.mk H
        clear H
        go_wp2
        go_loopg [9] k1 (fun kq v9 w' => ∃ (x9_2 : Int), v9 = .int .i64 x9_2 ∧ Aside0 (capnpref05_Word.l1 kq l0 a1 a2 x8_1 x9_2 = some (r1, r2)) ∧ Aside0 (kq ≤ k1) ∧ Drawn0 w w')
        case atStart => exact ⟨(0), (by rfl), H', ⟨Nat.le_refl _⟩, by repeat (first | exact Drawn0.refl _ | apply Drawn0.step)⟩
        case round =>
          clear H'
          skip
          skip
          skip
          try clear c4b0
          skip
          obtain ⟨x9_2, rfl, HA, HK2, ⟨m2, rfl⟩⟩ := hrel
          cases gk with
          | zero => exact absurd HA.out (by simp [capnpref05_Word.l1])
          | succ k2 =>
            have H := HA.out
            clear HA
            simp only [capnpref05_Word.l1] at H
            by_cases c5 : 0 ≤ x8_1
            · rw [if_pos c5] at H
              have c5b0 : decide (0 ≤ x8_1) = true := decide_eq_true c5
              clear c5
              by_cases c6 : x8_1 < (l0.length : Int)
              · rw [if_pos c6] at H
                have c6b0 : decide (x8_1 < (l0.length : Int)) = true := decide_eq_true c6
                clear c6
                by_cases c7 : x9_2 < ((rd_L5 l0 x8_1).length : Int)
                · rw [if_pos c7] at H
                  have c7b0 : decide (x9_2 < ((rd_L5 l0 x8_1).length : Int)) = true := decide_eq_true c7
                  clear c7
                  by_cases c8 : x8_1 = a1
                  · rw [if_pos c8] at H
                    have c8b0 : (x8_1 == a1) = true := beq_iff_eq.mpr c8
                    clear c8
                    by_cases c9 : x9_2 = a2
                    · rw [if_pos c9] at H
                      have c9b0 : (x9_2 == a2) = true := beq_iff_eq.mpr c9
                      clear c9
                      by_cases c10 : 0 ≤ x9_2
                      · rw [if_pos c10] at H
                        have c10b0 : decide (0 ≤ x9_2) = true := decide_eq_true c10
                        clear c10
                        simp only [Option.some.injEq, Prod.mk.injEq] at H
                        obtain ⟨rfl, rfl⟩ := H
                        have p233 : 0 ≤ (x8_1 : Int) := of_decide_eq_true (by (with_reducible assumption))
                        have q233 : x8_1 < (l0.length : Int) := of_decide_eq_true (by (with_reducible assumption))
                        obtain ⟨ad233, A233_0, c233_0, e233, hx233_0, hl233_0, hi233_0⟩ := at_L5 HR0.out x8_1 p233 q233
                        cases e233
                        have HR233_0 := Aside0.mk hi233_0
                        clear hi233_0 hl233_0
                        replace p233 := eq_true p233
                        replace q233 := eq_true q233
                        have p234 : 0 ≤ (x8_1 : Int) := of_decide_eq_true (by (with_reducible assumption))
                        have q234 : x8_1 < (l0.length : Int) := of_decide_eq_true (by (with_reducible assumption))
                        obtain ⟨ad234, A234_0, c234_0, e234, hx234_0, hl234_0, hi234_0⟩ := at_L5 HR0.out x8_1 p234 q234
                        obtain rfl : ad233 = ad234 := (by injection e234)
                        have HR234_0 := Aside0.mk hi234_0
                        have HC234_0 := Aside0.mk hl234_0
                        clear hi234_0 hl234_0
                        replace p234 := eq_true p234
                        replace q234 := eq_true q234
                        have ea_ := Option.some.inj (hx233_0.symm.trans hx234_0)
                        injection ea_ with ea_ en_ ec_
                        subst ea_
                        subst ec_
                        clear en_
                        have p235 : 0 ≤ (x9_2 : Int) := of_decide_eq_true (by (with_reducible assumption))
                        have q235 : x9_2 < ((rd_L5 l0 x8_1).length : Int) := of_decide_eq_true (by (with_reducible assumption))
                        obtain ⟨ad235, e235, hx235_0⟩ := Kd.at_int HR234_0.out x9_2 p235 q235
                        cases e235
                        replace p235 := eq_true p235
                        replace q235 := eq_true q235
                        go_wp2
                        go_ret2
                        exact ⟨by rfl, by repeat (first | exact Drawn0.refl _ | apply Drawn0.step)⟩
                      · rw [if_neg c10] at H
                        exact absurd H (by simp)
                    · rw [if_neg c9] at H
                      have c9b0 : (x9_2 == a2) = false := beq_eq_false_iff_ne.mpr c9
                      have H' := Aside0.mk H
                      clear H
                      have p233 : 0 ≤ (x8_1 : Int) := of_decide_eq_true (by (with_reducible assumption))
                      have q233 : x8_1 < (l0.length : Int) := of_decide_eq_true (by (with_reducible assumption))
                      obtain ⟨ad233, A233_0, c233_0, e233, hx233_0, hl233_0, hi233_0⟩ := at_L5 HR0.out x8_1 p233 q233
                      cases e233
                      clear hi233_0 hl233_0
                      replace p233 := eq_true p233
                      replace q233 := eq_true q233
                      go_wp2
                      go_roundg k2
                      case measure => omega
                      case rel => exact ⟨(wrap64 (x9_2 + 1)), (by rfl), H', ⟨by have := HK2.out; omega⟩, by repeat (first | exact Drawn0.refl _ | apply Drawn0.step)⟩
                  · rw [if_neg c8] at H
                    have c8b0 : (x8_1 == a1) = false := beq_eq_false_iff_ne.mpr c8
                    have H' := Aside0.mk H
                    clear H
                    have p233 : 0 ≤ (x8_1 : Int) := of_decide_eq_true (by (with_reducible assumption))
                    have q233 : x8_1 < (l0.length : Int) := of_decide_eq_true (by (with_reducible assumption))
                    obtain ⟨ad233, A233_0, c233_0, e233, hx233_0, hl233_0, hi233_0⟩ := at_L5 HR0.out x8_1 p233 q233
                    cases e233
                    clear hi233_0 hl233_0
                    replace p233 := eq_true p233
                    replace q233 := eq_true q233
                    go_wp2
                    go_roundg k2
                    case measure => omega
                    case rel => exact ⟨(wrap64 (x9_2 + 1)), (by rfl), H', ⟨by have := HK2.out; omega⟩, by repeat (first | exact Drawn0.refl _ | apply Drawn0.step)⟩
                · rw [if_neg c7] at H
                  have c7b0 : decide (x9_2 < ((rd_L5 l0 x8_1).length : Int)) = false := decide_eq_false c7
                  clear c7
                  have H' := Aside0.mk H
                  clear H
                  have p233 : 0 ≤ (x8_1 : Int) := of_decide_eq_true (by (with_reducible assumption))
                  have q233 : x8_1 < (l0.length : Int) := of_decide_eq_true (by (with_reducible assumption))
                  obtain ⟨ad233, A233_0, c233_0, e233, hx233_0, hl233_0, hi233_0⟩ := at_L5 HR0.out x8_1 p233 q233
                  cases e233
                  clear hi233_0 hl233_0
                  replace p233 := eq_true p233
                  replace q233 := eq_true q233
                  go_wp2
                  go_roundg k2
                  case measure => have := HK2.out; omega
                  case rel => exact ⟨(wrap64 (x8_1 + 1)), (by rfl), H', ⟨by have := HK1.out; have := HK2.out; omega⟩, by repeat (first | exact Drawn0.refl _ | apply Drawn0.step)⟩
              · rw [if_neg c6] at H
                exact absurd H (by simp)
            · rw [if_neg c5] at H
              exact absurd H (by simp)
      · rw [if_neg c4] at H
        have c4b0 : decide (x8_1 < (l0.length : Int)) = false := decide_eq_false c4
        clear c4
        simp only [Option.some.injEq, Prod.mk.injEq] at H
        obtain ⟨rfl, rfl⟩ := H
        go_wp2
        go_ret2
        exact ⟨by rfl, by repeat (first | exact Drawn0.refl _ | apply Drawn0.step)⟩

end Go.Proofs.YtcjhejopcghgnaaDoor.P

set_option linter.unusedVariables false
set_option linter.unusedSimpArgs false
namespace Go.Proofs.YtcjhejopcghgnaaDoor.P
open Go.RowKit Go.Proofs.YtcjhejopcghgnaaDoorW.PrintWords Go.Proofs.YtcjhejopcghgnaaDoorW.PrintLast Go.Proofs.YtcjhejopcghgnaaDoorW.PrintMore
theorem rInBounds_eq {l : List (List Int)} (h : Segs l) (s a n : Int) : capnpref05_InBounds.f l s a n = some (decide (inB l s a n)) := by
  have hw := (h.seg s).1
  unfold capnpref05_InBounds.f
  by_cases hb : inB l s a n
  · have hb' := hb
    obtain ⟨h1, h2, h3, h4, h5⟩ := hb'
    rw [decide_eq_true hb, if_neg (by omega), if_neg (by omega), if_neg (by omega), if_neg (by omega), if_pos h1, if_pos h2, if_pos (by omega), wrap64_id (by omega), decide_eq_true (by omega)]
  · rw [decide_eq_false hb]
    unfold inB at hb
    repeat' split
    all_goals first
      | rfl
      | (exfalso; omega)
      | (rw [wrap64_id (by omega), decide_eq_false (by omega)])
/-- Rounds that two nested loops over all words take. -/
def rounds : List (List Int) → Nat
  | [] => 1
  | s :: t => s.length + 2 + rounds t
theorem rWord_skip {l : List (List Int)} (h : Segs l) (s a : Int) {i : Nat} (hi : i < l.length) : ∀ (d k j : Nat), j + d = l[i].length → ¬ ((i : Int) = s ∧ (j : Int) ≤ a ∧ a < l[i].length) → capnpref05_Word.l1 (k + d + 1) l s a i j = capnpref05_Word.l0 k l s a ((i + 1 : Nat) : Int) := by
  intro d
  have hw := (h.2 _ (List.getElem_mem hi)).1
  have hl := h.1
  induction d with
  | zero =>
    intro k j hj hn
    rw [Nat.add_zero, capnpref05_Word.l1, if_pos (by omega), if_pos (by omega), rd_L1_nat hi, if_neg (by omega), wrap64_id (by omega)]
    rfl
  | succ d ih =>
    intro k j hj hn
    have e := ih k (j + 1) (by omega) (by omega)
    rw [← Nat.add_assoc, capnpref05_Word.l1, if_pos (by omega), if_pos (by omega), rd_L1_nat hi, if_pos (by omega), wrap64_id (by omega), show (j : Int) + 1 = ((j + 1 : Nat) : Int) by push_cast; rfl]
    by_cases h1 : (i : Int) = s
    · rw [if_pos h1, if_neg (by omega)]
      exact e
    · rw [if_neg h1]
      exact e
theorem rWord_hit {l : List (List Int)} (h : Segs l) {i t : Nat} (hi : i < l.length) (ht : t < l[i].length) : ∀ (d k j : Nat), j + d = t → d < k → capnpref05_Word.l1 k l i t i j = some (rd (rd_L5 l i) t, true) := by
  intro d
  have hw := (h.2 _ (List.getElem_mem hi)).1
  have hl := h.1
  induction d with
  | zero =>
    intro k j hj hk
    obtain ⟨k, rfl⟩ : ∃ q, k = q + 1 := ⟨k - 1, by omega⟩
    obtain rfl : j = t := by omega
    rw [capnpref05_Word.l1, if_pos (by omega), if_pos (by omega), rd_L1_nat hi, if_pos (by omega), if_pos rfl, if_pos rfl, if_pos (by omega)]
  | succ d ih =>
    intro k j hj hk
    obtain ⟨k, rfl⟩ : ∃ q, k = q + 1 := ⟨k - 1, by omega⟩
    have e := ih k (j + 1) (by omega) (by omega)
    rw [capnpref05_Word.l1, if_pos (by omega), if_pos (by omega), rd_L1_nat hi, if_pos (by omega), if_pos rfl, if_neg (by omega), wrap64_id (by omega), show (j : Int) + 1 = ((j + 1 : Nat) : Int) by push_cast; rfl, e, rd_L1_nat hi]
theorem rWord_loop {l : List (List Int)} (h : Segs l) (s a : Int) : ∀ (d k i : Nat), i + d = l.length → rounds (l.drop i) ≤ k → (s < (i : Int) → ¬ inB l s a 1) → capnpref05_Word.l0 k l s a i = some (if inB l s a 1 then (rd (rd_L5 l s) a, true) else (0, false)) := by
  intro d
  have hl := h.1
  induction d with
  | zero =>
    intro k i hi hk hn
    rw [List.drop_eq_nil_of_le (by omega)] at hk
    simp only [rounds] at hk
    obtain ⟨k, rfl⟩ : ∃ q, k = q + 1 := ⟨k - 1, by omega⟩
    rw [capnpref05_Word.l0, if_neg (by omega), if_neg]
    intro hb
    have hb' := hb
    obtain ⟨h1, h2, h3, h4, h5⟩ := hb'
    exact hn (by omega) hb
  | succ d ih =>
    intro k i hi hk hn
    have ha : i < l.length := by omega
    rw [List.drop_eq_getElem_cons ha] at hk
    simp only [rounds] at hk
    obtain ⟨k, rfl⟩ : ∃ q, k = q + l[i].length + 1 + 1 := ⟨k - l[i].length - 2, by omega⟩
    rw [capnpref05_Word.l0, if_pos (by omega)]
    by_cases hc : (i : Int) = s ∧ (0 : Int) ≤ a ∧ a < l[i].length
    · obtain ⟨rfl, h0, h1⟩ := hc
      obtain ⟨t, rfl⟩ := Int.eq_ofNat_of_zero_le h0
      have e := rWord_hit h ha (t := t) (by omega) t (k + l[i].length + 1) 0 (by omega) (by omega)
      rw [show ((0 : Nat) : Int) = 0 from rfl] at e
      rw [e, if_pos]
      refine ⟨by omega, by omega, h0, by omega, ?_⟩
      rw [rd_L1_nat ha]
      omega
    · have e := rWord_skip h s a ha l[i].length k 0 (by omega) (by rw [show ((0 : Nat) : Int) = 0 from rfl]; exact hc)
      rw [show ((0 : Nat) : Int) = 0 from rfl] at e
      rw [e]
      refine ih k (i + 1) (by omega) (by omega) ?_
      intro hs hb
      by_cases hlt : s < (i : Int)
      · exact hn hlt hb
      · obtain rfl : s = (i : Int) := by omega
        obtain ⟨h1, h2, h3, h4, h5⟩ := hb
        rw [rd_L1_nat ha] at h5
        exact hc ⟨rfl, h3, by omega⟩
theorem rWord_eq {l : List (List Int)} (h : Segs l) (s a : Int) (k : Nat) (hk : rounds l ≤ k) : capnpref05_Word.f k l s a = some (if inB l s a 1 then (rd (rd_L5 l s) a, true) else (0, false)) := by
  have := rWord_loop h s a l.length k 0 (by omega) (by simpa using hk) (fun hs hb => by have := hb.1; omega)
  exact this
theorem take_succ_drop {l : List Int} {a j : Nat} (h : a + j < l.length) : (l.drop a).take j ++ [l[a + j]] = (l.drop a).take (j + 1) := by
  rw [List.take_add_one, List.getElem?_drop, List.getElem?_eq_getElem h]
  rfl
end Go.Proofs.YtcjhejopcghgnaaDoor.P

set_option linter.unusedVariables false
namespace Go.Proofs.YtcjhejopcghgnaaDoor.P
open Go.RowKit Go.Proofs.YtcjhejopcghgnaaDoorW.PrintWords Go.Proofs.YtcjhejopcghgnaaDoorW.PrintLast Go.Proofs.YtcjhejopcghgnaaDoorW.PrintMore
/-- With enough rounds the function tells this. -/
def Has {α : Type} (g : Nat → Option α) (v : α) : Prop := ∃ K, ∀ k, K ≤ k → g k = some v
section
variable {α β : Type} {f g : Nat → Option α} {v : α} {r : β}
theorem Has.some_ (v : α) : Has (fun _ => some v) v := ⟨0, fun _ _ => rfl⟩
theorem Has.const {o : Option α} (h : o = some v) : Has (fun _ => o) v := ⟨0, fun _ _ => h⟩
theorem Has.bind {h : Nat → α → Option β} (hg : Has g v) (hh : Has (fun k => h k v) r) : Has (fun k => (g k).bind (h k)) r := by
  obtain ⟨K, hK⟩ := hg
  obtain ⟨K', hK'⟩ := hh
  exact ⟨max K K', fun k hk => by show (g k).bind (h k) = _; rw [hK k (by omega)]; exact hK' k (by omega)⟩
theorem Has.step (h : ∀ k, f (k + 1) = g k) (hg : Has g v) : Has f v := by
  obtain ⟨K, hK⟩ := hg
  refine ⟨K + 1, fun k hk => ?_⟩
  obtain ⟨k, rfl⟩ : ∃ m, k = m + 1 := ⟨k - 1, by omega⟩
  rw [h]
  exact hK k (by omega)
theorem Has.pos {c : Prop} [Decidable c] (hc : c) (hf : Has f v) : Has (fun k => if c then f k else g k) v := by simp only [if_pos hc]; exact hf
theorem Has.neg {c : Prop} [Decidable c] (hc : ¬ c) (hg : Has g v) : Has (fun k => if c then f k else g k) v := by simp only [if_neg hc]; exact hg
theorem Has.ex (h : Has g v) : ∃ k, g k = some v := by
  obtain ⟨K, hK⟩ := h
  exact ⟨K, hK K (Nat.le_refl _)⟩
theorem Has.eq (h : Has g v) {u : α} (e : v = u) : Has g u := e ▸ h
end
theorem w64 {x : Int} (h : -9223372036854775808 ≤ x ∧ x ≤ 9223372036854775807) : wrap64 x = x := by unfold wrap64; omega
theorem w64s (i : Nat) (h : i < 4611686018427387904) : wrap64 ((i : Int) + 1) = ((i + 1 : Nat) : Int) := by rw [w64 (by omega)]; push_cast; rfl
end Go.Proofs.YtcjhejopcghgnaaDoor.P

namespace Go.Proofs.YtcjhejopcghgnaaDoor.P
open Go.RowKit Go.Proofs.YtcjhejopcghgnaaDoorW.PrintWords Go.Proofs.YtcjhejopcghgnaaDoorW.PrintLast Go.Proofs.YtcjhejopcghgnaaDoorW.PrintMore
attribute [local go_sem] max2_int min2_int max_two min_two max_three min_three max_four min_four   -- for this text's walks alone
set_option linter.unusedVariables false
set_option linter.unusedSimpArgs false

variable {gb : Bool}
/-! ### capnpref07_IsFar: function 17 -/
def capnpref07_IsFar.f (a0 : Int) : Option (Bool) := some ((Int.tmod a0 4) == 2)
set_option maxHeartbeats 8000000 in
set_option maxRecDepth 100000 in
theorem capnpref07_IsFar.calls (a0 : Int) (r : Bool) (w : World) (h : capnpref07_IsFar.f a0 = some r) :
    Calls Tryd.prog 17 #[.int .u64 a0] w fun e w' => e = .returned (.bool r) ∧ Drawn0 w w' := by
  have H : (some ((Int.tmod a0 4) == 2)) = some r := h
  clear h
  obtain rfl := Option.some.inj H
  go_enter Tryd.func17, Tryd.ntmps17
  go_wp2
  go_ret
  exact ⟨by rfl, by repeat (exact Drawn0.refl _)⟩

end Go.Proofs.YtcjhejopcghgnaaDoor.P

namespace Go.Proofs.YtcjhejopcghgnaaDoor.P
open Go.RowKit Go.Proofs.YtcjhejopcghgnaaDoorW.PrintWords Go.Proofs.YtcjhejopcghgnaaDoorW.PrintLast Go.Proofs.YtcjhejopcghgnaaDoorW.PrintMore
attribute [local go_sem] max2_int min2_int max_two min_two max_three min_three max_four min_four   -- for this text's walks alone
set_option linter.unusedVariables false
set_option linter.unusedSimpArgs false

variable {gb : Bool}
/-! ### capnpref07_Landing: function 19 -/
def capnpref07_Landing.f (a0 : Int) : Option (Int × Int) := some (wrap64 (IntKind.u64.wrap (Int.tdiv a0 4294967296)), wrap64 (IntKind.u64.wrap (Int.tdiv (Int.tmod a0 4294967296) 8)))
set_option maxHeartbeats 8000000 in
set_option maxRecDepth 100000 in
theorem capnpref07_Landing.calls (a0 r1 r2 : Int) (w : World) (h : capnpref07_Landing.f a0 = some (r1, r2)) :
    Calls Tryd.prog 19 #[.int .u64 a0] w fun e w' => e = .returned (.tuple #[.int .i64 r1, .int .i64 r2]) ∧ Drawn0 w w' := by
  have H : (some (wrap64 (IntKind.u64.wrap (Int.tdiv a0 4294967296)), wrap64 (IntKind.u64.wrap (Int.tdiv (Int.tmod a0 4294967296) 8)))) = some (r1, r2) := h
  clear h
  simp only [Option.some.injEq, Prod.mk.injEq] at H
  obtain ⟨rfl, rfl⟩ := H
  go_enter Tryd.func19, Tryd.ntmps19
  go_wp2
  go_ret2
  exact ⟨by rfl, by repeat (exact Drawn0.refl _)⟩

end Go.Proofs.YtcjhejopcghgnaaDoor.P

namespace Go.Proofs.YtcjhejopcghgnaaDoor.P
open Go.RowKit Go.Proofs.YtcjhejopcghgnaaDoorW.PrintWords Go.Proofs.YtcjhejopcghgnaaDoorW.PrintLast Go.Proofs.YtcjhejopcghgnaaDoorW.PrintMore
attribute [local go_sem] max2_int min2_int max_two min_two max_three min_three max_four min_four   -- for this text's walks alone
set_option linter.unusedVariables false
set_option linter.unusedSimpArgs false

variable {gb : Bool}
/-! ### capnpref07_Follow: function 15 -/
def capnpref07_Follow.f (k : Nat) (l0 : List (List Int)) (a1 a2 : Int) : Option (Int × Int × Int × Int) := (capnpref05_Word.f k l0 a1 a2).bind fun bt236 => (if bt236.2 = true then ((capnpref07_IsFar.f bt236.1).bind fun t238 => (if t238 = true then ((capnpref07_Landing.f bt236.1).bind fun bt239 => ((capnpref05_Word.f k l0 bt239.1 bt239.2).bind fun bt241 => (if bt241.2 = true then (if (Int.tmod (IntKind.u64.wrap (Int.tdiv bt236.1 4)) 2) = 0 then ((capnpref07_IsFar.f bt241.1).bind fun t243 => (if t243 = true then (some (0, 0, 0, 3)) else (some (bt241.1, bt239.1, wrap64 (bt239.2 + 1), 0)))) else ((capnpref05_Word.f k l0 bt239.1 (wrap64 (bt239.2 + 1))).bind fun bt244 => (if bt244.2 = true then ((capnpref02_Decode.f k bt244.1).bind fun bt246 => ((capnpref07_IsFar.f bt241.1).bind fun t257 => (if t257 = true then (if (Int.tmod (IntKind.u64.wrap (Int.tdiv bt241.1 4)) 2) = 1 then (some (0, 0, 0, 3)) else (if bt246.1 > 1 then (some (0, 0, 0, 3)) else (if bt246.2.1 = 0 then ((capnpref07_Landing.f bt241.1).bind fun bt258 => (some (bt244.1, bt258.1, bt258.2, 0))) else (some (0, 0, 0, 3))))) else (some (0, 0, 0, 3))))) else (some (0, 0, 0, 2))))) else (some (0, 0, 0, 2))))) else (some (bt236.1, a1, wrap64 (a2 + 1), 0)))) else (some (0, 0, 0, 2)))
theorem capnpref07_Follow.mono : ∀ a0 a1 a2 k, LeO (capnpref07_Follow.f k a0 a1 a2) (capnpref07_Follow.f (k + 1) a0 a1 a2) := by
  intro a0 a1 a2 k
  unfold capnpref07_Follow.f
  repeat' first
      | (with_reducible apply capnpref02_Decode.mono)
      | (with_reducible apply capnpref05_Word.mono)
      | (with_reducible exact LeO.refl _)
      | (with_reducible refine LeO.ite ?_ ?_)
      | (with_reducible refine LeO.bind ?_ (fun _ => ?_))
set_option maxHeartbeats 8000000 in
set_option maxRecDepth 100000 in
theorem capnpref07_Follow.calls (k : Nat) (A0 : Option Addr) (c0 : Nat) (l0 : List (List Int)) (a1 a2 r1 r2 r3 r4 : Int) (w : World) (hr0 : Kd.C (Kd.slice 23 (Kd.int .u64)) w A0 l0.length l0) (hc0 : l0.length ≤ c0) (h : capnpref07_Follow.f k l0 a1 a2 = some (r1, r2, r3, r4)) :
    Calls Tryd.prog 15 #[.slice A0 l0.length c0, .int .i64 a1, .int .i64 a2] w fun e w' => e = .returned (.tuple #[.int .u64 r1, .int .i64 r2, .int .i64 r3, .int .i64 r4]) ∧ Below w.heap.size w w' := by
  have HR0 := Aside0.mk hr0
  have HC0 := Aside0.mk hc0
  clear hr0 hc0
  have HB := Aside0.mk (Below.refl w.heap.size w)
  have H := h
  unfold capnpref07_Follow.f at H
  clear h
  replace H := Option.bind_eq_some_iff.mp H
  obtain ⟨⟨t236, t237⟩, A40, H⟩ := H
  dsimp only at H
  have A4 := Aside0.mk A40
  clear A40
  by_cases c5 : t237 = true
  · subst c5
    have H1 : ((capnpref07_IsFar.f t236).bind fun t238 => (if t238 = true then ((capnpref07_Landing.f t236).bind fun bt239 => ((capnpref05_Word.f k l0 bt239.1 bt239.2).bind fun bt241 => (if bt241.2 = true then (if (Int.tmod (IntKind.u64.wrap (Int.tdiv t236 4)) 2) = 0 then ((capnpref07_IsFar.f bt241.1).bind fun t243 => (if t243 = true then (some (0, 0, 0, 3)) else (some (bt241.1, bt239.1, wrap64 (bt239.2 + 1), 0)))) else ((capnpref05_Word.f k l0 bt239.1 (wrap64 (bt239.2 + 1))).bind fun bt244 => (if bt244.2 = true then ((capnpref02_Decode.f k bt244.1).bind fun bt246 => ((capnpref07_IsFar.f bt241.1).bind fun t257 => (if t257 = true then (if (Int.tmod (IntKind.u64.wrap (Int.tdiv bt241.1 4)) 2) = 1 then (some (0, 0, 0, 3)) else (if bt246.1 > 1 then (some (0, 0, 0, 3)) else (if bt246.2.1 = 0 then ((capnpref07_Landing.f bt241.1).bind fun bt258 => (some (bt244.1, bt258.1, bt258.2, 0))) else (some (0, 0, 0, 3))))) else (some (0, 0, 0, 3))))) else (some (0, 0, 0, 2))))) else (some (0, 0, 0, 2))))) else (some (t236, a1, wrap64 (a2 + 1), 0)))) = some (r1, r2, r3, r4) := by rw [if_pos rfl] at H; exact H
    clear H
    have H := H1
    clear H1
    replace H := Option.bind_eq_some_iff.mp H
    obtain ⟨t238, A60, H⟩ := H
    have A6 := Aside0.mk A60
    clear A60
    by_cases c7 : t238 = true
    · subst c7
      have H1 : ((capnpref07_Landing.f t236).bind fun bt239 => ((capnpref05_Word.f k l0 bt239.1 bt239.2).bind fun bt241 => (if bt241.2 = true then (if (Int.tmod (IntKind.u64.wrap (Int.tdiv t236 4)) 2) = 0 then ((capnpref07_IsFar.f bt241.1).bind fun t243 => (if t243 = true then (some (0, 0, 0, 3)) else (some (bt241.1, bt239.1, wrap64 (bt239.2 + 1), 0)))) else ((capnpref05_Word.f k l0 bt239.1 (wrap64 (bt239.2 + 1))).bind fun bt244 => (if bt244.2 = true then ((capnpref02_Decode.f k bt244.1).bind fun bt246 => ((capnpref07_IsFar.f bt241.1).bind fun t257 => (if t257 = true then (if (Int.tmod (IntKind.u64.wrap (Int.tdiv bt241.1 4)) 2) = 1 then (some (0, 0, 0, 3)) else (if bt246.1 > 1 then (some (0, 0, 0, 3)) else (if bt246.2.1 = 0 then ((capnpref07_Landing.f bt241.1).bind fun bt258 => (some (bt244.1, bt258.1, bt258.2, 0))) else (some (0, 0, 0, 3))))) else (some (0, 0, 0, 3))))) else (some (0, 0, 0, 2))))) else (some (0, 0, 0, 2))))) = some (r1, r2, r3, r4) := by rw [if_pos rfl] at H; exact H
      clear H
      have H := H1
      clear H1
      replace H := Option.bind_eq_some_iff.mp H
      obtain ⟨⟨t239, t240⟩, A80, H⟩ := H
      dsimp only at H
      have A8 := Aside0.mk A80
      clear A80
      replace H := Option.bind_eq_some_iff.mp H
      obtain ⟨⟨t241, t242⟩, A90, H⟩ := H
      dsimp only at H
      have A9 := Aside0.mk A90
      clear A90
      by_cases c10 : t242 = true
      · subst c10
        have H1 : (if (Int.tmod (IntKind.u64.wrap (Int.tdiv t236 4)) 2) = 0 then ((capnpref07_IsFar.f t241).bind fun t243 => (if t243 = true then (some (0, 0, 0, 3)) else (some (t241, t239, wrap64 (t240 + 1), 0)))) else ((capnpref05_Word.f k l0 t239 (wrap64 (t240 + 1))).bind fun bt244 => (if bt244.2 = true then ((capnpref02_Decode.f k bt244.1).bind fun bt246 => ((capnpref07_IsFar.f t241).bind fun t257 => (if t257 = true then (if (Int.tmod (IntKind.u64.wrap (Int.tdiv t241 4)) 2) = 1 then (some (0, 0, 0, 3)) else (if bt246.1 > 1 then (some (0, 0, 0, 3)) else (if bt246.2.1 = 0 then ((capnpref07_Landing.f t241).bind fun bt258 => (some (bt244.1, bt258.1, bt258.2, 0))) else (some (0, 0, 0, 3))))) else (some (0, 0, 0, 3))))) else (some (0, 0, 0, 2))))) = some (r1, r2, r3, r4) := by rw [if_pos rfl] at H; exact H
        clear H
        have H := H1
        clear H1
        by_cases c11 : (Int.tmod (IntKind.u64.wrap (Int.tdiv t236 4)) 2) = 0
        · rw [if_pos c11] at H
          have c11b0 : ((Int.tmod (IntKind.u64.wrap (Int.tdiv t236 4)) 2) == 0) = true := beq_iff_eq.mpr c11
          clear c11
          replace H := Option.bind_eq_some_iff.mp H
          obtain ⟨t243, A120, H⟩ := H
          replace H : (if t243 = true then (some (0, 0, 0, 3)) else (some (t241, t239, wrap64 (t240 + 1), 0))) = some (r1, r2, r3, r4) := H
          have A12 := Aside0.mk A120
          clear A120
          by_cases c13 : t243 = true
          · subst c13
            have H1 : (some (0, 0, 0, 3)) = some (r1, r2, r3, r4) := by rw [if_pos rfl] at H; exact H
            clear H
            have H := H1
            clear H1
            simp only [Option.some.injEq, Prod.mk.injEq] at H
            obtain ⟨rfl, rfl, rfl, rfl⟩ := H
            go_enter Tryd.func15, Tryd.ntmps15
            go_wp2_with (first | ((with_reducible refine gate_callee (f := 36) rfl ?_); refine goesL_ (some 25) rfl rfl Tryd.func36 (by kernel_rfl) rfl #[.slice A0 l0.length c0, .int .i64 a1, .int .i64 a2] rfl (by (try simp only [List.map_toArray, List.map_cons, List.map_nil]); rfl) ?_; (with_reducible refine (capnpref05_Word.calls k _ _ l0 a1 a2 t236 true _ ?side1 ?side2 A4.out).mono ?_); (case side1 => repeat (exact HR0.out)); (case side2 => exact HC0.out); rintro e w' ⟨rfl, ⟨nd, rfl⟩⟩; refine ⟨_, rfl, ?_⟩) | ((with_reducible refine gate_callee (f := 17) rfl ?_); refine goesL_ (some 31) rfl rfl Tryd.func17 (by kernel_rfl) rfl #[.int .u64 t236] rfl (by (try simp only [List.map_toArray, List.map_cons, List.map_nil]); rfl) ?_; (with_reducible refine (capnpref07_IsFar.calls t236 true _ A6.out).mono ?_); rintro e w' ⟨rfl, ⟨nd, rfl⟩⟩; refine ⟨_, rfl, ?_⟩) | ((with_reducible refine gate_callee (f := 19) rfl ?_); refine goesL_ (some 39) rfl rfl Tryd.func19 (by kernel_rfl) rfl #[.int .u64 t236] rfl (by (try simp only [List.map_toArray, List.map_cons, List.map_nil]); rfl) ?_; (with_reducible refine (capnpref07_Landing.calls t236 t239 t240 _ A8.out).mono ?_); rintro e w' ⟨rfl, ⟨nd, rfl⟩⟩; refine ⟨_, rfl, ?_⟩) | ((with_reducible refine gate_callee (f := 36) rfl ?_); refine goesL_ (some 46) rfl rfl Tryd.func36 (by kernel_rfl) rfl #[.slice A0 l0.length c0, .int .i64 t239, .int .i64 t240] rfl (by (try simp only [List.map_toArray, List.map_cons, List.map_nil]); rfl) ?_; (with_reducible refine (capnpref05_Word.calls k _ _ l0 t239 t240 t241 true _ ?side1 ?side2 A9.out).mono ?_); (case side1 => repeat (exact HR0.out)); (case side2 => exact HC0.out); rintro e w' ⟨rfl, ⟨nd, rfl⟩⟩; refine ⟨_, rfl, ?_⟩) | ((with_reducible refine gate_callee (f := 17) rfl ?_); refine goesL_ (some 56) rfl rfl Tryd.func17 (by kernel_rfl) rfl #[.int .u64 t241] rfl (by (try simp only [List.map_toArray, List.map_cons, List.map_nil]); rfl) ?_; (with_reducible refine (capnpref07_IsFar.calls t241 true _ A12.out).mono ?_); rintro e w' ⟨rfl, ⟨nd, rfl⟩⟩; refine ⟨_, rfl, ?_⟩))
            refine bodyPost_ret (results_list (rs := [.tmp 6, .tmp 7, .tmp 8, .tmp 9]) rfl (by simp) (.tmp (.tmp (.tmp (.tmp .nil))))) rfl ?_
            exact ⟨by rfl, by repeat ((with_reducible first | exact HB.out | apply pw_below_drewN))⟩
          · replace c13 := Bool.eq_false_iff.mpr c13
            subst c13
            have H1 : (some (t241, t239, wrap64 (t240 + 1), 0)) = some (r1, r2, r3, r4) := by rw [if_neg (show ¬ (false = true) by decide)] at H; exact H
            clear H
            have H := H1
            clear H1
            simp only [Option.some.injEq, Prod.mk.injEq] at H
            obtain ⟨rfl, rfl, rfl, rfl⟩ := H
            go_enter Tryd.func15, Tryd.ntmps15
            go_wp2_with (first | ((with_reducible refine gate_callee (f := 36) rfl ?_); refine goesL_ (some 25) rfl rfl Tryd.func36 (by kernel_rfl) rfl #[.slice A0 l0.length c0, .int .i64 a1, .int .i64 a2] rfl (by (try simp only [List.map_toArray, List.map_cons, List.map_nil]); rfl) ?_; (with_reducible refine (capnpref05_Word.calls k _ _ l0 a1 a2 t236 true _ ?side1 ?side2 A4.out).mono ?_); (case side1 => repeat (exact HR0.out)); (case side2 => exact HC0.out); rintro e w' ⟨rfl, ⟨nd, rfl⟩⟩; refine ⟨_, rfl, ?_⟩) | ((with_reducible refine gate_callee (f := 17) rfl ?_); refine goesL_ (some 31) rfl rfl Tryd.func17 (by kernel_rfl) rfl #[.int .u64 t236] rfl (by (try simp only [List.map_toArray, List.map_cons, List.map_nil]); rfl) ?_; (with_reducible refine (capnpref07_IsFar.calls t236 true _ A6.out).mono ?_); rintro e w' ⟨rfl, ⟨nd, rfl⟩⟩; refine ⟨_, rfl, ?_⟩) | ((with_reducible refine gate_callee (f := 19) rfl ?_); refine goesL_ (some 39) rfl rfl Tryd.func19 (by kernel_rfl) rfl #[.int .u64 t236] rfl (by (try simp only [List.map_toArray, List.map_cons, List.map_nil]); rfl) ?_; (with_reducible refine (capnpref07_Landing.calls t236 t239 t240 _ A8.out).mono ?_); rintro e w' ⟨rfl, ⟨nd, rfl⟩⟩; refine ⟨_, rfl, ?_⟩) | ((with_reducible refine gate_callee (f := 36) rfl ?_); refine goesL_ (some 46) rfl rfl Tryd.func36 (by kernel_rfl) rfl #[.slice A0 l0.length c0, .int .i64 t239, .int .i64 t240] rfl (by (try simp only [List.map_toArray, List.map_cons, List.map_nil]); rfl) ?_; (with_reducible refine (capnpref05_Word.calls k _ _ l0 t239 t240 t241 true _ ?side1 ?side2 A9.out).mono ?_); (case side1 => repeat (exact HR0.out)); (case side2 => exact HC0.out); rintro e w' ⟨rfl, ⟨nd, rfl⟩⟩; refine ⟨_, rfl, ?_⟩) | ((with_reducible refine gate_callee (f := 17) rfl ?_); refine goesL_ (some 56) rfl rfl Tryd.func17 (by kernel_rfl) rfl #[.int .u64 t241] rfl (by (try simp only [List.map_toArray, List.map_cons, List.map_nil]); rfl) ?_; (with_reducible refine (capnpref07_IsFar.calls t241 false _ A12.out).mono ?_); rintro e w' ⟨rfl, ⟨nd, rfl⟩⟩; refine ⟨_, rfl, ?_⟩))
            refine bodyPost_ret (results_list (rs := [.tmp 6, .tmp 7, .tmp 8, .tmp 9]) rfl (by simp) (.tmp (.tmp (.tmp (.tmp .nil))))) rfl ?_
            exact ⟨by rfl, by repeat ((with_reducible first | exact HB.out | apply pw_below_drewN))⟩
        · rw [if_neg c11] at H
          have c11b0 : ((Int.tmod (IntKind.u64.wrap (Int.tdiv t236 4)) 2) == 0) = false := beq_eq_false_iff_ne.mpr c11
          replace H := Option.bind_eq_some_iff.mp H
          obtain ⟨⟨t244, t245⟩, A140, H⟩ := H
          dsimp only at H
          have A14 := Aside0.mk A140
          clear A140
          by_cases c15 : t245 = true
          · subst c15
            have H1 : ((capnpref02_Decode.f k t244).bind fun bt246 => ((capnpref07_IsFar.f t241).bind fun t257 => (if t257 = true then (if (Int.tmod (IntKind.u64.wrap (Int.tdiv t241 4)) 2) = 1 then (some (0, 0, 0, 3)) else (if bt246.1 > 1 then (some (0, 0, 0, 3)) else (if bt246.2.1 = 0 then ((capnpref07_Landing.f t241).bind fun bt258 => (some (t244, bt258.1, bt258.2, 0))) else (some (0, 0, 0, 3))))) else (some (0, 0, 0, 3))))) = some (r1, r2, r3, r4) := by rw [if_pos rfl] at H; exact H
            clear H
            have H := H1
            clear H1
            replace H := Option.bind_eq_some_iff.mp H
            obtain ⟨⟨t246, t247, t248, t249, t250, t251, t252, t253, t254, t255⟩, A160, H⟩ := H
            dsimp only at H
            have A16 := Aside0.mk A160
            clear A160
            replace H := Option.bind_eq_some_iff.mp H
            obtain ⟨t257, A170, H⟩ := H
            have A17 := Aside0.mk A170
            clear A170
            by_cases c18 : t257 = true
            · subst c18
              have H1 : (if (Int.tmod (IntKind.u64.wrap (Int.tdiv t241 4)) 2) = 1 then (some (0, 0, 0, 3)) else (if t246 > 1 then (some (0, 0, 0, 3)) else (if t247 = 0 then ((capnpref07_Landing.f t241).bind fun bt258 => (some (t244, bt258.1, bt258.2, 0))) else (some (0, 0, 0, 3))))) = some (r1, r2, r3, r4) := by rw [if_pos rfl] at H; exact H
              clear H
              have H := H1
              clear H1
              by_cases c19 : (Int.tmod (IntKind.u64.wrap (Int.tdiv t241 4)) 2) = 1
              · rw [if_pos c19] at H
                have c19b0 : ((Int.tmod (IntKind.u64.wrap (Int.tdiv t241 4)) 2) == 1) = true := beq_iff_eq.mpr c19
                clear c19
                simp only [Option.some.injEq, Prod.mk.injEq] at H
                obtain ⟨rfl, rfl, rfl, rfl⟩ := H
                go_enter Tryd.func15, Tryd.ntmps15
                go_wp2_with (first | ((with_reducible refine gate_callee (f := 36) rfl ?_); refine goesL_ (some 25) rfl rfl Tryd.func36 (by kernel_rfl) rfl #[.slice A0 l0.length c0, .int .i64 a1, .int .i64 a2] rfl (by (try simp only [List.map_toArray, List.map_cons, List.map_nil]); rfl) ?_; (with_reducible refine (capnpref05_Word.calls k _ _ l0 a1 a2 t236 true _ ?side1 ?side2 A4.out).mono ?_); (case side1 => repeat (exact HR0.out)); (case side2 => exact HC0.out); rintro e w' ⟨rfl, ⟨nd, rfl⟩⟩; refine ⟨_, rfl, ?_⟩) | ((with_reducible refine gate_callee (f := 17) rfl ?_); refine goesL_ (some 31) rfl rfl Tryd.func17 (by kernel_rfl) rfl #[.int .u64 t236] rfl (by (try simp only [List.map_toArray, List.map_cons, List.map_nil]); rfl) ?_; (with_reducible refine (capnpref07_IsFar.calls t236 true _ A6.out).mono ?_); rintro e w' ⟨rfl, ⟨nd, rfl⟩⟩; refine ⟨_, rfl, ?_⟩) | ((with_reducible refine gate_callee (f := 19) rfl ?_); refine goesL_ (some 39) rfl rfl Tryd.func19 (by kernel_rfl) rfl #[.int .u64 t236] rfl (by (try simp only [List.map_toArray, List.map_cons, List.map_nil]); rfl) ?_; (with_reducible refine (capnpref07_Landing.calls t236 t239 t240 _ A8.out).mono ?_); rintro e w' ⟨rfl, ⟨nd, rfl⟩⟩; refine ⟨_, rfl, ?_⟩) | ((with_reducible refine gate_callee (f := 36) rfl ?_); refine goesL_ (some 46) rfl rfl Tryd.func36 (by kernel_rfl) rfl #[.slice A0 l0.length c0, .int .i64 t239, .int .i64 t240] rfl (by (try simp only [List.map_toArray, List.map_cons, List.map_nil]); rfl) ?_; (with_reducible refine (capnpref05_Word.calls k _ _ l0 t239 t240 t241 true _ ?side1 ?side2 A9.out).mono ?_); (case side1 => repeat (exact HR0.out)); (case side2 => exact HC0.out); rintro e w' ⟨rfl, ⟨nd, rfl⟩⟩; refine ⟨_, rfl, ?_⟩) | ((with_reducible refine gate_callee (f := 36) rfl ?_); refine goesL_ (some 66) rfl rfl Tryd.func36 (by kernel_rfl) rfl #[.slice A0 l0.length c0, .int .i64 t239, .int .i64 (wrap64 (t240 + 1))] rfl (by (try simp only [List.map_toArray, List.map_cons, List.map_nil]); rfl) ?_; (with_reducible refine (capnpref05_Word.calls k _ _ l0 t239 (wrap64 (t240 + 1)) t244 true _ ?side1 ?side2 A14.out).mono ?_); (case side1 => repeat (exact HR0.out)); (case side2 => exact HC0.out); rintro e w' ⟨rfl, ⟨nd, rfl⟩⟩; refine ⟨_, rfl, ?_⟩) | ((with_reducible refine gate_callee (f := 21) rfl ?_); refine goesL_ (some 72) rfl rfl Tryd.func21 (by kernel_rfl) rfl #[.int .u64 t244] rfl (by (try simp only [List.map_toArray, List.map_cons, List.map_nil]); rfl) ?_; (with_reducible refine (capnpref02_Decode.calls k t244 t246 t247 t248 t249 t250 t251 t252 t253 t254 t255 _ A16.out).mono ?_); rintro e w20 ⟨rfl, hb⟩; refine ⟨_, rfl, ?_⟩; replace HB := Aside0.mk (below_step (by repeat ((with_reducible first | exact HB.out | apply pw_below_drewN))) hb); (try clear hb)) | ((with_reducible refine gate_dst (N := 18) rfl ?_); refine box_event ?hg (N := 18) ?hd (cs := #[.int .i64 0, .int .i64 0, .int .i64 0, .int .i64 0, .int .i64 0, .int .i64 0, .bool false, .int .i64 0, .int .u32 0, .int .u32 0]) (t := 39) ?hr ?_; (case hd => rfl); (case hg => rfl); (case hr => (go_simp; done)); intro gb256 hg w21 hbox hb; replace BK256 := Aside0.mk (hbox); replace GE256 := Aside0.mk (ge_of HB.out hg); replace HB := Aside0.mk (below_step HB.out hb); clear hb hbox hg; obtain ⟨hcz22_0, hcz22_1, hcz22_2, hcz22_3, hcz22_4, hcz22_5, hcz22_6, hcz22_7, hcz22_8, hcz22_9⟩ := cells10 BK256.out; obtain ⟨hfz22_0, hfz22_1, hfz22_2, hfz22_3, hfz22_4, hfz22_5, hfz22_6, hfz22_7, hfz22_8, hfz22_9⟩ := frz10 BK256.out) | ((with_reducible refine gate_callee (f := 17) rfl ?_); refine goesL_ (some 74) rfl rfl Tryd.func17 (by kernel_rfl) rfl #[.int .u64 t241] rfl (by (try simp only [List.map_toArray, List.map_cons, List.map_nil]); rfl) ?_; (with_reducible refine (capnpref07_IsFar.calls t241 true _ A17.out).mono ?_); rintro e w' ⟨rfl, ⟨nd, rfl⟩⟩; refine ⟨_, rfl, ?_⟩))
                refine bodyPost_ret (results_list (rs := [.tmp 6, .tmp 7, .tmp 8, .tmp 9]) rfl (by simp) (.tmp (.tmp (.tmp (.tmp .nil))))) rfl ?_
                exact ⟨by rfl, by repeat ((with_reducible first | exact HB.out | apply pw_below_drewN | refine below_set ?_ GE256.out))⟩
              · rw [if_neg c19] at H
                have c19b0 : ((Int.tmod (IntKind.u64.wrap (Int.tdiv t241 4)) 2) == 1) = false := beq_eq_false_iff_ne.mpr c19
                by_cases c23 : t246 > 1
                · rw [if_pos c23] at H
                  have c23b0 : decide (1 < t246) = true := decide_eq_true c23
                  clear c23
                  simp only [Option.some.injEq, Prod.mk.injEq] at H
                  obtain ⟨rfl, rfl, rfl, rfl⟩ := H
                  go_enter Tryd.func15, Tryd.ntmps15
                  go_wp2_with (first | ((with_reducible refine gate_callee (f := 36) rfl ?_); refine goesL_ (some 25) rfl rfl Tryd.func36 (by kernel_rfl) rfl #[.slice A0 l0.length c0, .int .i64 a1, .int .i64 a2] rfl (by (try simp only [List.map_toArray, List.map_cons, List.map_nil]); rfl) ?_; (with_reducible refine (capnpref05_Word.calls k _ _ l0 a1 a2 t236 true _ ?side1 ?side2 A4.out).mono ?_); (case side1 => repeat (exact HR0.out)); (case side2 => exact HC0.out); rintro e w' ⟨rfl, ⟨nd, rfl⟩⟩; refine ⟨_, rfl, ?_⟩) | ((with_reducible refine gate_callee (f := 17) rfl ?_); refine goesL_ (some 31) rfl rfl Tryd.func17 (by kernel_rfl) rfl #[.int .u64 t236] rfl (by (try simp only [List.map_toArray, List.map_cons, List.map_nil]); rfl) ?_; (with_reducible refine (capnpref07_IsFar.calls t236 true _ A6.out).mono ?_); rintro e w' ⟨rfl, ⟨nd, rfl⟩⟩; refine ⟨_, rfl, ?_⟩) | ((with_reducible refine gate_callee (f := 19) rfl ?_); refine goesL_ (some 39) rfl rfl Tryd.func19 (by kernel_rfl) rfl #[.int .u64 t236] rfl (by (try simp only [List.map_toArray, List.map_cons, List.map_nil]); rfl) ?_; (with_reducible refine (capnpref07_Landing.calls t236 t239 t240 _ A8.out).mono ?_); rintro e w' ⟨rfl, ⟨nd, rfl⟩⟩; refine ⟨_, rfl, ?_⟩) | ((with_reducible refine gate_callee (f := 36) rfl ?_); refine goesL_ (some 46) rfl rfl Tryd.func36 (by kernel_rfl) rfl #[.slice A0 l0.length c0, .int .i64 t239, .int .i64 t240] rfl (by (try simp only [List.map_toArray, List.map_cons, List.map_nil]); rfl) ?_; (with_reducible refine (capnpref05_Word.calls k _ _ l0 t239 t240 t241 true _ ?side1 ?side2 A9.out).mono ?_); (case side1 => repeat (exact HR0.out)); (case side2 => exact HC0.out); rintro e w' ⟨rfl, ⟨nd, rfl⟩⟩; refine ⟨_, rfl, ?_⟩) | ((with_reducible refine gate_callee (f := 36) rfl ?_); refine goesL_ (some 66) rfl rfl Tryd.func36 (by kernel_rfl) rfl #[.slice A0 l0.length c0, .int .i64 t239, .int .i64 (wrap64 (t240 + 1))] rfl (by (try simp only [List.map_toArray, List.map_cons, List.map_nil]); rfl) ?_; (with_reducible refine (capnpref05_Word.calls k _ _ l0 t239 (wrap64 (t240 + 1)) t244 true _ ?side1 ?side2 A14.out).mono ?_); (case side1 => repeat (exact HR0.out)); (case side2 => exact HC0.out); rintro e w' ⟨rfl, ⟨nd, rfl⟩⟩; refine ⟨_, rfl, ?_⟩) | ((with_reducible refine gate_callee (f := 21) rfl ?_); refine goesL_ (some 72) rfl rfl Tryd.func21 (by kernel_rfl) rfl #[.int .u64 t244] rfl (by (try simp only [List.map_toArray, List.map_cons, List.map_nil]); rfl) ?_; (with_reducible refine (capnpref02_Decode.calls k t244 t246 t247 t248 t249 t250 t251 t252 t253 t254 t255 _ A16.out).mono ?_); rintro e w24 ⟨rfl, hb⟩; refine ⟨_, rfl, ?_⟩; replace HB := Aside0.mk (below_step (by repeat ((with_reducible first | exact HB.out | apply pw_below_drewN))) hb); (try clear hb)) | ((with_reducible refine gate_dst (N := 18) rfl ?_); refine box_event ?hg (N := 18) ?hd (cs := #[.int .i64 0, .int .i64 0, .int .i64 0, .int .i64 0, .int .i64 0, .int .i64 0, .bool false, .int .i64 0, .int .u32 0, .int .u32 0]) (t := 39) ?hr ?_; (case hd => rfl); (case hg => rfl); (case hr => (go_simp; done)); intro gb256 hg w25 hbox hb; replace BK256 := Aside0.mk (hbox); replace GE256 := Aside0.mk (ge_of HB.out hg); replace HB := Aside0.mk (below_step HB.out hb); clear hb hbox hg; obtain ⟨hcz26_0, hcz26_1, hcz26_2, hcz26_3, hcz26_4, hcz26_5, hcz26_6, hcz26_7, hcz26_8, hcz26_9⟩ := cells10 BK256.out; obtain ⟨hfz26_0, hfz26_1, hfz26_2, hfz26_3, hfz26_4, hfz26_5, hfz26_6, hfz26_7, hfz26_8, hfz26_9⟩ := frz10 BK256.out) | ((with_reducible refine gate_callee (f := 17) rfl ?_); refine goesL_ (some 74) rfl rfl Tryd.func17 (by kernel_rfl) rfl #[.int .u64 t241] rfl (by (try simp only [List.map_toArray, List.map_cons, List.map_nil]); rfl) ?_; (with_reducible refine (capnpref07_IsFar.calls t241 true _ A17.out).mono ?_); rintro e w' ⟨rfl, ⟨nd, rfl⟩⟩; refine ⟨_, rfl, ?_⟩))
                  refine bodyPost_ret (results_list (rs := [.tmp 6, .tmp 7, .tmp 8, .tmp 9]) rfl (by simp) (.tmp (.tmp (.tmp (.tmp .nil))))) rfl ?_
                  exact ⟨by rfl, by repeat ((with_reducible first | exact HB.out | apply pw_below_drewN | refine below_set ?_ GE256.out))⟩
                · rw [if_neg c23] at H
                  have c23b0 : decide (1 < t246) = false := decide_eq_false c23
                  clear c23
                  by_cases c27 : t247 = 0
                  · rw [if_pos c27] at H
                    have c27b1 : (t247 != 0) = false := bne_eq_false_iff_eq.mpr c27
                    clear c27
                    replace H := Option.bind_eq_some_iff.mp H
                    obtain ⟨⟨t258, t259⟩, A280, H⟩ := H
                    replace H : (some (t244, t258, t259, 0)) = some (r1, r2, r3, r4) := H
                    have A28 := Aside0.mk A280
                    clear A280
                    simp only [Option.some.injEq, Prod.mk.injEq] at H
                    obtain ⟨rfl, rfl, rfl, rfl⟩ := H
                    go_enter Tryd.func15, Tryd.ntmps15
                    go_wp2_with (first | ((with_reducible refine gate_callee (f := 36) rfl ?_); refine goesL_ (some 25) rfl rfl Tryd.func36 (by kernel_rfl) rfl #[.slice A0 l0.length c0, .int .i64 a1, .int .i64 a2] rfl (by (try simp only [List.map_toArray, List.map_cons, List.map_nil]); rfl) ?_; (with_reducible refine (capnpref05_Word.calls k _ _ l0 a1 a2 t236 true _ ?side1 ?side2 A4.out).mono ?_); (case side1 => repeat (exact HR0.out)); (case side2 => exact HC0.out); rintro e w' ⟨rfl, ⟨nd, rfl⟩⟩; refine ⟨_, rfl, ?_⟩) | ((with_reducible refine gate_callee (f := 17) rfl ?_); refine goesL_ (some 31) rfl rfl Tryd.func17 (by kernel_rfl) rfl #[.int .u64 t236] rfl (by (try simp only [List.map_toArray, List.map_cons, List.map_nil]); rfl) ?_; (with_reducible refine (capnpref07_IsFar.calls t236 true _ A6.out).mono ?_); rintro e w' ⟨rfl, ⟨nd, rfl⟩⟩; refine ⟨_, rfl, ?_⟩) | ((with_reducible refine gate_callee (f := 19) rfl ?_); refine goesL_ (some 39) rfl rfl Tryd.func19 (by kernel_rfl) rfl #[.int .u64 t236] rfl (by (try simp only [List.map_toArray, List.map_cons, List.map_nil]); rfl) ?_; (with_reducible refine (capnpref07_Landing.calls t236 t239 t240 _ A8.out).mono ?_); rintro e w' ⟨rfl, ⟨nd, rfl⟩⟩; refine ⟨_, rfl, ?_⟩) | ((with_reducible refine gate_callee (f := 36) rfl ?_); refine goesL_ (some 46) rfl rfl Tryd.func36 (by kernel_rfl) rfl #[.slice A0 l0.length c0, .int .i64 t239, .int .i64 t240] rfl (by (try simp only [List.map_toArray, List.map_cons, List.map_nil]); rfl) ?_; (with_reducible refine (capnpref05_Word.calls k _ _ l0 t239 t240 t241 true _ ?side1 ?side2 A9.out).mono ?_); (case side1 => repeat (exact HR0.out)); (case side2 => exact HC0.out); rintro e w' ⟨rfl, ⟨nd, rfl⟩⟩; refine ⟨_, rfl, ?_⟩) | ((with_reducible refine gate_callee (f := 36) rfl ?_); refine goesL_ (some 66) rfl rfl Tryd.func36 (by kernel_rfl) rfl #[.slice A0 l0.length c0, .int .i64 t239, .int .i64 (wrap64 (t240 + 1))] rfl (by (try simp only [List.map_toArray, List.map_cons, List.map_nil]); rfl) ?_; (with_reducible refine (capnpref05_Word.calls k _ _ l0 t239 (wrap64 (t240 + 1)) t244 true _ ?side1 ?side2 A14.out).mono ?_); (case side1 => repeat (exact HR0.out)); (case side2 => exact HC0.out); rintro e w' ⟨rfl, ⟨nd, rfl⟩⟩; refine ⟨_, rfl, ?_⟩) | ((with_reducible refine gate_callee (f := 21) rfl ?_); refine goesL_ (some 72) rfl rfl Tryd.func21 (by kernel_rfl) rfl #[.int .u64 t244] rfl (by (try simp only [List.map_toArray, List.map_cons, List.map_nil]); rfl) ?_; (with_reducible refine (capnpref02_Decode.calls k t244 t246 t247 t248 t249 t250 t251 t252 t253 t254 t255 _ A16.out).mono ?_); rintro e w29 ⟨rfl, hb⟩; refine ⟨_, rfl, ?_⟩; replace HB := Aside0.mk (below_step (by repeat ((with_reducible first | exact HB.out | apply pw_below_drewN))) hb); (try clear hb)) | ((with_reducible refine gate_dst (N := 18) rfl ?_); refine box_event ?hg (N := 18) ?hd (cs := #[.int .i64 0, .int .i64 0, .int .i64 0, .int .i64 0, .int .i64 0, .int .i64 0, .bool false, .int .i64 0, .int .u32 0, .int .u32 0]) (t := 39) ?hr ?_; (case hd => rfl); (case hg => rfl); (case hr => (go_simp; done)); intro gb256 hg w30 hbox hb; replace BK256 := Aside0.mk (hbox); replace GE256 := Aside0.mk (ge_of HB.out hg); replace HB := Aside0.mk (below_step HB.out hb); clear hb hbox hg; obtain ⟨hcz31_0, hcz31_1, hcz31_2, hcz31_3, hcz31_4, hcz31_5, hcz31_6, hcz31_7, hcz31_8, hcz31_9⟩ := cells10 BK256.out; obtain ⟨hfz31_0, hfz31_1, hfz31_2, hfz31_3, hfz31_4, hfz31_5, hfz31_6, hfz31_7, hfz31_8, hfz31_9⟩ := frz10 BK256.out) | ((with_reducible refine gate_callee (f := 17) rfl ?_); refine goesL_ (some 74) rfl rfl Tryd.func17 (by kernel_rfl) rfl #[.int .u64 t241] rfl (by (try simp only [List.map_toArray, List.map_cons, List.map_nil]); rfl) ?_; (with_reducible refine (capnpref07_IsFar.calls t241 true _ A17.out).mono ?_); rintro e w' ⟨rfl, ⟨nd, rfl⟩⟩; refine ⟨_, rfl, ?_⟩) | ((with_reducible refine gate_callee (f := 19) rfl ?_); refine goesL_ (some 94) rfl rfl Tryd.func19 (by kernel_rfl) rfl #[.int .u64 t241] rfl (by (try simp only [List.map_toArray, List.map_cons, List.map_nil]); rfl) ?_; (with_reducible refine (capnpref07_Landing.calls t241 t258 t259 _ A28.out).mono ?_); rintro e w' ⟨rfl, ⟨nd, rfl⟩⟩; refine ⟨_, rfl, ?_⟩))
                    refine bodyPost_ret (results_list (rs := [.tmp 6, .tmp 7, .tmp 8, .tmp 9]) rfl (by simp) (.tmp (.tmp (.tmp (.tmp .nil))))) rfl ?_
                    exact ⟨by rfl, by repeat ((with_reducible first | exact HB.out | apply pw_below_drewN | refine below_set ?_ GE256.out))⟩
                  · rw [if_neg c27] at H
                    have c27b1 : (t247 != 0) = true := bne_iff_ne.mpr c27
                    simp only [Option.some.injEq, Prod.mk.injEq] at H
                    obtain ⟨rfl, rfl, rfl, rfl⟩ := H
                    go_enter Tryd.func15, Tryd.ntmps15
                    go_wp2_with (first | ((with_reducible refine gate_callee (f := 36) rfl ?_); refine goesL_ (some 25) rfl rfl Tryd.func36 (by kernel_rfl) rfl #[.slice A0 l0.length c0, .int .i64 a1, .int .i64 a2] rfl (by (try simp only [List.map_toArray, List.map_cons, List.map_nil]); rfl) ?_; (with_reducible refine (capnpref05_Word.calls k _ _ l0 a1 a2 t236 true _ ?side1 ?side2 A4.out).mono ?_); (case side1 => repeat (exact HR0.out)); (case side2 => exact HC0.out); rintro e w' ⟨rfl, ⟨nd, rfl⟩⟩; refine ⟨_, rfl, ?_⟩) | ((with_reducible refine gate_callee (f := 17) rfl ?_); refine goesL_ (some 31) rfl rfl Tryd.func17 (by kernel_rfl) rfl #[.int .u64 t236] rfl (by (try simp only [List.map_toArray, List.map_cons, List.map_nil]); rfl) ?_; (with_reducible refine (capnpref07_IsFar.calls t236 true _ A6.out).mono ?_); rintro e w' ⟨rfl, ⟨nd, rfl⟩⟩; refine ⟨_, rfl, ?_⟩) | ((with_reducible refine gate_callee (f := 19) rfl ?_); refine goesL_ (some 39) rfl rfl Tryd.func19 (by kernel_rfl) rfl #[.int .u64 t236] rfl (by (try simp only [List.map_toArray, List.map_cons, List.map_nil]); rfl) ?_; (with_reducible refine (capnpref07_Landing.calls t236 t239 t240 _ A8.out).mono ?_); rintro e w' ⟨rfl, ⟨nd, rfl⟩⟩; refine ⟨_, rfl, ?_⟩) | ((with_reducible refine gate_callee (f := 36) rfl ?_); refine goesL_ (some 46) rfl rfl Tryd.func36 (by kernel_rfl) rfl #[.slice A0 l0.length c0, .int .i64 t239, .int .i64 t240] rfl (by (try simp only [List.map_toArray, List.map_cons, List.map_nil]); rfl) ?_; (with_reducible refine (capnpref05_Word.calls k _ _ l0 t239 t240 t241 true _ ?side1 ?side2 A9.out).mono ?_); (case side1 => repeat (exact HR0.out)); (case side2 => exact HC0.out); rintro e w' ⟨rfl, ⟨nd, rfl⟩⟩; refine ⟨_, rfl, ?_⟩) | ((with_reducible refine gate_callee (f := 36) rfl ?_); refine goesL_ (some 66) rfl rfl Tryd.func36 (by kernel_rfl) rfl #[.slice A0 l0.length c0, .int .i64 t239, .int .i64 (wrap64 (t240 + 1))] rfl (by (try simp only [List.map_toArray, List.map_cons, List.map_nil]); rfl) ?_; (with_reducible refine (capnpref05_Word.calls k _ _ l0 t239 (wrap64 (t240 + 1)) t244 true _ ?side1 ?side2 A14.out).mono ?_); (case side1 => repeat (exact HR0.out)); (case side2 => exact HC0.out); rintro e w' ⟨rfl, ⟨nd, rfl⟩⟩; refine ⟨_, rfl, ?_⟩) | ((with_reducible refine gate_callee (f := 21) rfl ?_); refine goesL_ (some 72) rfl rfl Tryd.func21 (by kernel_rfl) rfl #[.int .u64 t244] rfl (by (try simp only [List.map_toArray, List.map_cons, List.map_nil]); rfl) ?_; (with_reducible refine (capnpref02_Decode.calls k t244 t246 t247 t248 t249 t250 t251 t252 t253 t254 t255 _ A16.out).mono ?_); rintro e w32 ⟨rfl, hb⟩; refine ⟨_, rfl, ?_⟩; replace HB := Aside0.mk (below_step (by repeat ((with_reducible first | exact HB.out | apply pw_below_drewN))) hb); (try clear hb)) | ((with_reducible refine gate_dst (N := 18) rfl ?_); refine box_event ?hg (N := 18) ?hd (cs := #[.int .i64 0, .int .i64 0, .int .i64 0, .int .i64 0, .int .i64 0, .int .i64 0, .bool false, .int .i64 0, .int .u32 0, .int .u32 0]) (t := 39) ?hr ?_; (case hd => rfl); (case hg => rfl); (case hr => (go_simp; done)); intro gb256 hg w33 hbox hb; replace BK256 := Aside0.mk (hbox); replace GE256 := Aside0.mk (ge_of HB.out hg); replace HB := Aside0.mk (below_step HB.out hb); clear hb hbox hg; obtain ⟨hcz34_0, hcz34_1, hcz34_2, hcz34_3, hcz34_4, hcz34_5, hcz34_6, hcz34_7, hcz34_8, hcz34_9⟩ := cells10 BK256.out; obtain ⟨hfz34_0, hfz34_1, hfz34_2, hfz34_3, hfz34_4, hfz34_5, hfz34_6, hfz34_7, hfz34_8, hfz34_9⟩ := frz10 BK256.out) | ((with_reducible refine gate_callee (f := 17) rfl ?_); refine goesL_ (some 74) rfl rfl Tryd.func17 (by kernel_rfl) rfl #[.int .u64 t241] rfl (by (try simp only [List.map_toArray, List.map_cons, List.map_nil]); rfl) ?_; (with_reducible refine (capnpref07_IsFar.calls t241 true _ A17.out).mono ?_); rintro e w' ⟨rfl, ⟨nd, rfl⟩⟩; refine ⟨_, rfl, ?_⟩))
                    refine bodyPost_ret (results_list (rs := [.tmp 6, .tmp 7, .tmp 8, .tmp 9]) rfl (by simp) (.tmp (.tmp (.tmp (.tmp .nil))))) rfl ?_
                    exact ⟨by rfl, by repeat ((with_reducible first | exact HB.out | apply pw_below_drewN | refine below_set ?_ GE256.out))⟩
            · replace c18 := Bool.eq_false_iff.mpr c18
              subst c18
              have H1 : (some (0, 0, 0, 3)) = some (r1, r2, r3, r4) := by rw [if_neg (show ¬ (false = true) by decide)] at H; exact H
              clear H
              have H := H1
              clear H1
              simp only [Option.some.injEq, Prod.mk.injEq] at H
              obtain ⟨rfl, rfl, rfl, rfl⟩ := H
              go_enter Tryd.func15, Tryd.ntmps15
              go_wp2_with (first | ((with_reducible refine gate_callee (f := 36) rfl ?_); refine goesL_ (some 25) rfl rfl Tryd.func36 (by kernel_rfl) rfl #[.slice A0 l0.length c0, .int .i64 a1, .int .i64 a2] rfl (by (try simp only [List.map_toArray, List.map_cons, List.map_nil]); rfl) ?_; (with_reducible refine (capnpref05_Word.calls k _ _ l0 a1 a2 t236 true _ ?side1 ?side2 A4.out).mono ?_); (case side1 => repeat (exact HR0.out)); (case side2 => exact HC0.out); rintro e w' ⟨rfl, ⟨nd, rfl⟩⟩; refine ⟨_, rfl, ?_⟩) | ((with_reducible refine gate_callee (f := 17) rfl ?_); refine goesL_ (some 31) rfl rfl Tryd.func17 (by kernel_rfl) rfl #[.int .u64 t236] rfl (by (try simp only [List.map_toArray, List.map_cons, List.map_nil]); rfl) ?_; (with_reducible refine (capnpref07_IsFar.calls t236 true _ A6.out).mono ?_); rintro e w' ⟨rfl, ⟨nd, rfl⟩⟩; refine ⟨_, rfl, ?_⟩) | ((with_reducible refine gate_callee (f := 19) rfl ?_); refine goesL_ (some 39) rfl rfl Tryd.func19 (by kernel_rfl) rfl #[.int .u64 t236] rfl (by (try simp only [List.map_toArray, List.map_cons, List.map_nil]); rfl) ?_; (with_reducible refine (capnpref07_Landing.calls t236 t239 t240 _ A8.out).mono ?_); rintro e w' ⟨rfl, ⟨nd, rfl⟩⟩; refine ⟨_, rfl, ?_⟩) | ((with_reducible refine gate_callee (f := 36) rfl ?_); refine goesL_ (some 46) rfl rfl Tryd.func36 (by kernel_rfl) rfl #[.slice A0 l0.length c0, .int .i64 t239, .int .i64 t240] rfl (by (try simp only [List.map_toArray, List.map_cons, List.map_nil]); rfl) ?_; (with_reducible refine (capnpref05_Word.calls k _ _ l0 t239 t240 t241 true _ ?side1 ?side2 A9.out).mono ?_); (case side1 => repeat (exact HR0.out)); (case side2 => exact HC0.out); rintro e w' ⟨rfl, ⟨nd, rfl⟩⟩; refine ⟨_, rfl, ?_⟩) | ((with_reducible refine gate_callee (f := 36) rfl ?_); refine goesL_ (some 66) rfl rfl Tryd.func36 (by kernel_rfl) rfl #[.slice A0 l0.length c0, .int .i64 t239, .int .i64 (wrap64 (t240 + 1))] rfl (by (try simp only [List.map_toArray, List.map_cons, List.map_nil]); rfl) ?_; (with_reducible refine (capnpref05_Word.calls k _ _ l0 t239 (wrap64 (t240 + 1)) t244 true _ ?side1 ?side2 A14.out).mono ?_); (case side1 => repeat (exact HR0.out)); (case side2 => exact HC0.out); rintro e w' ⟨rfl, ⟨nd, rfl⟩⟩; refine ⟨_, rfl, ?_⟩) | ((with_reducible refine gate_callee (f := 21) rfl ?_); refine goesL_ (some 72) rfl rfl Tryd.func21 (by kernel_rfl) rfl #[.int .u64 t244] rfl (by (try simp only [List.map_toArray, List.map_cons, List.map_nil]); rfl) ?_; (with_reducible refine (capnpref02_Decode.calls k t244 t246 t247 t248 t249 t250 t251 t252 t253 t254 t255 _ A16.out).mono ?_); rintro e w35 ⟨rfl, hb⟩; refine ⟨_, rfl, ?_⟩; replace HB := Aside0.mk (below_step (by repeat ((with_reducible first | exact HB.out | apply pw_below_drewN))) hb); (try clear hb)) | ((with_reducible refine gate_dst (N := 18) rfl ?_); refine box_event ?hg (N := 18) ?hd (cs := #[.int .i64 0, .int .i64 0, .int .i64 0, .int .i64 0, .int .i64 0, .int .i64 0, .bool false, .int .i64 0, .int .u32 0, .int .u32 0]) (t := 39) ?hr ?_; (case hd => rfl); (case hg => rfl); (case hr => (go_simp; done)); intro gb256 hg w36 hbox hb; replace BK256 := Aside0.mk (hbox); replace GE256 := Aside0.mk (ge_of HB.out hg); replace HB := Aside0.mk (below_step HB.out hb); clear hb hbox hg; obtain ⟨hcz37_0, hcz37_1, hcz37_2, hcz37_3, hcz37_4, hcz37_5, hcz37_6, hcz37_7, hcz37_8, hcz37_9⟩ := cells10 BK256.out; obtain ⟨hfz37_0, hfz37_1, hfz37_2, hfz37_3, hfz37_4, hfz37_5, hfz37_6, hfz37_7, hfz37_8, hfz37_9⟩ := frz10 BK256.out) | ((with_reducible refine gate_callee (f := 17) rfl ?_); refine goesL_ (some 74) rfl rfl Tryd.func17 (by kernel_rfl) rfl #[.int .u64 t241] rfl (by (try simp only [List.map_toArray, List.map_cons, List.map_nil]); rfl) ?_; (with_reducible refine (capnpref07_IsFar.calls t241 false _ A17.out).mono ?_); rintro e w' ⟨rfl, ⟨nd, rfl⟩⟩; refine ⟨_, rfl, ?_⟩))
              refine bodyPost_ret (results_list (rs := [.tmp 6, .tmp 7, .tmp 8, .tmp 9]) rfl (by simp) (.tmp (.tmp (.tmp (.tmp .nil))))) rfl ?_
              exact ⟨by rfl, by repeat ((with_reducible first | exact HB.out | apply pw_below_drewN | refine below_set ?_ GE256.out))⟩
          · replace c15 := Bool.eq_false_iff.mpr c15
            subst c15
            have H1 : (some (0, 0, 0, 2)) = some (r1, r2, r3, r4) := by rw [if_neg (show ¬ (false = true) by decide)] at H; exact H
            clear H
            have H := H1
            clear H1
            simp only [Option.some.injEq, Prod.mk.injEq] at H
            obtain ⟨rfl, rfl, rfl, rfl⟩ := H
            go_enter Tryd.func15, Tryd.ntmps15
            go_wp2_with (first | ((with_reducible refine gate_callee (f := 36) rfl ?_); refine goesL_ (some 25) rfl rfl Tryd.func36 (by kernel_rfl) rfl #[.slice A0 l0.length c0, .int .i64 a1, .int .i64 a2] rfl (by (try simp only [List.map_toArray, List.map_cons, List.map_nil]); rfl) ?_; (with_reducible refine (capnpref05_Word.calls k _ _ l0 a1 a2 t236 true _ ?side1 ?side2 A4.out).mono ?_); (case side1 => repeat (exact HR0.out)); (case side2 => exact HC0.out); rintro e w' ⟨rfl, ⟨nd, rfl⟩⟩; refine ⟨_, rfl, ?_⟩) | ((with_reducible refine gate_callee (f := 17) rfl ?_); refine goesL_ (some 31) rfl rfl Tryd.func17 (by kernel_rfl) rfl #[.int .u64 t236] rfl (by (try simp only [List.map_toArray, List.map_cons, List.map_nil]); rfl) ?_; (with_reducible refine (capnpref07_IsFar.calls t236 true _ A6.out).mono ?_); rintro e w' ⟨rfl, ⟨nd, rfl⟩⟩; refine ⟨_, rfl, ?_⟩) | ((with_reducible refine gate_callee (f := 19) rfl ?_); refine goesL_ (some 39) rfl rfl Tryd.func19 (by kernel_rfl) rfl #[.int .u64 t236] rfl (by (try simp only [List.map_toArray, List.map_cons, List.map_nil]); rfl) ?_; (with_reducible refine (capnpref07_Landing.calls t236 t239 t240 _ A8.out).mono ?_); rintro e w' ⟨rfl, ⟨nd, rfl⟩⟩; refine ⟨_, rfl, ?_⟩) | ((with_reducible refine gate_callee (f := 36) rfl ?_); refine goesL_ (some 46) rfl rfl Tryd.func36 (by kernel_rfl) rfl #[.slice A0 l0.length c0, .int .i64 t239, .int .i64 t240] rfl (by (try simp only [List.map_toArray, List.map_cons, List.map_nil]); rfl) ?_; (with_reducible refine (capnpref05_Word.calls k _ _ l0 t239 t240 t241 true _ ?side1 ?side2 A9.out).mono ?_); (case side1 => repeat (exact HR0.out)); (case side2 => exact HC0.out); rintro e w' ⟨rfl, ⟨nd, rfl⟩⟩; refine ⟨_, rfl, ?_⟩) | ((with_reducible refine gate_callee (f := 36) rfl ?_); refine goesL_ (some 66) rfl rfl Tryd.func36 (by kernel_rfl) rfl #[.slice A0 l0.length c0, .int .i64 t239, .int .i64 (wrap64 (t240 + 1))] rfl (by (try simp only [List.map_toArray, List.map_cons, List.map_nil]); rfl) ?_; (with_reducible refine (capnpref05_Word.calls k _ _ l0 t239 (wrap64 (t240 + 1)) t244 false _ ?side1 ?side2 A14.out).mono ?_); (case side1 => repeat (exact HR0.out)); (case side2 => exact HC0.out); rintro e w' ⟨rfl, ⟨nd, rfl⟩⟩; refine ⟨_, rfl, ?_⟩))
            refine bodyPost_ret (results_list (rs := [.tmp 6, .tmp 7, .tmp 8, .tmp 9]) rfl (by simp) (.tmp (.tmp (.tmp (.tmp .nil))))) rfl ?_
            exact ⟨by rfl, by repeat ((with_reducible first | exact HB.out | apply pw_below_drewN))⟩
      · replace c10 := Bool.eq_false_iff.mpr c10
        subst c10
        have H1 : (some (0, 0, 0, 2)) = some (r1, r2, r3, r4) := by rw [if_neg (show ¬ (false = true) by decide)] at H; exact H
        clear H
        have H := H1
        clear H1
        simp only [Option.some.injEq, Prod.mk.injEq] at H
        obtain ⟨rfl, rfl, rfl, rfl⟩ := H
        go_enter Tryd.func15, Tryd.ntmps15
        go_wp2_with (first | ((with_reducible refine gate_callee (f := 36) rfl ?_); refine goesL_ (some 25) rfl rfl Tryd.func36 (by kernel_rfl) rfl #[.slice A0 l0.length c0, .int .i64 a1, .int .i64 a2] rfl (by (try simp only [List.map_toArray, List.map_cons, List.map_nil]); rfl) ?_; (with_reducible refine (capnpref05_Word.calls k _ _ l0 a1 a2 t236 true _ ?side1 ?side2 A4.out).mono ?_); (case side1 => repeat (exact HR0.out)); (case side2 => exact HC0.out); rintro e w' ⟨rfl, ⟨nd, rfl⟩⟩; refine ⟨_, rfl, ?_⟩) | ((with_reducible refine gate_callee (f := 17) rfl ?_); refine goesL_ (some 31) rfl rfl Tryd.func17 (by kernel_rfl) rfl #[.int .u64 t236] rfl (by (try simp only [List.map_toArray, List.map_cons, List.map_nil]); rfl) ?_; (with_reducible refine (capnpref07_IsFar.calls t236 true _ A6.out).mono ?_); rintro e w' ⟨rfl, ⟨nd, rfl⟩⟩; refine ⟨_, rfl, ?_⟩) | ((with_reducible refine gate_callee (f := 19) rfl ?_); refine goesL_ (some 39) rfl rfl Tryd.func19 (by kernel_rfl) rfl #[.int .u64 t236] rfl (by (try simp only [List.map_toArray, List.map_cons, List.map_nil]); rfl) ?_; (with_reducible refine (capnpref07_Landing.calls t236 t239 t240 _ A8.out).mono ?_); rintro e w' ⟨rfl, ⟨nd, rfl⟩⟩; refine ⟨_, rfl, ?_⟩) | ((with_reducible refine gate_callee (f := 36) rfl ?_); refine goesL_ (some 46) rfl rfl Tryd.func36 (by kernel_rfl) rfl #[.slice A0 l0.length c0, .int .i64 t239, .int .i64 t240] rfl (by (try simp only [List.map_toArray, List.map_cons, List.map_nil]); rfl) ?_; (with_reducible refine (capnpref05_Word.calls k _ _ l0 t239 t240 t241 false _ ?side1 ?side2 A9.out).mono ?_); (case side1 => repeat (exact HR0.out)); (case side2 => exact HC0.out); rintro e w' ⟨rfl, ⟨nd, rfl⟩⟩; refine ⟨_, rfl, ?_⟩))
        refine bodyPost_ret (results_list (rs := [.tmp 6, .tmp 7, .tmp 8, .tmp 9]) rfl (by simp) (.tmp (.tmp (.tmp (.tmp .nil))))) rfl ?_
        exact ⟨by rfl, by repeat ((with_reducible first | exact HB.out | apply pw_below_drewN))⟩
    · replace c7 := Bool.eq_false_iff.mpr c7
      subst c7
      have H1 : (some (t236, a1, wrap64 (a2 + 1), 0)) = some (r1, r2, r3, r4) := by rw [if_neg (show ¬ (false = true) by decide)] at H; exact H
      clear H
      have H := H1
      clear H1
      simp only [Option.some.injEq, Prod.mk.injEq] at H
      obtain ⟨rfl, rfl, rfl, rfl⟩ := H
      go_enter Tryd.func15, Tryd.ntmps15
      go_wp2_with (first | ((with_reducible refine gate_callee (f := 36) rfl ?_); refine goesL_ (some 25) rfl rfl Tryd.func36 (by kernel_rfl) rfl #[.slice A0 l0.length c0, .int .i64 a1, .int .i64 a2] rfl (by (try simp only [List.map_toArray, List.map_cons, List.map_nil]); rfl) ?_; (with_reducible refine (capnpref05_Word.calls k _ _ l0 a1 a2 t236 true _ ?side1 ?side2 A4.out).mono ?_); (case side1 => repeat (exact HR0.out)); (case side2 => exact HC0.out); rintro e w' ⟨rfl, ⟨nd, rfl⟩⟩; refine ⟨_, rfl, ?_⟩) | ((with_reducible refine gate_callee (f := 17) rfl ?_); refine goesL_ (some 31) rfl rfl Tryd.func17 (by kernel_rfl) rfl #[.int .u64 t236] rfl (by (try simp only [List.map_toArray, List.map_cons, List.map_nil]); rfl) ?_; (with_reducible refine (capnpref07_IsFar.calls t236 false _ A6.out).mono ?_); rintro e w' ⟨rfl, ⟨nd, rfl⟩⟩; refine ⟨_, rfl, ?_⟩))
      refine bodyPost_ret (results_list (rs := [.tmp 6, .tmp 7, .tmp 8, .tmp 9]) rfl (by simp) (.tmp (.tmp (.tmp (.tmp .nil))))) rfl ?_
      exact ⟨by rfl, by repeat ((with_reducible first | exact HB.out | apply pw_below_drewN))⟩
  · replace c5 := Bool.eq_false_iff.mpr c5
    subst c5
    have H1 : (some (0, 0, 0, 2)) = some (r1, r2, r3, r4) := by rw [if_neg (show ¬ (false = true) by decide)] at H; exact H
    clear H
    have H := H1
    clear H1
    simp only [Option.some.injEq, Prod.mk.injEq] at H
    obtain ⟨rfl, rfl, rfl, rfl⟩ := H
    go_enter Tryd.func15, Tryd.ntmps15
    go_wp2_with (((with_reducible refine gate_callee (f := 36) rfl ?_); refine goesL_ (some 25) rfl rfl Tryd.func36 (by kernel_rfl) rfl #[.slice A0 l0.length c0, .int .i64 a1, .int .i64 a2] rfl (by (try simp only [List.map_toArray, List.map_cons, List.map_nil]); rfl) ?_; (with_reducible refine (capnpref05_Word.calls k _ _ l0 a1 a2 t236 false _ ?side1 ?side2 A4.out).mono ?_); (case side1 => repeat (exact HR0.out)); (case side2 => exact HC0.out); rintro e w' ⟨rfl, ⟨nd, rfl⟩⟩; refine ⟨_, rfl, ?_⟩))
    refine bodyPost_ret (results_list (rs := [.tmp 6, .tmp 7, .tmp 8, .tmp 9]) rfl (by simp) (.tmp (.tmp (.tmp (.tmp .nil))))) rfl ?_
    exact ⟨by rfl, by repeat ((with_reducible first | exact HB.out | apply pw_below_drewN))⟩

end Go.Proofs.YtcjhejopcghgnaaDoor.P

set_option linter.unusedVariables false
set_option linter.unusedSimpArgs false
namespace Go.Proofs.YtcjhejopcghgnaaDoor.P
open Go.RowKit Go.Proofs.YtcjhejopcghgnaaDoorW.PrintWords Go.Proofs.YtcjhejopcghgnaaDoorW.PrintLast Go.Proofs.YtcjhejopcghgnaaDoorW.PrintMore
/-- The word at a place of a message. -/
def wd (l : List (List Int)) (s a : Int) : Int := rd (rd_L5 l s) a
theorem wd_range {l : List (List Int)} (h : Segs l) (s a : Int) : 0 ≤ wd l s a ∧ wd l s a < 18446744073709551616 := by
  have hw := (h.seg s).2
  unfold wd rd
  rw [List.getD_eq_getElem?_getD]
  by_cases hs : a.toNat < (rd_L5 l s).length
  · rw [List.getElem?_eq_getElem hs]
    have := hw _ (List.getElem_mem hs)
    simp only [Option.getD_some]
    omega
  · rw [List.getElem?_eq_none (by omega)]
    simp
theorem dec_kind {a : Int} (h : 0 ≤ a ∧ a < 18446744073709551616) : (decI a).1 = a % 4 := by
  unfold decI
  repeat' split
  all_goals (simp; omega)
theorem dec_far {a : Int} (hr : 0 ≤ a ∧ a < 18446744073709551616) (h : a % 4 = 2) : decI a = (2, 0, 0, 0, 0, 0, a / 4 % 2 == 1, a / 8 % 536870912, a / 4294967296, 0) := by
  unfold decI
  rw [if_neg (by omega), if_neg (by omega), if_pos h, Int.emod_eq_of_lt (a := a / 4294967296) (by omega) (by omega)]
theorem landing_seg (a : Int) (h : 0 ≤ a ∧ a < 18446744073709551616) : 0 ≤ a / 4294967296 ∧ a / 4294967296 ≤ 4294967295 := by omega
/-- What following a far word comes to, one pad. -/
def sgl (l : List (List Int)) (a : Int) : Int × Int × Int × Int :=
  if inB l (a / 4294967296) (a / 8 % 536870912) 1 then (if wd l (a / 4294967296) (a / 8 % 536870912) % 4 = 2 then (0, 0, 0, 3) else (wd l (a / 4294967296) (a / 8 % 536870912), a / 4294967296, a / 8 % 536870912 + 1, 0)) else (0, 0, 0, 2)
/-- Two pads. -/
def dbl (l : List (List Int)) (a : Int) : Int × Int × Int × Int :=
  if inB l (a / 4294967296) (a / 8 % 536870912) 2 then
    (if wd l (a / 4294967296) (a / 8 % 536870912) % 4 = 2 ∧ wd l (a / 4294967296) (a / 8 % 536870912) / 4 % 2 = 0 ∧ wd l (a / 4294967296) (a / 8 % 536870912 + 1) % 4 ≤ 1 ∧ (decI (wd l (a / 4294967296) (a / 8 % 536870912 + 1))).2.1 = 0
      then (wd l (a / 4294967296) (a / 8 % 536870912 + 1), wd l (a / 4294967296) (a / 8 % 536870912) / 4294967296, wd l (a / 4294967296) (a / 8 % 536870912) / 8 % 536870912, 0) else (0, 0, 0, 3)) else (0, 0, 0, 2)
/-- What Follow answers. -/
def fol (l : List (List Int)) (s a : Int) : Int × Int × Int × Int :=
  if inB l s a 1 then (if wd l s a % 4 = 2 then (if wd l s a / 4 % 2 = 1 then dbl l (wd l s a) else sgl l (wd l s a)) else (wd l s a, s, a + 1, 0)) else (0, 0, 0, 2)
theorem IsFar_eq {a : Int} (h : 0 ≤ a ∧ a < 18446744073709551616) : far_IsFar.f a = some (a % 4 == 2) := by
  unfold far_IsFar.f
  rw [Decode_eq h]
  simp only [Option.bind_some, dec_kind h]
theorem Landing_eq {a : Int} (h : 0 ≤ a ∧ a < 18446744073709551616) (hf : a % 4 = 2) : far_Landing.f a = some (a / 4294967296, a / 8 % 536870912) := by
  unfold far_Landing.f
  rw [Decode_eq h, dec_far h hf]
  simp only [Option.bind_some]
  rw [w64 (by omega)]
theorem single_eq {l : List (List Int)} (hl : Segs l) {a : Int} (h : 0 ≤ a ∧ a < 18446744073709551616) (hf : a % 4 = 2) : far_single.f l a = some (sgl l a) := by
  unfold far_single.f sgl
  rw [Landing_eq h hf]
  simp only [Option.bind_some]
  rw [Word_eq hl]
  simp only [Option.bind_some]
  by_cases hb : inB l (a / 4294967296) (a / 8 % 536870912) 1
  · rw [if_pos hb, if_pos hb]
    simp only [if_true]
    rw [show rd (rd_L5 l (a / 4294967296)) (a / 8 % 536870912) = wd l (a / 4294967296) (a / 8 % 536870912) from rfl, IsFar_eq (wd_range hl _ _)]
    simp only [Option.bind_some, beq_iff_eq]
    by_cases h2 : wd l (a / 4294967296) (a / 8 % 536870912) % 4 = 2
    · rw [if_pos h2, if_pos h2]
    · rw [if_neg h2, if_neg h2, w64 (by omega)]
  · rw [if_neg hb, if_neg hb]
    simp
theorem rIsFar_eq {a : Int} (h : 0 ≤ a ∧ a < 18446744073709551616) : capnpref07_IsFar.f a = some (a % 4 == 2) := by
  unfold capnpref07_IsFar.f
  rw [Int.tmod_eq_emod_of_nonneg h.1]
theorem rLanding_eq {a : Int} (h : 0 ≤ a ∧ a < 18446744073709551616) : capnpref07_Landing.f a = some (a / 4294967296, a / 8 % 536870912) := by
  unfold capnpref07_Landing.f
  rw [Int.tdiv_eq_ediv_of_nonneg h.1, Int.tmod_eq_emod_of_nonneg h.1, Int.tdiv_eq_ediv_of_nonneg (by omega), wrap_u64 (by omega), wrap_u64 (by omega), w64 (by omega), w64 (by omega), show a % 4294967296 / 8 = a / 8 % 536870912 by omega]
theorem rBit {a : Int} (h : 0 ≤ a ∧ a < 18446744073709551616) : Int.tmod (IntKind.u64.wrap (Int.tdiv a 4)) 2 = a / 4 % 2 := by
  rw [Int.tdiv_eq_ediv_of_nonneg h.1, wrap_u64 (by omega), Int.tmod_eq_emod_of_nonneg (by omega)]
theorem inB_two {l : List (List Int)} {s a : Int} : inB l s a 2 ↔ inB l s a 1 ∧ inB l s (a + 1) 1 := by
  unfold inB
  omega
theorem rFollow_has {l : List (List Int)} (hl : Segs l) (s a : Int) : Has (fun k => capnpref07_Follow.f k l s a) (fol l s a) := by
  have rw_ : ∀ s a, Has (fun k => capnpref05_Word.f k l s a) (if inB l s a 1 then (wd l s a, true) else (0, false)) := fun s a => ⟨rounds l, fun k hk => rWord_eq hl s a k hk⟩
  simp only [capnpref07_Follow.f]
  unfold fol
  refine Has.bind (rw_ s a) ?_
  by_cases hb : inB l s a 1
  case neg =>
    rw [if_neg hb, if_neg hb]
    exact Has.neg (by simp) (Has.some_ _)
  rw [if_pos hb, if_pos hb]
  have h0 := wd_range hl s a
  refine Has.pos rfl ?_
  rw [rIsFar_eq h0]
  simp only [Option.bind_some, beq_iff_eq]
  by_cases hf : wd l s a % 4 = 2
  case neg =>
    refine Has.neg hf ?_
    rw [if_neg hf]
    refine (Has.some_ _).eq ?_
    have hlen := (hl.seg s).1
    unfold inB at hb
    rw [w64 (by omega)]
  refine Has.pos hf ?_
  rw [if_pos hf, rLanding_eq h0]
  simp only [Option.bind_some]
  generalize wd l s a = x at h0 hf
  have h1 := wd_range hl (x / 4294967296) (x / 8 % 536870912)
  have h2 := wd_range hl (x / 4294967296) (x / 8 % 536870912 + 1)
  refine Has.bind (rw_ _ _) ?_
  by_cases h4 : x / 4 % 2 = 1
  · rw [if_pos h4]
    unfold dbl
    by_cases b1 : inB l (x / 4294967296) (x / 8 % 536870912) 1
    case neg =>
      rw [if_neg b1, if_neg (fun h => b1 (inB_two.1 h).1)]
      exact Has.neg (by simp) (Has.some_ _)
    rw [if_pos b1]
    refine Has.pos rfl ?_
    rw [rBit h0]
    refine Has.neg (by omega) ?_
    rw [w64 (x := x / 8 % 536870912 + 1) (by omega)]
    refine Has.bind (rw_ _ _) ?_
    by_cases b2 : inB l (x / 4294967296) (x / 8 % 536870912 + 1) 1
    case neg =>
      rw [if_neg b2, if_neg (fun h => b2 (inB_two.1 h).2)]
      exact Has.neg (by simp) (Has.some_ _)
    rw [if_pos b2, if_pos (inB_two.2 ⟨b1, b2⟩)]
    refine Has.pos rfl ?_
    simp only [rIsFar_eq h1, rLanding_eq h1, rBit h1, Option.bind_some, beq_iff_eq]
    generalize wd l (x / 4294967296) (x / 8 % 536870912) = y at h1
    generalize wd l (x / 4294967296) (x / 8 % 536870912 + 1) = z at h2
    refine Has.bind ⟨201, fun k hk => rDecode_eq h2 k (by omega)⟩ ?_
    rw [dec_kind h2]
    by_cases c1 : y % 4 = 2
    case neg => exact Has.neg c1 ((Has.some_ _).eq (by rw [if_neg (fun h => c1 h.1)]))
    refine Has.pos c1 ?_
    by_cases c2 : y / 4 % 2 = 1
    case pos => exact Has.pos c2 ((Has.some_ _).eq (by rw [if_neg (fun h => by omega)]))
    refine Has.neg c2 ?_
    by_cases c3 : z % 4 > 1
    case pos => exact Has.pos c3 ((Has.some_ _).eq (by rw [if_neg (fun h => by omega)]))
    refine Has.neg c3 ?_
    by_cases c4 : (decI z).2.1 = 0
    case neg => exact Has.neg c4 ((Has.some_ _).eq (by rw [if_neg (fun h => c4 h.2.2.2)]))
    exact Has.pos c4 ((Has.some_ _).eq (by rw [if_pos ⟨c1, by omega, by omega, c4⟩]))
  · rw [if_neg h4]
    unfold sgl
    by_cases b1 : inB l (x / 4294967296) (x / 8 % 536870912) 1
    case neg =>
      rw [if_neg b1, if_neg b1]
      exact Has.neg (by simp) (Has.some_ _)
    rw [if_pos b1, if_pos b1]
    refine Has.pos rfl ?_
    rw [rBit h0]
    refine Has.pos (by omega) ?_
    simp only [rIsFar_eq h1, Option.bind_some, beq_iff_eq]
    by_cases c1 : wd l (x / 4294967296) (x / 8 % 536870912) % 4 = 2
    · exact Has.pos c1 ((Has.some_ _).eq (by rw [if_pos c1]))
    · exact Has.neg c1 ((Has.some_ _).eq (by rw [if_neg c1, w64 (by omega)]))
end Go.Proofs.YtcjhejopcghgnaaDoor.P

set_option linter.unusedVariables false
set_option linter.unusedSimpArgs false
namespace Go.Proofs.YtcjhejopcghgnaaDoor.P
open Go.RowKit Go.Proofs.YtcjhejopcghgnaaDoorW.PrintWords Go.Proofs.YtcjhejopcghgnaaDoorW.PrintLast Go.Proofs.YtcjhejopcghgnaaDoorW.PrintMore
theorem two_of (L : List Int) (n : Nat) (h : n + 2 ≤ L.length) : (L.drop n).take 2 = [L.getD n 0, L.getD (n + 1) 0] := by
  rw [List.drop_eq_getElem_cons (by omega), List.drop_eq_getElem_cons (i := n + 1) (by omega), List.getD_eq_getElem?_getD, List.getD_eq_getElem?_getD, List.getElem?_eq_getElem (by omega), List.getElem?_eq_getElem (by omega)]
  rfl
theorem cut_two {l : List (List Int)} {s a : Int} (h : inB l s a 2) : cut l s a 2 = [wd l s a, wd l s (a + 1)] := by
  obtain ⟨h1, h2, h3, h4, h5⟩ := h
  unfold cut wd rd
  rw [show (2 : Int).toNat = 2 from rfl, two_of _ _ (by omega), show (a + 1).toNat = a.toNat + 1 by omega]
theorem double_eq {l : List (List Int)} (hl : Segs l) {a : Int} (h : 0 ≤ a ∧ a < 18446744073709551616) (hf : a % 4 = 2) : far_double.f l a = some (dbl l a) := by
  unfold far_double.f dbl
  rw [Landing_eq h hf]
  simp only [Option.bind_some]
  rw [Slice_eq hl _ _ _ (by omega)]
  simp only [Option.bind_some]
  by_cases hb : inB l (a / 4294967296) (a / 8 % 536870912) 2
  case neg =>
    rw [if_neg hb, if_neg hb]
    simp
  rw [if_pos hb, if_pos hb, cut_two hb]
  have h1 := wd_range hl (a / 4294967296) (a / 8 % 536870912)
  have h2 := wd_range hl (a / 4294967296) (a / 8 % 536870912 + 1)
  generalize wd l (a / 4294967296) (a / 8 % 536870912) = y at h1
  generalize wd l (a / 4294967296) (a / 8 % 536870912 + 1) = z at h2
  have e1 : (0 : Int) < (([y, z] : List Int).length : Int) := by simp
  have e2 : (1 : Int) < (([y, z] : List Int).length : Int) := by simp
  rw [if_pos rfl]
  dsimp only
  rw [if_pos e1, show rd [y, z] 0 = y from rfl, show rd [y, z] 1 = z from rfl, Decode_eq h1]
  simp only [Option.bind_some]
  rw [if_pos e2, Decode_eq h2]
  simp only [Option.bind_some]
  rw [dec_kind h1, dec_kind h2]
  by_cases c1 : y % 4 = 2
  case neg => rw [if_neg c1, if_neg (fun q => c1 q.1)]
  rw [if_pos c1, dec_far h1 c1]
  by_cases c2 : y / 4 % 2 = 1
  case pos => rw [if_pos (by simp [c2]), if_neg (fun q => by omega)]
  rw [if_neg (by simp [c2])]
  by_cases c3 : z % 4 > 1
  case pos => rw [if_pos c3, if_neg (fun q => by omega)]
  rw [if_neg c3]
  by_cases c4 : (decI z).2.1 = 0
  case neg => rw [if_neg c4, if_neg (fun q => c4 q.2.2.2)]
  rw [if_pos c4, if_pos ⟨c1, by omega, by omega, c4⟩]
  show some (z, wrap64 (y / 4294967296), y / 8 % 536870912, (0 : Int)) = _
  rw [w64 (by omega)]
theorem Follow_eq {l : List (List Int)} (hl : Segs l) (s a : Int) : far_Follow.f l s a = some (fol l s a) := by
  unfold far_Follow.f fol
  rw [Word_eq hl]
  simp only [Option.bind_some]
  by_cases hb : inB l s a 1
  case neg =>
    rw [if_neg hb, if_neg hb]
    simp
  rw [if_pos hb, if_pos hb]
  have h0 := wd_range hl s a
  simp only [if_true]
  rw [show rd (rd_L5 l s) a = wd l s a from rfl, IsFar_eq h0, Decode_eq h0]
  simp only [Option.bind_some, beq_iff_eq]
  by_cases hf : wd l s a % 4 = 2
  case neg =>
    have hlen := (hl.seg s).1
    unfold inB at hb
    rw [if_neg hf, if_neg hf, w64 (by omega)]
    simp
  rw [if_pos hf, if_pos hf]
  generalize wd l s a = x at h0 hf
  rw [dec_far h0 hf]
  simp only [beq_iff_eq]
  by_cases h4 : x / 4 % 2 = 1
  · rw [if_pos h4, if_pos h4, double_eq hl h0 hf]
    simp only [Option.bind_some]
    unfold dbl
    repeat' split
    all_goals simp_all
  · rw [if_neg h4, if_neg h4, single_eq hl h0 hf]
    simp only [Option.bind_some]
    unfold sgl
    repeat' split
    all_goals simp_all
end Go.Proofs.YtcjhejopcghgnaaDoor.P

set_option linter.unusedVariables false
set_option linter.unusedSimpArgs false
namespace Go.Proofs.YtcjhejopcghgnaaDoor.P
open Go.RowKit Go.Proofs.YtcjhejopcghgnaaDoorW.PrintWords Go.Proofs.YtcjhejopcghgnaaDoorW.PrintLast Go.Proofs.YtcjhejopcghgnaaDoorW.PrintMore
theorem Few_has {l : List (List Int)} (h : Segs l) : Has (fun k => capnpref04_Few.f k l) (decide (Few l)) := ⟨l.length + 2, fun k hk => Few_eq h k (by omega)⟩
/-- What Follow's answers look like. -/
theorem fol_ok {l : List (List Int)} (hl : Segs l) (s a : Int) : ((fol l s a).2.2.2 = 0 ∧ 0 ≤ (fol l s a).1 ∧ (fol l s a).1 < 18446744073709551616 ∧ (fol l s a).1 % 4 ≠ 2 ∧ inB l s a 1 ∧ (wd l s a % 4 ≠ 2 → (fol l s a).1 = wd l s a ∧ (fol l s a).2.1 = s ∧ (fol l s a).2.2.1 = a + 1)) ∨ (fol l s a = (0, 0, 0, 2) ∨ fol l s a = (0, 0, 0, 3)) := by
  unfold fol
  by_cases hb : inB l s a 1
  case neg => rw [if_neg hb]; exact Or.inr (Or.inl rfl)
  rw [if_pos hb]
  have h0 := wd_range hl s a
  by_cases hf : wd l s a % 4 = 2
  case neg => rw [if_neg hf]; exact Or.inl ⟨rfl, h0.1, h0.2, hf, hb, fun _ => ⟨rfl, rfl, rfl⟩⟩
  rw [if_pos hf]
  generalize wd l s a = x at *
  by_cases h4 : x / 4 % 2 = 1
  · rw [if_pos h4]
    unfold dbl
    have h2 := wd_range hl (x / 4294967296) (x / 8 % 536870912 + 1)
    by_cases c1 : inB l (x / 4294967296) (x / 8 % 536870912) 2
    case neg => rw [if_neg c1]; exact Or.inr (Or.inl rfl)
    rw [if_pos c1]
    split
    · rename_i c2
      exact Or.inl ⟨rfl, h2.1, h2.2, by omega, hb, fun q => absurd hf q⟩
    · exact Or.inr (Or.inr rfl)
  · rw [if_neg h4]
    unfold sgl
    have h2 := wd_range hl (x / 4294967296) (x / 8 % 536870912)
    by_cases c1 : inB l (x / 4294967296) (x / 8 % 536870912) 1
    case neg => rw [if_neg c1]; exact Or.inr (Or.inl rfl)
    rw [if_pos c1]
    split
    · exact Or.inr (Or.inr rfl)
    · rename_i c2
      exact Or.inl ⟨rfl, h2.1, h2.2, c2, hb, fun q => absurd hf q⟩
end Go.Proofs.YtcjhejopcghgnaaDoor.P

set_option linter.unusedVariables false
set_option linter.unusedSimpArgs false
namespace Go.Proofs.YtcjhejopcghgnaaDoor.P
open Go.RowKit Go.Proofs.YtcjhejopcghgnaaDoorW.PrintWords Go.Proofs.YtcjhejopcghgnaaDoorW.PrintLast Go.Proofs.YtcjhejopcghgnaaDoorW.PrintMore
abbrev OT := Int × Int × Int × Int × Int × Int × Int × Int × Int
/-- The segments are not long. -/
def Sm (l : List (List Int)) : Prop := ∀ s, ((rd_L5 l s).length : Int) ≤ 1099511627776
theorem Few.sm {l : List (List Int)} (h : Few l) : Sm l := by
  intro s
  unfold rd_L5
  rw [List.getD_eq_getElem?_getD]
  by_cases hs : s.toNat < l.length
  · rw [List.getElem?_eq_getElem hs]
    have := h.2 _ (List.getElem_mem hs)
    simp only [Option.getD_some]
    omega
  · rw [List.getElem?_eq_none (by omega)]
    simp
/-- Words of a list. -/
def wordsOf (e c : Int) : Int := if e = 7 then c + 1 else (bitsOf e.toNat * c + 63) / 64
theorem bitsOf_range (e : Int) : 0 ≤ bitsOf e.toNat ∧ bitsOf e.toNat ≤ 64 := by
  unfold bitsOf
  rcases e.toNat with _ | _ | _ | _ | _ | _ | _ | _ | n <;> simp
theorem wordsOf_range {e c : Int} (hc : 0 ≤ c ∧ c ≤ 536870911) : 0 ≤ wordsOf e c ∧ wordsOf e c ≤ 536870912 := by
  have hb := bitsOf_range e
  have h1 : 0 ≤ bitsOf e.toNat * c := Int.mul_nonneg hb.1 hc.1
  have h2 : bitsOf e.toNat * c ≤ 64 * 536870911 := Int.mul_le_mul hb.2 hc.2 hc.1 (by omega)
  unfold wordsOf
  split <;> omega
theorem Words_eq {e c : Int} (he : 0 ≤ e ∧ e ≤ 7) (hc : 0 ≤ c ∧ c ≤ 536870911) : listsize_Words.f e c = some (wordsOf e c) := by
  have hb := bitsOf_range e
  have h1 : 0 ≤ bitsOf e.toNat * c := Int.mul_nonneg hb.1 hc.1
  have h2 : bitsOf e.toNat * c ≤ 64 * 536870911 := Int.mul_le_mul hb.2 hc.2 hc.1 (by omega)
  unfold listsize_Words.f wordsOf
  by_cases h7 : e = 7
  · rw [if_pos h7, if_pos h7, w64 (by omega)]
  · rw [if_neg h7, if_neg h7, if_pos (by omega)]
    unfold listsize_up.f
    rw [if_neg (by omega), w64 (x := bitsOf e.toNat * c) (by omega), w64 (x := bitsOf e.toNat * c + 64) (by omega), w64 (x := bitsOf e.toNat * c + 64 - 1) (by omega), Int.tdiv_eq_ediv_of_nonneg (by omega), w64 (by omega), show bitsOf e.toNat * c + 64 - 1 = bitsOf e.toNat * c + 63 by omega]
/-- No object: an error. -/
def bad (e : Int) : OT := (0, 0, 0, 0, 0, 0, 0, 0, e)
def objS (l : List (List Int)) (s st d q : Int) : OT := if inB l s st (d + q) then (1, s, st, d, q, 0, 0, d + q, 0) else bad 2
def objC (l : List (List Int)) (s st c : Int) : OT :=
  if inB l s st (c + 1) then
    (if (decI (wd l s st)).1 = 0 ∧ 0 ≤ (decI (wd l s st)).2.1 ∧ (decI (wd l s st)).2.1 * ((decI (wd l s st)).2.2.1 + (decI (wd l s st)).2.2.2.1) ≤ c then (2, s, st + 1, (decI (wd l s st)).2.2.1, (decI (wd l s st)).2.2.2.1, 7, (decI (wd l s st)).2.1, c + 1 + (if (decI (wd l s st)).2.2.1 + (decI (wd l s st)).2.2.2.1 = 0 then (decI (wd l s st)).2.1 else 0), 0) else bad 5) else bad 2
def objL (l : List (List Int)) (s st e c : Int) : OT := if e = 7 then objC l s st c else if inB l s st (wordsOf e c) then (2, s, st, 0, 0, e, c, wordsOf e c, 0) else bad 2
def objP (l : List (List Int)) (s b : Int) (p : PT) : OT :=
  if p.1 = 0 then objS l s (b + p.2.1) p.2.2.1 p.2.2.2.1 else if p.1 = 1 then objL l s (b + p.2.1) p.2.2.2.2.1 p.2.2.2.2.2.1 else if p.2.2.2.2.2.2.2.2.2 = 0 then bad 6 else bad 4
/-- What Object answers. -/
def obj (l : List (List Int)) (s a : Int) : OT :=
  if (fol l s a).2.2.2 = 0 then (if (fol l s a).1 = 0 then bad 0 else objP l (fol l s a).2.1 (fol l s a).2.2.1 (decI (fol l s a).1)) else bad (fol l s a).2.2.2
theorem fol_base {l : List (List Int)} (hl : Segs l) (hs : Sm l) (s a : Int) (h : (fol l s a).2.2.2 = 0) : 0 ≤ (fol l s a).2.2.1 ∧ (fol l s a).2.2.1 ≤ 1099511627777 := by
  have h0 := wd_range hl s a
  have hs' := hs s
  unfold fol at h ⊢
  by_cases hb : inB l s a 1
  case neg => rw [if_neg hb] at h; simp at h
  rw [if_pos hb] at h ⊢
  by_cases hf : wd l s a % 4 = 2
  case neg =>
    rw [if_neg hf] at h ⊢
    unfold inB at hb
    simp only
    omega
  rw [if_pos hf] at h ⊢
  generalize wd l s a = x at *
  by_cases h4 : x / 4 % 2 = 1
  · rw [if_pos h4] at h ⊢
    have h2 := wd_range hl (x / 4294967296) (x / 8 % 536870912)
    unfold dbl at h ⊢
    by_cases c1 : inB l (x / 4294967296) (x / 8 % 536870912) 2
    case neg => rw [if_neg c1] at h; simp at h
    rw [if_pos c1] at h ⊢
    split at h
    · rename_i c2
      rw [if_pos c2]
      simp only
      omega
    · simp at h
  · rw [if_neg h4] at h ⊢
    unfold sgl at h ⊢
    by_cases c1 : inB l (x / 4294967296) (x / 8 % 536870912) 1
    case neg => rw [if_neg c1] at h; simp at h
    rw [if_pos c1] at h ⊢
    split at h
    · simp at h
    · rename_i c2
      rw [if_neg c2]
      simp only
      omega
theorem wd_eq (l : List (List Int)) (s a : Int) : rd (rd_L5 l s) a = wd l s a := rfl
theorem within_eq {l : List (List Int)} (hl : Segs l) (x0 x1 x2 x3 x4 x5 x6 x7 st n : Int) : resolve_within.f l x0 x1 x2 x3 x4 x5 x6 x7 st n = some (if inB l x1 st n then (x0, x1, x2, x3, x4, x5, x6, x7, 0) else bad 2) := by
  unfold resolve_within.f
  rw [InBounds_eq hl]
  simp only [Option.bind_some, decide_eq_true_eq]
  split <;> rfl
/-- The parts of a decoded word are small. -/
theorem dec_small {x : Int} (h : 0 ≤ x ∧ x < 18446744073709551616) : -536870912 ≤ (decI x).2.1 ∧ (decI x).2.1 ≤ 536870911 ∧ 0 ≤ (decI x).2.2.1 ∧ (decI x).2.2.1 ≤ 65535 ∧ 0 ≤ (decI x).2.2.2.1 ∧ (decI x).2.2.2.1 ≤ 65535 ∧ 0 ≤ (decI x).2.2.2.2.1 ∧ (decI x).2.2.2.2.1 ≤ 7 ∧ 0 ≤ (decI x).2.2.2.2.2.1 ∧ (decI x).2.2.2.2.2.1 ≤ 536870911 := by
  have hv := decI_valid h
  generalize decI x = p at hv
  obtain ⟨k, o, d, q, e, c, b, pd, sg, lo⟩ := p
  unfold vldP at hv
  simp only at hv ⊢
  omega
theorem size_small {o n : Int} (ho : 0 ≤ o ∧ o ≤ 536870911) (hn : 0 ≤ n ∧ n ≤ 131070) : 0 ≤ o * n ∧ o * n ≤ 536870911 * 131070 := ⟨Int.mul_nonneg ho.1 hn.1, Int.mul_le_mul ho.2 hn.2 hn.1 (by omega)⟩
theorem composite_has {l : List (List Int)} (hl : Segs l) (hs : Sm l) (x0 x1 x2 x3 x4 c : Int) (x6 : Bool) (x7 x8 x9 s st : Int) (hc : 0 ≤ c ∧ c ≤ 536870911) : Has (fun k => resolve_composite.f k l x0 x1 x2 x3 x4 c x6 x7 x8 x9 s st) (objC l s st c) := by
  have hs' := hs s
  simp only [resolve_composite.f]
  unfold objC
  rw [w64 (x := c + 1) (by omega), InBounds_eq hl]
  simp only [Option.bind_some, decide_eq_true_eq]
  by_cases hb : inB l s st (c + 1)
  case neg => rw [if_neg hb]; exact Has.neg hb (Has.some_ _)
  rw [if_pos hb]
  refine Has.pos hb ?_
  have hb1 : inB l s st 1 := by
    unfold inB at hb ⊢
    omega
  rw [Word_eq hl, if_pos hb1]
  simp only [Option.bind_some, wd_eq]
  have h0 := wd_range hl s st
  rw [Decode_eq h0]
  simp only [Option.bind_some]
  have hd := dec_small h0
  have hst : 0 ≤ st ∧ st ≤ 1099511627776 := by
    unfold inB at hb
    omega
  clear hb hb1
  generalize decI (wd l s st) = p at hd
  obtain ⟨k, o, d, q, e, c', b, pd, sg, lo⟩ := p
  simp only at hd ⊢
  rw [w64 (x := d + q) (by omega)]
  by_cases hk : k = 0
  case neg =>
    rw [if_neg (fun h => hk h.1)]
    refine Has.neg hk ?_
    refine Has.step (fun k => by rw [resolve_composite.j0]) ?_
    exact Has.pos rfl (Has.some_ _)
  refine Has.pos hk ?_
  by_cases ho : o < 0
  case pos =>
    rw [if_neg (fun h => by omega)]
    refine Has.pos ho ?_
    refine Has.step (fun k => by rw [resolve_composite.j0]) ?_
    exact Has.pos rfl (Has.some_ _)
  refine Has.neg ho ?_
  have hm := size_small (o := o) (n := d + q) (by omega) (by omega)
  rw [w64 (x := o * (d + q)) (by omega)]
  refine Has.step (fun k => by rw [resolve_composite.j0]) ?_
  by_cases hg : o * (d + q) > c
  case pos =>
    rw [if_neg (fun h => by omega)]
    exact Has.pos (by simpa using hg) (Has.some_ _)
  refine Has.neg (by simpa using hg) ?_
  rw [if_pos ⟨hk, by omega, by omega⟩, w64 (x := st + 1) (by omega), w64 (x := c + 1) (by omega)]
  by_cases hz : d + q = 0
  · rw [if_pos hz]
    refine Has.pos hz ?_
    refine Has.step (fun k => by rw [resolve_composite.j1]) ?_
    rw [w64 (by omega)]
    exact Has.some_ _
  · rw [if_neg hz, show c + 1 + 0 = c + 1 by omega]
    refine Has.neg hz ?_
    refine Has.step (fun k => by rw [resolve_composite.j1]) ?_
    exact Has.some_ _
theorem eta9 {α : Type} (o : Option α) : o.bind (fun t => some t) = o := by cases o <;> rfl
theorem Object_has {l : List (List Int)} (hl : Segs l) (hs : Sm l) (s a : Int) : Has (fun k => resolve_Object.f k l s a) (obj l s a) := by
  simp only [resolve_Object.f]
  rw [Follow_eq hl]
  simp only [Option.bind_some]
  have hf := fol_ok hl s a
  have hb := fol_base hl hs s a
  unfold obj
  generalize fol l s a = t at hf hb
  obtain ⟨x, s', b, e⟩ := t
  simp only at hb hf ⊢
  by_cases he : e = 0
  case neg => rw [if_neg he]; exact Has.neg he (Has.some_ _)
  rw [if_pos he]
  refine Has.pos he ?_
  by_cases hx : x = 0
  case pos => rw [if_pos hx]; exact Has.pos hx (Has.some_ _)
  rw [if_neg hx]
  refine Has.neg hx ?_
  have hr : 0 ≤ x ∧ x < 18446744073709551616 ∧ x % 4 ≠ 2 := by
    rcases hf with hf | hf
    · exact ⟨hf.2.1, hf.2.2.1, hf.2.2.2.1⟩
    · rcases hf with hf | hf <;> (simp only [Prod.mk.injEq] at hf; omega)
  have h0 : 0 ≤ x ∧ x < 18446744073709551616 := ⟨hr.1, hr.2.1⟩
  have hb' := hb he
  rw [Decode_eq h0]
  simp only [Option.bind_some]
  have hd := dec_small h0
  have hk := dec_kind h0
  generalize decI x = p at hd hk
  obtain ⟨k, o, d, q, e', c, bo, pd, sg, lo⟩ := p
  simp only at hd hk ⊢
  unfold objP
  simp only
  rw [w64 (x := b + o) (by omega)]
  by_cases h0k : k = 0
  · rw [if_pos h0k]
    refine Has.pos h0k (Has.const ?_)
    unfold resolve_structure.f objS
    rw [w64 (x := d + q) (by omega), within_eq hl]
    simp only [Option.bind_some]
  rw [if_neg h0k]
  refine Has.neg h0k ?_
  by_cases h1k : k = 1
  · rw [if_pos h1k]
    refine Has.pos h1k ?_
    simp only [resolve_list.f]
    unfold objL
    by_cases h7 : e' = 7
    · rw [if_pos h7]
      refine Has.pos h7 ?_
      exact (composite_has hl hs k o d q e' c bo pd sg lo s' (b + o) (by omega)).bind (h := fun _ t => some t) (Has.some_ _)
    · rw [if_neg h7]
      refine Has.neg h7 (Has.const ?_)
      rw [Words_eq (by omega) (by omega)]
      simp only [Option.bind_some]
      rw [within_eq hl]
      simp only [Option.bind_some]
  rw [if_neg h1k]
  refine Has.neg h1k (Has.neg (by omega) (Has.pos (by omega) (Has.const ?_)))
  unfold resolve_other.f pointer_IsCapability.f
  rw [if_pos (by omega)]
  simp only [Option.bind_some, beq_iff_eq]
  split <;> rfl
/-- The pointers of an object. -/
def ptrsO (k a d q e n : Int) : Int × Int := if k = 1 ∧ q > 0 then (wrap64 (a + d), q) else if k = 2 ∧ e = 6 ∧ n > 0 then (a, n) else (0, 0)
theorem Pointers_has (k s a d q e n c : Int) : Has (fun m => resolve_Pointers.f m k s a d q e n c) (ptrsO k a d q e n) := by
  simp only [resolve_Pointers.f]
  unfold ptrsO
  by_cases h1 : k = 1
  · refine Has.pos h1 ?_
    refine Has.step (fun k => by rw [resolve_Pointers.j0]) ?_
    by_cases hq : q > 0
    · rw [if_pos (show k = 1 ∧ q > 0 from ⟨h1, hq⟩)]
      exact Has.pos (decide_eq_true hq) (Has.some_ _)
    · rw [if_neg (show ¬ (k = 1 ∧ q > 0) from fun h => hq h.2), if_neg (show ¬ (k = 2 ∧ e = 6 ∧ n > 0) from fun h => by omega)]
      exact Has.neg (by simpa using hq) (Has.neg (by omega) (Has.some_ _))
  · refine Has.neg h1 ?_
    refine Has.step (fun k => by rw [resolve_Pointers.j0]) ?_
    refine Has.neg (by simp) ?_
    rw [if_neg (show ¬ (k = 1 ∧ q > 0) from fun h => h1 h.1)]
    by_cases h2 : k = 2
    case neg => rw [if_neg (show ¬ (k = 2 ∧ e = 6 ∧ n > 0) from fun h => h2 h.1)]; exact Has.neg h2 (Has.some_ _)
    refine Has.pos h2 ?_
    by_cases h6 : e = 6
    case neg => rw [if_neg (show ¬ (k = 2 ∧ e = 6 ∧ n > 0) from fun h => h6 h.2.1)]; exact Has.neg h6 (Has.some_ _)
    refine Has.pos h6 ?_
    by_cases hn : n > 0
    · rw [if_pos (show k = 2 ∧ e = 6 ∧ n > 0 from ⟨h2, h6, hn⟩)]; exact Has.pos hn (Has.some_ _)
    · rw [if_neg (show ¬ (k = 2 ∧ e = 6 ∧ n > 0) from fun h => hn h.2.2)]; exact Has.neg hn (Has.some_ _)
end Go.Proofs.YtcjhejopcghgnaaDoor.P

namespace Go.Proofs.YtcjhejopcghgnaaDoor.P
open Go.RowKit Go.Proofs.YtcjhejopcghgnaaDoorW.PrintWords Go.Proofs.YtcjhejopcghgnaaDoorW.PrintLast Go.Proofs.YtcjhejopcghgnaaDoorW.PrintMore
attribute [local go_sem] max2_int min2_int max_two min_two max_three min_three max_four min_four   -- for this text's walks alone
set_option linter.unusedVariables false
set_option linter.unusedSimpArgs false

variable {gb : Bool}
/-! ### capnpref06_Bits: function 55 -/
def capnpref06_Bits.f (a0 : Int) : Option (Int) := if a0 = 1 then (some 1) else (if a0 = 2 then (some 8) else (if a0 = 3 then (some 16) else (if a0 = 4 then (some 32) else (if a0 = 5 then (some 64) else (if a0 = 6 then (some 64) else (some 0))))))
set_option maxHeartbeats 8000000 in
set_option maxRecDepth 100000 in
theorem capnpref06_Bits.calls (a0 r : Int) (w : World) (h : capnpref06_Bits.f a0 = some r) :
    Calls Tryd.prog 55 #[.int .i64 a0] w fun e w' => e = .returned (.int .i64 r) ∧ Drawn0 w w' := by
  have H : (if a0 = 1 then (some 1) else (if a0 = 2 then (some 8) else (if a0 = 3 then (some 16) else (if a0 = 4 then (some 32) else (if a0 = 5 then (some 64) else (if a0 = 6 then (some 64) else (some 0))))))) = some r := h
  clear h
  by_cases c2 : a0 = 1
  · rw [if_pos c2] at H
    have c2b0 : (a0 == 1) = true := beq_iff_eq.mpr c2
    clear c2
    obtain rfl := Option.some.inj H
    go_enter Tryd.func55, Tryd.ntmps55
    go_wp2
    go_ret
    exact ⟨by rfl, by repeat (exact Drawn0.refl _)⟩
  · rw [if_neg c2] at H
    have c2b0 : (a0 == 1) = false := beq_eq_false_iff_ne.mpr c2
    by_cases c3 : a0 = 2
    · rw [if_pos c3] at H
      have c3b0 : (a0 == 2) = true := beq_iff_eq.mpr c3
      clear c3
      obtain rfl := Option.some.inj H
      go_enter Tryd.func55, Tryd.ntmps55
      go_wp2
      go_ret
      exact ⟨by rfl, by repeat (exact Drawn0.refl _)⟩
    · rw [if_neg c3] at H
      have c3b0 : (a0 == 2) = false := beq_eq_false_iff_ne.mpr c3
      by_cases c4 : a0 = 3
      · rw [if_pos c4] at H
        have c4b0 : (a0 == 3) = true := beq_iff_eq.mpr c4
        clear c4
        obtain rfl := Option.some.inj H
        go_enter Tryd.func55, Tryd.ntmps55
        go_wp2
        go_ret
        exact ⟨by rfl, by repeat (exact Drawn0.refl _)⟩
      · rw [if_neg c4] at H
        have c4b0 : (a0 == 3) = false := beq_eq_false_iff_ne.mpr c4
        by_cases c5 : a0 = 4
        · rw [if_pos c5] at H
          have c5b0 : (a0 == 4) = true := beq_iff_eq.mpr c5
          clear c5
          obtain rfl := Option.some.inj H
          go_enter Tryd.func55, Tryd.ntmps55
          go_wp2
          go_ret
          exact ⟨by rfl, by repeat (exact Drawn0.refl _)⟩
        · rw [if_neg c5] at H
          have c5b0 : (a0 == 4) = false := beq_eq_false_iff_ne.mpr c5
          by_cases c6 : a0 = 5
          · rw [if_pos c6] at H
            have c6b0 : (a0 == 5) = true := beq_iff_eq.mpr c6
            clear c6
            obtain rfl := Option.some.inj H
            go_enter Tryd.func55, Tryd.ntmps55
            go_wp2
            go_ret
            exact ⟨by rfl, by repeat (exact Drawn0.refl _)⟩
          · rw [if_neg c6] at H
            have c6b0 : (a0 == 5) = false := beq_eq_false_iff_ne.mpr c6
            by_cases c7 : a0 = 6
            · rw [if_pos c7] at H
              have c7b0 : (a0 == 6) = true := beq_iff_eq.mpr c7
              clear c7
              obtain rfl := Option.some.inj H
              go_enter Tryd.func55, Tryd.ntmps55
              go_wp2
              go_ret
              exact ⟨by rfl, by repeat (exact Drawn0.refl _)⟩
            · rw [if_neg c7] at H
              have c7b0 : (a0 == 6) = false := beq_eq_false_iff_ne.mpr c7
              obtain rfl := Option.some.inj H
              go_enter Tryd.func55, Tryd.ntmps55
              go_wp2
              go_ret
              exact ⟨by rfl, by repeat (exact Drawn0.refl _)⟩

end Go.Proofs.YtcjhejopcghgnaaDoor.P

namespace Go.Proofs.YtcjhejopcghgnaaDoor.P
open Go.RowKit Go.Proofs.YtcjhejopcghgnaaDoorW.PrintWords Go.Proofs.YtcjhejopcghgnaaDoorW.PrintLast Go.Proofs.YtcjhejopcghgnaaDoorW.PrintMore
attribute [local go_sem] max2_int min2_int max_two min_two max_three min_three max_four min_four   -- for this text's walks alone
set_option linter.unusedVariables false
set_option linter.unusedSimpArgs false

variable {gb : Bool}
/-! ### capnpref06_Words: function 45 -/
def capnpref06_Words.f (a0 a1 : Int) : Option (Int) := if a0 = 7 then (some (wrap64 (a1 + 1))) else ((capnpref06_Bits.f a0).bind fun t400 => ((capnpref06_Bits.f a0).bind fun t401 => (if (wrap64 ((wrap64 (Int.tdiv (wrap64 (t400 * a1)) 64)) * 64)) < (wrap64 (t401 * a1)) then (some (wrap64 ((wrap64 (Int.tdiv (wrap64 (t400 * a1)) 64)) + 1))) else (some (wrap64 (Int.tdiv (wrap64 (t400 * a1)) 64))))))
set_option maxHeartbeats 8000000 in
set_option maxRecDepth 100000 in
theorem capnpref06_Words.calls (a0 a1 r : Int) (w : World) (h : capnpref06_Words.f a0 a1 = some r) :
    Calls Tryd.prog 45 #[.int .i64 a0, .int .i64 a1] w fun e w' => e = .returned (.int .i64 r) ∧ Drawn0 w w' := by
  have H := h
  unfold capnpref06_Words.f at H
  clear h
  by_cases c3 : a0 = 7
  · rw [if_pos c3] at H
    have c3b0 : (a0 == 7) = true := beq_iff_eq.mpr c3
    clear c3
    obtain rfl := Option.some.inj H
    go_enter Tryd.func45, Tryd.ntmps45
    go_wp2
    go_ret
    exact ⟨by rfl, by repeat (exact Drawn0.refl _)⟩
  · rw [if_neg c3] at H
    have c3b0 : (a0 == 7) = false := beq_eq_false_iff_ne.mpr c3
    replace H := Option.bind_eq_some_iff.mp H
    obtain ⟨t400, A40, H⟩ := H
    have A4 := Aside0.mk A40
    clear A40
    replace H := Option.bind_eq_some_iff.mp H
    obtain ⟨t401, A50, H⟩ := H
    have A5 := Aside0.mk A50
    clear A50
    by_cases c6 : (wrap64 ((wrap64 (Int.tdiv (wrap64 (t400 * a1)) 64)) * 64)) < (wrap64 (t401 * a1))
    · rw [if_pos c6] at H
      have c6b0 : decide ((wrap64 ((wrap64 (Int.tdiv (wrap64 (t400 * a1)) 64)) * 64)) < (wrap64 (t401 * a1))) = true := decide_eq_true c6
      clear c6
      obtain rfl := Option.some.inj H
      go_enter Tryd.func45, Tryd.ntmps45
      go_wp2_with (first | ((with_reducible refine gate_callee (f := 55) rfl ?_); refine goesL_ (some 11) rfl rfl Tryd.func55 (by kernel_rfl) rfl #[.int .i64 a0] rfl (by (try simp only [List.map_toArray, List.map_cons, List.map_nil]); rfl) ?_; (with_reducible refine (capnpref06_Bits.calls a0 t400 _ A4.out).mono ?_); rintro e w' ⟨rfl, ⟨nd, rfl⟩⟩; refine ⟨_, rfl, ?_⟩) | ((with_reducible refine gate_callee (f := 55) rfl ?_); refine goesL_ (some 18) rfl rfl Tryd.func55 (by kernel_rfl) rfl #[.int .i64 a0] rfl (by (try simp only [List.map_toArray, List.map_cons, List.map_nil]); rfl) ?_; (with_reducible refine (capnpref06_Bits.calls a0 t401 _ A5.out).mono ?_); rintro e w' ⟨rfl, ⟨nd, rfl⟩⟩; refine ⟨_, rfl, ?_⟩))
      go_ret
      exact ⟨by rfl, by repeat (first | exact Drawn0.refl _ | apply Drawn0.step)⟩
    · rw [if_neg c6] at H
      have c6b0 : decide ((wrap64 ((wrap64 (Int.tdiv (wrap64 (t400 * a1)) 64)) * 64)) < (wrap64 (t401 * a1))) = false := decide_eq_false c6
      clear c6
      obtain rfl := Option.some.inj H
      go_enter Tryd.func45, Tryd.ntmps45
      go_wp2_with (first | ((with_reducible refine gate_callee (f := 55) rfl ?_); refine goesL_ (some 11) rfl rfl Tryd.func55 (by kernel_rfl) rfl #[.int .i64 a0] rfl (by (try simp only [List.map_toArray, List.map_cons, List.map_nil]); rfl) ?_; (with_reducible refine (capnpref06_Bits.calls a0 t400 _ A4.out).mono ?_); rintro e w' ⟨rfl, ⟨nd, rfl⟩⟩; refine ⟨_, rfl, ?_⟩) | ((with_reducible refine gate_callee (f := 55) rfl ?_); refine goesL_ (some 18) rfl rfl Tryd.func55 (by kernel_rfl) rfl #[.int .i64 a0] rfl (by (try simp only [List.map_toArray, List.map_cons, List.map_nil]); rfl) ?_; (with_reducible refine (capnpref06_Bits.calls a0 t401 _ A5.out).mono ?_); rintro e w' ⟨rfl, ⟨nd, rfl⟩⟩; refine ⟨_, rfl, ?_⟩))
      go_ret
      exact ⟨by rfl, by repeat (first | exact Drawn0.refl _ | apply Drawn0.step)⟩

end Go.Proofs.YtcjhejopcghgnaaDoor.P

namespace Go.Proofs.YtcjhejopcghgnaaDoor.P
open Go.RowKit Go.Proofs.YtcjhejopcghgnaaDoorW.PrintWords Go.Proofs.YtcjhejopcghgnaaDoorW.PrintLast Go.Proofs.YtcjhejopcghgnaaDoorW.PrintMore
attribute [local go_sem] max2_int min2_int max_two min_two max_three min_three max_four min_four   -- for this text's walks alone
set_option linter.unusedVariables false
set_option linter.unusedSimpArgs false

variable {gb : Bool}
/-! ### capnpref08_Object: function 25 -/
mutual
def capnpref08_Object.j0 : Nat → List (List Int) → Int → Int → Int → Int → Bool → Int → Int → Int → Int → Int → Int → Int → Int → Option (Int × Int × Int × Int × Int × Int × Int × Int × Int)
  | 0, _, _, _, _, _, _, _, _, _, _, _, _, _, _ => none
  | k + 1, x0, x9, x10, x11, x12, x32, x404000, x404001, x404002, x404003, x404004, x404005, x404006, x404007 => if x32 = true then (some (x404000, x404001, x404002, x404003, x404004, x404005, x404006, x404007, x12)) else ((capnpref02_Decode.f k x9).bind fun bt408 => (if bt408.1 = 3 then (if bt408.2.2.2.2.2.2.2.2.2 = 0 then (some (x404000, x404001, x404002, x404003, x404004, x404005, x404006, x404007, 6)) else (some (x404000, x404001, x404002, x404003, x404004, x404005, x404006, x404007, 4))) else (if bt408.1 = 0 then ((capnpref05_InBounds.f x0 x10 (wrap64 (x11 + bt408.2.1)) (wrap64 (bt408.2.2.1 + bt408.2.2.2.1))).bind fun t419 => (if t419 = true then (some (1, x10, wrap64 (x11 + bt408.2.1), bt408.2.2.1, bt408.2.2.2.1, x404005, x404006, wrap64 (bt408.2.2.1 + bt408.2.2.2.1), 0)) else (some (0, 0, 0, 0, 0, 0, 0, 0, 2)))) else ((capnpref06_Words.f bt408.2.2.2.2.1 bt408.2.2.2.2.2.1).bind fun t420 => ((capnpref05_InBounds.f x0 x10 (wrap64 (x11 + bt408.2.1)) t420).bind fun t421 => (if t421 = true then (if bt408.2.2.2.2.1 = 7 then ((capnpref05_Word.f k x0 x10 (wrap64 (x11 + bt408.2.1))).bind fun bt422 => ((capnpref02_Decode.f k bt422.1).bind fun bt424 => (if bt424.1 = 0 then (if bt424.2.1 < 0 then (capnpref08_Object.j1 k (wrap64 (x11 + bt408.2.1)) true 2 x10 (wrap64 (x11 + bt408.2.1)) x404003 x404004 bt408.2.2.2.2.1 bt408.2.2.2.2.2.1 t420 bt424.1 bt424.2.1 bt424.2.2.1 bt424.2.2.2.1 bt424.2.2.2.2.1 bt424.2.2.2.2.2.1 bt424.2.2.2.2.2.2.1 bt424.2.2.2.2.2.2.2.1 bt424.2.2.2.2.2.2.2.2.1 bt424.2.2.2.2.2.2.2.2.2) else (capnpref08_Object.j1 k (wrap64 (x11 + bt408.2.1)) (decide ((wrap64 (bt424.2.1 * (wrap64 (bt424.2.2.1 + bt424.2.2.2.1)))) > bt408.2.2.2.2.2.1)) 2 x10 (wrap64 (x11 + bt408.2.1)) x404003 x404004 bt408.2.2.2.2.1 bt408.2.2.2.2.2.1 t420 bt424.1 bt424.2.1 bt424.2.2.1 bt424.2.2.2.1 bt424.2.2.2.2.1 bt424.2.2.2.2.2.1 bt424.2.2.2.2.2.2.1 bt424.2.2.2.2.2.2.2.1 bt424.2.2.2.2.2.2.2.2.1 bt424.2.2.2.2.2.2.2.2.2)) else (capnpref08_Object.j1 k (wrap64 (x11 + bt408.2.1)) true 2 x10 (wrap64 (x11 + bt408.2.1)) x404003 x404004 bt408.2.2.2.2.1 bt408.2.2.2.2.2.1 t420 bt424.1 bt424.2.1 bt424.2.2.1 bt424.2.2.2.1 bt424.2.2.2.2.1 bt424.2.2.2.2.2.1 bt424.2.2.2.2.2.2.1 bt424.2.2.2.2.2.2.2.1 bt424.2.2.2.2.2.2.2.2.1 bt424.2.2.2.2.2.2.2.2.2)))) else (some (2, x10, wrap64 (x11 + bt408.2.1), x404003, x404004, bt408.2.2.2.2.1, bt408.2.2.2.2.2.1, t420, 0))) else (some (0, 0, 0, 0, 0, 0, 0, 0, 2))))))))
def capnpref08_Object.j1 : Nat → Int → Bool → Int → Int → Int → Int → Int → Int → Int → Int → Int → Int → Int → Int → Int → Int → Bool → Int → Int → Int → Option (Int × Int × Int × Int × Int × Int × Int × Int × Int)
  | 0, _, _, _, _, _, _, _, _, _, _, _, _, _, _, _, _, _, _, _, _ => none
  | k + 1, x14, x132, x404000, x404001, x404002, x404003, x404004, x404005, x404006, x404007, x435000, x435001, x435002, x435003, x435004, x435005, x435006, x435007, x435008, x435009 => if x132 = true then (some (0, 0, 0, 0, 0, 0, 0, 0, 5)) else (if (wrap64 (x435002 + x435003)) = 0 then (some (x404000, x404001, wrap64 (x14 + 1), x435002, x435003, x404005, x435001, wrap64 (x404007 + x435001), 0)) else (some (x404000, x404001, wrap64 (x14 + 1), x435002, x435003, x404005, x435001, x404007, 0)))
end
def capnpref08_Object.f (k : Nat) (l0 : List (List Int)) (a1 a2 : Int) : Option (Int × Int × Int × Int × Int × Int × Int × Int × Int) := (capnpref07_Follow.f k l0 a1 a2).bind fun bt404 => (if bt404.2.2.2 = 0 then (capnpref08_Object.j0 k l0 bt404.1 bt404.2.1 bt404.2.2.1 bt404.2.2.2 (bt404.1 == 0) 0 0 0 0 0 0 0 0) else (capnpref08_Object.j0 k l0 bt404.1 bt404.2.1 bt404.2.2.1 bt404.2.2.2 true 0 0 0 0 0 0 0 0))
theorem capnpref08_Object.mono_l : ∀ k, (∀ y0 y1 y2 y3 y4 y5 y6 y7 y8 y9 y10 y11 y12 y13, LeO (capnpref08_Object.j0 k y0 y1 y2 y3 y4 y5 y6 y7 y8 y9 y10 y11 y12 y13) (capnpref08_Object.j0 (k + 1) y0 y1 y2 y3 y4 y5 y6 y7 y8 y9 y10 y11 y12 y13)) ∧ (∀ y0 y1 y2 y3 y4 y5 y6 y7 y8 y9 y10 y11 y12 y13 y14 y15 y16 y17 y18 y19, LeO (capnpref08_Object.j1 k y0 y1 y2 y3 y4 y5 y6 y7 y8 y9 y10 y11 y12 y13 y14 y15 y16 y17 y18 y19) (capnpref08_Object.j1 (k + 1) y0 y1 y2 y3 y4 y5 y6 y7 y8 y9 y10 y11 y12 y13 y14 y15 y16 y17 y18 y19))
  | 0 => ⟨fun _ _ _ _ _ _ _ _ _ _ _ _ _ _ r h => by simp [capnpref08_Object.j0] at h, fun _ _ _ _ _ _ _ _ _ _ _ _ _ _ _ _ _ _ _ _ r h => by simp [capnpref08_Object.j1] at h⟩
  | k + 1 => by
    obtain ⟨ih0, ih1⟩ := capnpref08_Object.mono_l k
    refine ⟨?_, ?_⟩
    · intro y0 y1 y2 y3 y4 y5 y6 y7 y8 y9 y10 y11 y12 y13
      unfold capnpref08_Object.j0
      repeat' first
      | (with_reducible apply ih1)
      | (with_reducible apply capnpref02_Decode.mono)
      | (with_reducible apply capnpref05_Word.mono)
      | (with_reducible exact LeO.refl _)
      | (with_reducible refine LeO.ite ?_ ?_)
      | (with_reducible refine LeO.bind ?_ (fun _ => ?_))
    · intro y0 y1 y2 y3 y4 y5 y6 y7 y8 y9 y10 y11 y12 y13 y14 y15 y16 y17 y18 y19
      unfold capnpref08_Object.j1
      repeat' (with_reducible exact LeO.refl _)
theorem capnpref08_Object.mono : ∀ a0 a1 a2 k, LeO (capnpref08_Object.f k a0 a1 a2) (capnpref08_Object.f (k + 1) a0 a1 a2) := by
  intro a0 a1 a2 k
  obtain ⟨ih0, ih1⟩ := capnpref08_Object.mono_l k
  unfold capnpref08_Object.f
  repeat' first
      | (with_reducible apply ih0)
      | (with_reducible apply capnpref07_Follow.mono)
      | (with_reducible refine LeO.ite ?_ ?_)
      | (with_reducible refine LeO.bind ?_ (fun _ => ?_))
set_option maxHeartbeats 8000000 in
set_option maxRecDepth 100000 in
theorem capnpref08_Object.calls (k : Nat) (A0 : Option Addr) (c0 : Nat) (l0 : List (List Int)) (a1 a2 r1 r2 r3 r4 r5 r6 r7 r8 r9 : Int) (w : World) (hr0 : Kd.C (Kd.slice 23 (Kd.int .u64)) w A0 l0.length l0) (hc0 : l0.length ≤ c0) (h : capnpref08_Object.f k l0 a1 a2 = some (r1, r2, r3, r4, r5, r6, r7, r8, r9)) :
    Calls Tryd.prog 25 #[.slice A0 l0.length c0, .int .i64 a1, .int .i64 a2] w fun e w' => e = .returned (.tuple #[.agg #[.int .i64 r1, .int .i64 r2, .int .i64 r3, .int .i64 r4, .int .i64 r5, .int .i64 r6, .int .i64 r7, .int .i64 r8], .int .i64 r9]) ∧ Below w.heap.size w w' := by
  have HR0 := Aside0.mk hr0
  have HC0 := Aside0.mk hc0
  clear hr0 hc0
  have HB := Aside0.mk (Below.refl w.heap.size w)
  have H : ((capnpref07_Follow.f k l0 a1 a2).bind fun bt404 => (if bt404.2.2.2 = 0 then (capnpref08_Object.j0 k l0 bt404.1 bt404.2.1 bt404.2.2.1 bt404.2.2.2 (bt404.1 == 0) 0 0 0 0 0 0 0 0) else (capnpref08_Object.j0 k l0 bt404.1 bt404.2.1 bt404.2.2.1 bt404.2.2.2 true 0 0 0 0 0 0 0 0))) = some (r1, r2, r3, r4, r5, r6, r7, r8, r9) := h
  clear h
  replace H := Option.bind_eq_some_iff.mp H
  obtain ⟨⟨t404, t405, t406, t407⟩, A40, H⟩ := H
  replace H : (if t407 = 0 then (capnpref08_Object.j0 k l0 t404 t405 t406 t407 (t404 == 0) 0 0 0 0 0 0 0 0) else (capnpref08_Object.j0 k l0 t404 t405 t406 t407 true 0 0 0 0 0 0 0 0)) = some (r1, r2, r3, r4, r5, r6, r7, r8, r9) := H
  have A4 := Aside0.mk A40
  clear A40
  have HC5 := Aside0.mk H
  clear H
  go_enter Tryd.func25, Tryd.ntmps25
  go_upto_region 3 with (first | ((with_reducible refine gate_dst (N := 6) rfl ?_); refine box_event ?hg (N := 6) ?hd (cs := #[.int .i64 0, .int .i64 0, .int .i64 0, .int .i64 0, .int .i64 0, .int .i64 0, .int .i64 0, .int .i64 0]) (t := 46) ?hr ?_; (case hd => rfl); (case hg => rfl); (case hr => (go_simp; done)); intro gb402 hg w6 hbox hb; replace BK402 := Aside0.mk (hbox); replace GE402 := Aside0.mk (ge_of HB.out hg); replace HB := Aside0.mk (below_step HB.out hb); clear hb hbox hg) | ((with_reducible refine gate_dst (N := 8) rfl ?_); refine box_event ?hg (N := 8) ?hd (cs := #[.int .i64 0, .int .i64 0, .int .i64 0, .int .i64 0, .int .i64 0, .int .i64 0, .int .i64 0, .int .i64 0]) (t := 46) ?hr ?_; (case hd => rfl); (case hg => rfl); (case hr => (go_simp; done)); intro gb403 hg w7 hbox hb; replace BK403 := Aside0.mk (hbox); replace GE403 := Aside0.mk (ge_of HB.out hg); replace HB := Aside0.mk (below_step HB.out hb); replace NB402_403 := Aside0.mk (ne_l BK402.out hg); replace NB403_402 := Aside0.mk (ne_r BK402.out hg); replace BK402 := Aside0.mk (blk_below BK402.out hb); clear hb hbox hg) | ((with_reducible refine gate_callee (f := 15) rfl ?_); refine goesL_ (some 22) rfl rfl Tryd.func15 (by kernel_rfl) rfl #[.slice A0 l0.length c0, .int .i64 a1, .int .i64 a2] rfl (by (try simp only [List.map_toArray, List.map_cons, List.map_nil]); rfl) ?_; (with_reducible refine (capnpref07_Follow.calls k _ _ l0 a1 a2 t404 t405 t406 t407 _ ?side1 ?side2 A4.out).mono ?_); (case side1 => repeat ((exact (Kd.C_below HR0.out HB.out)))); (case side2 => exact HC0.out); rintro e w8 ⟨rfl, hb⟩; refine ⟨_, rfl, ?_⟩; replace BK402 := Aside0.mk (blk_below BK402.out hb); replace BK403 := Aside0.mk (blk_below BK403.out hb); replace HB := Aside0.mk (below_step HB.out hb); (try clear hb)))
  (skip)
  go_cut [32] (fun v32 wc => ∃ (kq : Nat) (x32_4 : Bool), v32 = .bool x32_4 ∧ Aside0 (capnpref08_Object.j0 kq l0 t404 t405 t406 t407 x32_4 0 0 0 0 0 0 0 0 = some (r1, r2, r3, r4, r5, r6, r7, r8, r9)) ∧ Aside0 (kq ≤ k) ∧ Aside0 (wc.heap[gb402]? = some (.cells #[.int .i64 0, .int .i64 0, .int .i64 0, .int .i64 0, .int .i64 0, .int .i64 0, .int .i64 0, .int .i64 0] 46 (0, 0))) ∧ Aside0 (wc.heap[gb403]? = some (.cells #[.int .i64 0, .int .i64 0, .int .i64 0, .int .i64 0, .int .i64 0, .int .i64 0, .int .i64 0, .int .i64 0] 46 (0, 0))) ∧ Aside0 (Below w.heap.size w wc))
  case first =>
    have H := HC5.out
    clear HC5
    by_cases c9 : t407 = 0
    · rw [if_pos c9] at H
      have c9b1 : (t407 != 0) = false := bne_eq_false_iff_eq.mpr c9
      clear c9
      (skip)
      have H' := Aside0.mk H
      clear H
      go_wp2
      go_meet
      case rel => exact ⟨_, ((t404 == 0)), (by rfl), H', ⟨by omega⟩, ⟨by exact BK402.out⟩, ⟨by exact BK403.out⟩, ⟨by repeat ((with_reducible exact HB.out))⟩⟩
    · rw [if_neg c9] at H
      have c9b1 : (t407 != 0) = true := bne_iff_ne.mpr c9
      (skip)
      have H' := Aside0.mk H
      clear H
      go_wp2
      go_meet
      case rel => exact ⟨_, (true), (by rfl), H', ⟨by omega⟩, ⟨by exact BK402.out⟩, ⟨by exact BK403.out⟩, ⟨by repeat ((with_reducible exact HB.out))⟩⟩
  case rest =>
    clear HC5
    skip
    skip
    skip
    skip
    skip
    skip
    obtain ⟨kq, x32_4, rfl, HA, HJ4, BK402, BK403, HB⟩ := hcut
    cases kq with
    | zero => exact absurd HA.out (by simp [capnpref08_Object.j0])
    | succ kj4 =>
      have H := HA.out
      clear HA
      simp only [capnpref08_Object.j0] at H
      by_cases c10 : x32_4 = true
      · subst c10
        have H1 : (some (0, 0, 0, 0, 0, 0, 0, 0, t407)) = some (r1, r2, r3, r4, r5, r6, r7, r8, r9) := by rw [if_pos rfl] at H; exact H
        clear H
        have H := H1
        clear H1
        simp only [Option.some.injEq, Prod.mk.injEq] at H
        obtain ⟨rfl, rfl, rfl, rfl, rfl, rfl, rfl, rfl, rfl⟩ := H
        obtain ⟨hcz12_0, hcz12_1, hcz12_2, hcz12_3, hcz12_4, hcz12_5, hcz12_6, hcz12_7⟩ := cells8 BK403.out
        obtain ⟨hcz13_0, hcz13_1, hcz13_2, hcz13_3, hcz13_4, hcz13_5, hcz13_6, hcz13_7⟩ := cells8 BK402.out
        obtain ⟨hfz13_0, hfz13_1, hfz13_2, hfz13_3, hfz13_4, hfz13_5, hfz13_6, hfz13_7⟩ := frz8 BK402.out
        go_wp2
        refine bodyPost_ret (results_ct rfl _ _ gb402 46 #[.int .i64 0, .int .i64 0, .int .i64 0, .int .i64 0, .int .i64 0, .int .i64 0, .int .i64 0, .int .i64 0] (0, 0) _ rfl (by exact put8 BK402.out) Tryd.underlying46 rfl (by kernel_rfl)) rfl ?_
        exact ⟨by rfl, by repeat ((with_reducible first | exact HB.out | refine below_set ?_ GE402.out))⟩
      · replace c10 := Bool.eq_false_iff.mpr c10
        subst c10
        have H1 : ((capnpref02_Decode.f kj4 t404).bind fun bt408 => (if bt408.1 = 3 then (if bt408.2.2.2.2.2.2.2.2.2 = 0 then (some (0, 0, 0, 0, 0, 0, 0, 0, 6)) else (some (0, 0, 0, 0, 0, 0, 0, 0, 4))) else (if bt408.1 = 0 then ((capnpref05_InBounds.f l0 t405 (wrap64 (t406 + bt408.2.1)) (wrap64 (bt408.2.2.1 + bt408.2.2.2.1))).bind fun t419 => (if t419 = true then (some (1, t405, wrap64 (t406 + bt408.2.1), bt408.2.2.1, bt408.2.2.2.1, 0, 0, wrap64 (bt408.2.2.1 + bt408.2.2.2.1), 0)) else (some (0, 0, 0, 0, 0, 0, 0, 0, 2)))) else ((capnpref06_Words.f bt408.2.2.2.2.1 bt408.2.2.2.2.2.1).bind fun t420 => ((capnpref05_InBounds.f l0 t405 (wrap64 (t406 + bt408.2.1)) t420).bind fun t421 => (if t421 = true then (if bt408.2.2.2.2.1 = 7 then ((capnpref05_Word.f kj4 l0 t405 (wrap64 (t406 + bt408.2.1))).bind fun bt422 => ((capnpref02_Decode.f kj4 bt422.1).bind fun bt424 => (if bt424.1 = 0 then (if bt424.2.1 < 0 then (capnpref08_Object.j1 kj4 (wrap64 (t406 + bt408.2.1)) true 2 t405 (wrap64 (t406 + bt408.2.1)) 0 0 bt408.2.2.2.2.1 bt408.2.2.2.2.2.1 t420 bt424.1 bt424.2.1 bt424.2.2.1 bt424.2.2.2.1 bt424.2.2.2.2.1 bt424.2.2.2.2.2.1 bt424.2.2.2.2.2.2.1 bt424.2.2.2.2.2.2.2.1 bt424.2.2.2.2.2.2.2.2.1 bt424.2.2.2.2.2.2.2.2.2) else (capnpref08_Object.j1 kj4 (wrap64 (t406 + bt408.2.1)) (decide ((wrap64 (bt424.2.1 * (wrap64 (bt424.2.2.1 + bt424.2.2.2.1)))) > bt408.2.2.2.2.2.1)) 2 t405 (wrap64 (t406 + bt408.2.1)) 0 0 bt408.2.2.2.2.1 bt408.2.2.2.2.2.1 t420 bt424.1 bt424.2.1 bt424.2.2.1 bt424.2.2.2.1 bt424.2.2.2.2.1 bt424.2.2.2.2.2.1 bt424.2.2.2.2.2.2.1 bt424.2.2.2.2.2.2.2.1 bt424.2.2.2.2.2.2.2.2.1 bt424.2.2.2.2.2.2.2.2.2)) else (capnpref08_Object.j1 kj4 (wrap64 (t406 + bt408.2.1)) true 2 t405 (wrap64 (t406 + bt408.2.1)) 0 0 bt408.2.2.2.2.1 bt408.2.2.2.2.2.1 t420 bt424.1 bt424.2.1 bt424.2.2.1 bt424.2.2.2.1 bt424.2.2.2.2.1 bt424.2.2.2.2.2.1 bt424.2.2.2.2.2.2.1 bt424.2.2.2.2.2.2.2.1 bt424.2.2.2.2.2.2.2.2.1 bt424.2.2.2.2.2.2.2.2.2)))) else (some (2, t405, wrap64 (t406 + bt408.2.1), 0, 0, bt408.2.2.2.2.1, bt408.2.2.2.2.2.1, t420, 0))) else (some (0, 0, 0, 0, 0, 0, 0, 0, 2)))))))) = some (r1, r2, r3, r4, r5, r6, r7, r8, r9) := by rw [if_neg (show ¬ (false = true) by decide)] at H; exact H
        clear H
        have H := H1
        clear H1
        replace H := Option.bind_eq_some_iff.mp H
        obtain ⟨⟨t408, t409, t410, t411, t412, t413, t414, t415, t416, t417⟩, A140, H⟩ := H
        replace H : (if t408 = 3 then (if t417 = 0 then (some (0, 0, 0, 0, 0, 0, 0, 0, 6)) else (some (0, 0, 0, 0, 0, 0, 0, 0, 4))) else (if t408 = 0 then ((capnpref05_InBounds.f l0 t405 (wrap64 (t406 + t409)) (wrap64 (t410 + t411))).bind fun t419 => (if t419 = true then (some (1, t405, wrap64 (t406 + t409), t410, t411, 0, 0, wrap64 (t410 + t411), 0)) else (some (0, 0, 0, 0, 0, 0, 0, 0, 2)))) else ((capnpref06_Words.f t412 t413).bind fun t420 => ((capnpref05_InBounds.f l0 t405 (wrap64 (t406 + t409)) t420).bind fun t421 => (if t421 = true then (if t412 = 7 then ((capnpref05_Word.f kj4 l0 t405 (wrap64 (t406 + t409))).bind fun bt422 => ((capnpref02_Decode.f kj4 bt422.1).bind fun bt424 => (if bt424.1 = 0 then (if bt424.2.1 < 0 then (capnpref08_Object.j1 kj4 (wrap64 (t406 + t409)) true 2 t405 (wrap64 (t406 + t409)) 0 0 t412 t413 t420 bt424.1 bt424.2.1 bt424.2.2.1 bt424.2.2.2.1 bt424.2.2.2.2.1 bt424.2.2.2.2.2.1 bt424.2.2.2.2.2.2.1 bt424.2.2.2.2.2.2.2.1 bt424.2.2.2.2.2.2.2.2.1 bt424.2.2.2.2.2.2.2.2.2) else (capnpref08_Object.j1 kj4 (wrap64 (t406 + t409)) (decide ((wrap64 (bt424.2.1 * (wrap64 (bt424.2.2.1 + bt424.2.2.2.1)))) > t413)) 2 t405 (wrap64 (t406 + t409)) 0 0 t412 t413 t420 bt424.1 bt424.2.1 bt424.2.2.1 bt424.2.2.2.1 bt424.2.2.2.2.1 bt424.2.2.2.2.2.1 bt424.2.2.2.2.2.2.1 bt424.2.2.2.2.2.2.2.1 bt424.2.2.2.2.2.2.2.2.1 bt424.2.2.2.2.2.2.2.2.2)) else (capnpref08_Object.j1 kj4 (wrap64 (t406 + t409)) true 2 t405 (wrap64 (t406 + t409)) 0 0 t412 t413 t420 bt424.1 bt424.2.1 bt424.2.2.1 bt424.2.2.2.1 bt424.2.2.2.2.1 bt424.2.2.2.2.2.1 bt424.2.2.2.2.2.2.1 bt424.2.2.2.2.2.2.2.1 bt424.2.2.2.2.2.2.2.2.1 bt424.2.2.2.2.2.2.2.2.2)))) else (some (2, t405, wrap64 (t406 + t409), 0, 0, t412, t413, t420, 0))) else (some (0, 0, 0, 0, 0, 0, 0, 0, 2))))))) = some (r1, r2, r3, r4, r5, r6, r7, r8, r9) := H
        have A14 := Aside0.mk A140
        clear A140
        by_cases c15 : t408 = 3
        · rw [if_pos c15] at H
          have c15b0 : (t408 == 3) = true := beq_iff_eq.mpr c15
          clear c15
          by_cases c16 : t417 = 0
          · rw [if_pos c16] at H
            have c16b0 : (t417 == 0) = true := beq_iff_eq.mpr c16
            clear c16
            simp only [Option.some.injEq, Prod.mk.injEq] at H
            obtain ⟨rfl, rfl, rfl, rfl, rfl, rfl, rfl, rfl, rfl⟩ := H
            go_wp2_with (first | ((with_reducible refine gate_callee (f := 21) rfl ?_); refine goesL_ (some 36) rfl rfl Tryd.func21 (by kernel_rfl) rfl #[.int .u64 t404] rfl (by (try simp only [List.map_toArray, List.map_cons, List.map_nil]); rfl) ?_; (with_reducible refine (capnpref02_Decode.calls kj4 t404 t408 t409 t410 t411 t412 t413 t414 t415 t416 t417 _ A14.out).mono ?_); rintro e w17 ⟨rfl, hb⟩; refine ⟨_, rfl, ?_⟩; replace BK402 := Aside0.mk (blk_below BK402.out hb); replace BK403 := Aside0.mk (blk_below BK403.out hb); replace HB := Aside0.mk (below_step HB.out hb); (try clear hb)) | ((with_reducible refine gate_dst (N := 13) rfl ?_); refine box_event ?hg (N := 13) ?hd (cs := #[.int .i64 0, .int .i64 0, .int .i64 0, .int .i64 0, .int .i64 0, .int .i64 0, .bool false, .int .i64 0, .int .u32 0, .int .u32 0]) (t := 39) ?hr ?_; (case hd => rfl); (case hg => rfl); (case hr => (go_simp; done)); intro gb418 hg w18 hbox hb; replace BK418 := Aside0.mk (hbox); replace GE418 := Aside0.mk (ge_of HB.out hg); replace HB := Aside0.mk (below_step HB.out hb); replace NB402_418 := Aside0.mk (ne_l BK402.out hg); replace BK402 := Aside0.mk (blk_below BK402.out hb); replace NB403_418 := Aside0.mk (ne_l BK403.out hg); replace NB418_403 := Aside0.mk (ne_r BK403.out hg); replace BK403 := Aside0.mk (blk_below BK403.out hb); clear hb hbox hg; have hnc19 := NB402_418.out; have hnb20 := NB418_403.out; have hnc20 := NB403_418.out; obtain ⟨hcz21_0, hcz21_1, hcz21_2, hcz21_3, hcz21_4, hcz21_5, hcz21_6, hcz21_7, hcz21_8, hcz21_9⟩ := cells10 BK418.out; obtain ⟨hfz21_0, hfz21_1, hfz21_2, hfz21_3, hfz21_4, hfz21_5, hfz21_6, hfz21_7, hfz21_8, hfz21_9⟩ := frz10 BK418.out; have hnb22 := NB403_402.out; have hnc22 := NB402_403.out; obtain ⟨hcz23_0, hcz23_1, hcz23_2, hcz23_3, hcz23_4, hcz23_5, hcz23_6, hcz23_7⟩ := cells8 BK403.out; obtain ⟨hcz24_0, hcz24_1, hcz24_2, hcz24_3, hcz24_4, hcz24_5, hcz24_6, hcz24_7⟩ := cells8 BK402.out; obtain ⟨hfz24_0, hfz24_1, hfz24_2, hfz24_3, hfz24_4, hfz24_5, hfz24_6, hfz24_7⟩ := frz8 BK402.out))
            refine bodyPost_ret (results_ct rfl _ _ gb402 46 #[.int .i64 0, .int .i64 0, .int .i64 0, .int .i64 0, .int .i64 0, .int .i64 0, .int .i64 0, .int .i64 0] (0, 0) _ rfl (by apply put8; (iterate 10 refine blk_far ?_ NB402_418.out _); exact BK402.out) Tryd.underlying46 rfl (by kernel_rfl)) rfl ?_
            exact ⟨by rfl, by repeat ((with_reducible first | exact HB.out | refine below_set ?_ GE402.out | refine below_set ?_ GE418.out))⟩
          · rw [if_neg c16] at H
            have c16b0 : (t417 == 0) = false := beq_eq_false_iff_ne.mpr c16
            simp only [Option.some.injEq, Prod.mk.injEq] at H
            obtain ⟨rfl, rfl, rfl, rfl, rfl, rfl, rfl, rfl, rfl⟩ := H
            go_wp2_with (first | ((with_reducible refine gate_callee (f := 21) rfl ?_); refine goesL_ (some 36) rfl rfl Tryd.func21 (by kernel_rfl) rfl #[.int .u64 t404] rfl (by (try simp only [List.map_toArray, List.map_cons, List.map_nil]); rfl) ?_; (with_reducible refine (capnpref02_Decode.calls kj4 t404 t408 t409 t410 t411 t412 t413 t414 t415 t416 t417 _ A14.out).mono ?_); rintro e w25 ⟨rfl, hb⟩; refine ⟨_, rfl, ?_⟩; replace BK402 := Aside0.mk (blk_below BK402.out hb); replace BK403 := Aside0.mk (blk_below BK403.out hb); replace HB := Aside0.mk (below_step HB.out hb); (try clear hb)) | ((with_reducible refine gate_dst (N := 13) rfl ?_); refine box_event ?hg (N := 13) ?hd (cs := #[.int .i64 0, .int .i64 0, .int .i64 0, .int .i64 0, .int .i64 0, .int .i64 0, .bool false, .int .i64 0, .int .u32 0, .int .u32 0]) (t := 39) ?hr ?_; (case hd => rfl); (case hg => rfl); (case hr => (go_simp; done)); intro gb418 hg w26 hbox hb; replace BK418 := Aside0.mk (hbox); replace GE418 := Aside0.mk (ge_of HB.out hg); replace HB := Aside0.mk (below_step HB.out hb); replace NB402_418 := Aside0.mk (ne_l BK402.out hg); replace BK402 := Aside0.mk (blk_below BK402.out hb); replace NB403_418 := Aside0.mk (ne_l BK403.out hg); replace NB418_403 := Aside0.mk (ne_r BK403.out hg); replace BK403 := Aside0.mk (blk_below BK403.out hb); clear hb hbox hg; have hnc27 := NB402_418.out; have hnb28 := NB418_403.out; have hnc28 := NB403_418.out; obtain ⟨hcz29_0, hcz29_1, hcz29_2, hcz29_3, hcz29_4, hcz29_5, hcz29_6, hcz29_7, hcz29_8, hcz29_9⟩ := cells10 BK418.out; obtain ⟨hfz29_0, hfz29_1, hfz29_2, hfz29_3, hfz29_4, hfz29_5, hfz29_6, hfz29_7, hfz29_8, hfz29_9⟩ := frz10 BK418.out; have hnb30 := NB403_402.out; have hnc30 := NB402_403.out; obtain ⟨hcz31_0, hcz31_1, hcz31_2, hcz31_3, hcz31_4, hcz31_5, hcz31_6, hcz31_7⟩ := cells8 BK403.out; obtain ⟨hcz32_0, hcz32_1, hcz32_2, hcz32_3, hcz32_4, hcz32_5, hcz32_6, hcz32_7⟩ := cells8 BK402.out; obtain ⟨hfz32_0, hfz32_1, hfz32_2, hfz32_3, hfz32_4, hfz32_5, hfz32_6, hfz32_7⟩ := frz8 BK402.out))
            refine bodyPost_ret (results_ct rfl _ _ gb402 46 #[.int .i64 0, .int .i64 0, .int .i64 0, .int .i64 0, .int .i64 0, .int .i64 0, .int .i64 0, .int .i64 0] (0, 0) _ rfl (by apply put8; (iterate 10 refine blk_far ?_ NB402_418.out _); exact BK402.out) Tryd.underlying46 rfl (by kernel_rfl)) rfl ?_
            exact ⟨by rfl, by repeat ((with_reducible first | exact HB.out | refine below_set ?_ GE402.out | refine below_set ?_ GE418.out))⟩
        · rw [if_neg c15] at H
          have c15b0 : (t408 == 3) = false := beq_eq_false_iff_ne.mpr c15
          by_cases c33 : t408 = 0
          · rw [if_pos c33] at H
            have c33b0 : (t408 == 0) = true := beq_iff_eq.mpr c33
            clear c33
            replace H := Option.bind_eq_some_iff.mp H
            obtain ⟨t419, A340, H⟩ := H
            replace H : (if t419 = true then (some (1, t405, wrap64 (t406 + t409), t410, t411, 0, 0, wrap64 (t410 + t411), 0)) else (some (0, 0, 0, 0, 0, 0, 0, 0, 2))) = some (r1, r2, r3, r4, r5, r6, r7, r8, r9) := H
            have A34 := Aside0.mk A340
            clear A340
            by_cases c35 : t419 = true
            · subst c35
              have H1 : (some (1, t405, wrap64 (t406 + t409), t410, t411, 0, 0, wrap64 (t410 + t411), 0)) = some (r1, r2, r3, r4, r5, r6, r7, r8, r9) := by rw [if_pos rfl] at H; exact H
              clear H
              have H := H1
              clear H1
              simp only [Option.some.injEq, Prod.mk.injEq] at H
              obtain ⟨rfl, rfl, rfl, rfl, rfl, rfl, rfl, rfl, rfl⟩ := H
              go_wp2_with (first | ((with_reducible refine gate_callee (f := 21) rfl ?_); refine goesL_ (some 36) rfl rfl Tryd.func21 (by kernel_rfl) rfl #[.int .u64 t404] rfl (by (try simp only [List.map_toArray, List.map_cons, List.map_nil]); rfl) ?_; (with_reducible refine (capnpref02_Decode.calls kj4 t404 t408 t409 t410 t411 t412 t413 t414 t415 t416 t417 _ A14.out).mono ?_); rintro e w36 ⟨rfl, hb⟩; refine ⟨_, rfl, ?_⟩; replace BK402 := Aside0.mk (blk_below BK402.out hb); replace BK403 := Aside0.mk (blk_below BK403.out hb); replace HB := Aside0.mk (below_step HB.out hb); (try clear hb)) | ((with_reducible refine gate_dst (N := 13) rfl ?_); refine box_event ?hg (N := 13) ?hd (cs := #[.int .i64 0, .int .i64 0, .int .i64 0, .int .i64 0, .int .i64 0, .int .i64 0, .bool false, .int .i64 0, .int .u32 0, .int .u32 0]) (t := 39) ?hr ?_; (case hd => rfl); (case hg => rfl); (case hr => (go_simp; done)); intro gb418 hg w37 hbox hb; replace BK418 := Aside0.mk (hbox); replace GE418 := Aside0.mk (ge_of HB.out hg); replace HB := Aside0.mk (below_step HB.out hb); replace NB402_418 := Aside0.mk (ne_l BK402.out hg); replace BK402 := Aside0.mk (blk_below BK402.out hb); replace NB403_418 := Aside0.mk (ne_l BK403.out hg); replace NB418_403 := Aside0.mk (ne_r BK403.out hg); replace BK403 := Aside0.mk (blk_below BK403.out hb); clear hb hbox hg; have hnc38 := NB402_418.out; have hnb39 := NB418_403.out; have hnc39 := NB403_418.out; obtain ⟨hcz40_0, hcz40_1, hcz40_2, hcz40_3, hcz40_4, hcz40_5, hcz40_6, hcz40_7, hcz40_8, hcz40_9⟩ := cells10 BK418.out; obtain ⟨hfz40_0, hfz40_1, hfz40_2, hfz40_3, hfz40_4, hfz40_5, hfz40_6, hfz40_7, hfz40_8, hfz40_9⟩ := frz10 BK418.out; have hnb41 := NB403_402.out; have hnc41 := NB402_403.out; obtain ⟨hcz42_0, hcz42_1, hcz42_2, hcz42_3, hcz42_4, hcz42_5, hcz42_6, hcz42_7⟩ := cells8 BK403.out; obtain ⟨hfz42_0, hfz42_1, hfz42_2, hfz42_3, hfz42_4, -, -, hfz42_7⟩ := frz8 BK403.out) | ((with_reducible refine gate_callee (f := 30) rfl ?_); refine goesL_ (some 74) rfl rfl Tryd.func30 (by kernel_rfl) rfl #[.slice A0 l0.length c0, .int .i64 t405, .int .i64 (wrap64 (t406 + t409)), .int .i64 (wrap64 (t410 + t411))] rfl (by (try simp only [List.map_toArray, List.map_cons, List.map_nil]); rfl) ?_; (with_reducible refine (capnpref05_InBounds.calls _ _ l0 t405 (wrap64 (t406 + t409)) (wrap64 (t410 + t411)) true _ ?side1 ?side2 A34.out).mono ?_); (case side1 => exact Kd.C_below HR0.out (by repeat ((with_reducible first | exact HB.out | refine below_set ?_ GE403.out | refine below_set ?_ GE418.out)))); (case side2 => exact HC0.out); rintro e w' ⟨rfl, ⟨nd, rfl⟩⟩; refine ⟨_, rfl, ?_⟩; obtain ⟨hcz43_0, hcz43_1, hcz43_2, hcz43_3, hcz43_4, hcz43_5, hcz43_6, hcz43_7⟩ := cells8 BK402.out; obtain ⟨hfz43_0, hfz43_1, hfz43_2, hfz43_3, hfz43_4, hfz43_5, hfz43_6, hfz43_7⟩ := frz8 BK402.out))
              refine bodyPost_ret (results_ct rfl _ _ gb402 46 #[.int .i64 1, .int .i64 t405, .int .i64 (wrap64 (t406 + t409)), .int .i64 t410, .int .i64 t411, .int .i64 0, .int .i64 0, .int .i64 (wrap64 (t410 + t411))] (0, 0) _ rfl (by apply put8; (with_reducible repeat ((refine blk_drewN ?_ _))); (iterate 6 refine blk_far ?_ NB402_403.out _); (iterate 10 refine blk_far ?_ NB402_418.out _); exact BK402.out) Tryd.underlying46 rfl (by kernel_rfl)) rfl ?_
              exact ⟨by rfl, by repeat ((with_reducible first | exact HB.out | apply pw_below_drewN | refine below_set ?_ GE402.out | refine below_set ?_ GE403.out | refine below_set ?_ GE418.out))⟩
            · replace c35 := Bool.eq_false_iff.mpr c35
              subst c35
              have H1 : (some (0, 0, 0, 0, 0, 0, 0, 0, 2)) = some (r1, r2, r3, r4, r5, r6, r7, r8, r9) := by rw [if_neg (show ¬ (false = true) by decide)] at H; exact H
              clear H
              have H := H1
              clear H1
              simp only [Option.some.injEq, Prod.mk.injEq] at H
              obtain ⟨rfl, rfl, rfl, rfl, rfl, rfl, rfl, rfl, rfl⟩ := H
              go_wp2_with (first | ((with_reducible refine gate_callee (f := 21) rfl ?_); refine goesL_ (some 36) rfl rfl Tryd.func21 (by kernel_rfl) rfl #[.int .u64 t404] rfl (by (try simp only [List.map_toArray, List.map_cons, List.map_nil]); rfl) ?_; (with_reducible refine (capnpref02_Decode.calls kj4 t404 t408 t409 t410 t411 t412 t413 t414 t415 t416 t417 _ A14.out).mono ?_); rintro e w44 ⟨rfl, hb⟩; refine ⟨_, rfl, ?_⟩; replace BK402 := Aside0.mk (blk_below BK402.out hb); replace BK403 := Aside0.mk (blk_below BK403.out hb); replace HB := Aside0.mk (below_step HB.out hb); (try clear hb)) | ((with_reducible refine gate_dst (N := 13) rfl ?_); refine box_event ?hg (N := 13) ?hd (cs := #[.int .i64 0, .int .i64 0, .int .i64 0, .int .i64 0, .int .i64 0, .int .i64 0, .bool false, .int .i64 0, .int .u32 0, .int .u32 0]) (t := 39) ?hr ?_; (case hd => rfl); (case hg => rfl); (case hr => (go_simp; done)); intro gb418 hg w45 hbox hb; replace BK418 := Aside0.mk (hbox); replace GE418 := Aside0.mk (ge_of HB.out hg); replace HB := Aside0.mk (below_step HB.out hb); replace NB402_418 := Aside0.mk (ne_l BK402.out hg); replace BK402 := Aside0.mk (blk_below BK402.out hb); replace NB403_418 := Aside0.mk (ne_l BK403.out hg); replace NB418_403 := Aside0.mk (ne_r BK403.out hg); replace BK403 := Aside0.mk (blk_below BK403.out hb); clear hb hbox hg; have hnc46 := NB402_418.out; have hnb47 := NB418_403.out; have hnc47 := NB403_418.out; obtain ⟨hcz48_0, hcz48_1, hcz48_2, hcz48_3, hcz48_4, hcz48_5, hcz48_6, hcz48_7, hcz48_8, hcz48_9⟩ := cells10 BK418.out; obtain ⟨hfz48_0, hfz48_1, hfz48_2, hfz48_3, hfz48_4, hfz48_5, hfz48_6, hfz48_7, hfz48_8, hfz48_9⟩ := frz10 BK418.out; have hnb49 := NB403_402.out; have hnc49 := NB402_403.out; obtain ⟨hcz50_0, hcz50_1, hcz50_2, hcz50_3, hcz50_4, -, -, hcz50_7⟩ := cells8 BK403.out; obtain ⟨hfz50_0, hfz50_1, hfz50_2, hfz50_3, hfz50_4, -, -, hfz50_7⟩ := frz8 BK403.out) | ((with_reducible refine gate_callee (f := 30) rfl ?_); refine goesL_ (some 74) rfl rfl Tryd.func30 (by kernel_rfl) rfl #[.slice A0 l0.length c0, .int .i64 t405, .int .i64 (wrap64 (t406 + t409)), .int .i64 (wrap64 (t410 + t411))] rfl (by (try simp only [List.map_toArray, List.map_cons, List.map_nil]); rfl) ?_; (with_reducible refine (capnpref05_InBounds.calls _ _ l0 t405 (wrap64 (t406 + t409)) (wrap64 (t410 + t411)) false _ ?side1 ?side2 A34.out).mono ?_); (case side1 => exact Kd.C_below HR0.out (by repeat ((with_reducible first | exact HB.out | refine below_set ?_ GE403.out | refine below_set ?_ GE418.out)))); (case side2 => exact HC0.out); rintro e w' ⟨rfl, ⟨nd, rfl⟩⟩; refine ⟨_, rfl, ?_⟩; obtain ⟨hcz51_0, hcz51_1, hcz51_2, hcz51_3, hcz51_4, hcz51_5, hcz51_6, hcz51_7⟩ := cells8 BK402.out; obtain ⟨hfz51_0, hfz51_1, hfz51_2, hfz51_3, hfz51_4, hfz51_5, hfz51_6, hfz51_7⟩ := frz8 BK402.out))
              refine bodyPost_ret (results_ct rfl _ _ gb402 46 #[.int .i64 0, .int .i64 0, .int .i64 0, .int .i64 0, .int .i64 0, .int .i64 0, .int .i64 0, .int .i64 0] (0, 0) _ rfl (by apply put8; (with_reducible repeat ((refine blk_drewN ?_ _))); (iterate 6 refine blk_far ?_ NB402_403.out _); (iterate 10 refine blk_far ?_ NB402_418.out _); exact BK402.out) Tryd.underlying46 rfl (by kernel_rfl)) rfl ?_
              exact ⟨by rfl, by repeat ((with_reducible first | exact HB.out | apply pw_below_drewN | refine below_set ?_ GE402.out | refine below_set ?_ GE403.out | refine below_set ?_ GE418.out))⟩
          · rw [if_neg c33] at H
            have c33b0 : (t408 == 0) = false := beq_eq_false_iff_ne.mpr c33
            replace H := Option.bind_eq_some_iff.mp H
            obtain ⟨t420, A520, H⟩ := H
            replace H : ((capnpref05_InBounds.f l0 t405 (wrap64 (t406 + t409)) t420).bind fun t421 => (if t421 = true then (if t412 = 7 then ((capnpref05_Word.f kj4 l0 t405 (wrap64 (t406 + t409))).bind fun bt422 => ((capnpref02_Decode.f kj4 bt422.1).bind fun bt424 => (if bt424.1 = 0 then (if bt424.2.1 < 0 then (capnpref08_Object.j1 kj4 (wrap64 (t406 + t409)) true 2 t405 (wrap64 (t406 + t409)) 0 0 t412 t413 t420 bt424.1 bt424.2.1 bt424.2.2.1 bt424.2.2.2.1 bt424.2.2.2.2.1 bt424.2.2.2.2.2.1 bt424.2.2.2.2.2.2.1 bt424.2.2.2.2.2.2.2.1 bt424.2.2.2.2.2.2.2.2.1 bt424.2.2.2.2.2.2.2.2.2) else (capnpref08_Object.j1 kj4 (wrap64 (t406 + t409)) (decide ((wrap64 (bt424.2.1 * (wrap64 (bt424.2.2.1 + bt424.2.2.2.1)))) > t413)) 2 t405 (wrap64 (t406 + t409)) 0 0 t412 t413 t420 bt424.1 bt424.2.1 bt424.2.2.1 bt424.2.2.2.1 bt424.2.2.2.2.1 bt424.2.2.2.2.2.1 bt424.2.2.2.2.2.2.1 bt424.2.2.2.2.2.2.2.1 bt424.2.2.2.2.2.2.2.2.1 bt424.2.2.2.2.2.2.2.2.2)) else (capnpref08_Object.j1 kj4 (wrap64 (t406 + t409)) true 2 t405 (wrap64 (t406 + t409)) 0 0 t412 t413 t420 bt424.1 bt424.2.1 bt424.2.2.1 bt424.2.2.2.1 bt424.2.2.2.2.1 bt424.2.2.2.2.2.1 bt424.2.2.2.2.2.2.1 bt424.2.2.2.2.2.2.2.1 bt424.2.2.2.2.2.2.2.2.1 bt424.2.2.2.2.2.2.2.2.2)))) else (some (2, t405, wrap64 (t406 + t409), 0, 0, t412, t413, t420, 0))) else (some (0, 0, 0, 0, 0, 0, 0, 0, 2)))) = some (r1, r2, r3, r4, r5, r6, r7, r8, r9) := H
            have A52 := Aside0.mk A520
            clear A520
            replace H := Option.bind_eq_some_iff.mp H
            obtain ⟨t421, A530, H⟩ := H
            replace H : (if t421 = true then (if t412 = 7 then ((capnpref05_Word.f kj4 l0 t405 (wrap64 (t406 + t409))).bind fun bt422 => ((capnpref02_Decode.f kj4 bt422.1).bind fun bt424 => (if bt424.1 = 0 then (if bt424.2.1 < 0 then (capnpref08_Object.j1 kj4 (wrap64 (t406 + t409)) true 2 t405 (wrap64 (t406 + t409)) 0 0 t412 t413 t420 bt424.1 bt424.2.1 bt424.2.2.1 bt424.2.2.2.1 bt424.2.2.2.2.1 bt424.2.2.2.2.2.1 bt424.2.2.2.2.2.2.1 bt424.2.2.2.2.2.2.2.1 bt424.2.2.2.2.2.2.2.2.1 bt424.2.2.2.2.2.2.2.2.2) else (capnpref08_Object.j1 kj4 (wrap64 (t406 + t409)) (decide ((wrap64 (bt424.2.1 * (wrap64 (bt424.2.2.1 + bt424.2.2.2.1)))) > t413)) 2 t405 (wrap64 (t406 + t409)) 0 0 t412 t413 t420 bt424.1 bt424.2.1 bt424.2.2.1 bt424.2.2.2.1 bt424.2.2.2.2.1 bt424.2.2.2.2.2.1 bt424.2.2.2.2.2.2.1 bt424.2.2.2.2.2.2.2.1 bt424.2.2.2.2.2.2.2.2.1 bt424.2.2.2.2.2.2.2.2.2)) else (capnpref08_Object.j1 kj4 (wrap64 (t406 + t409)) true 2 t405 (wrap64 (t406 + t409)) 0 0 t412 t413 t420 bt424.1 bt424.2.1 bt424.2.2.1 bt424.2.2.2.1 bt424.2.2.2.2.1 bt424.2.2.2.2.2.1 bt424.2.2.2.2.2.2.1 bt424.2.2.2.2.2.2.2.1 bt424.2.2.2.2.2.2.2.2.1 bt424.2.2.2.2.2.2.2.2.2)))) else (some (2, t405, wrap64 (t406 + t409), 0, 0, t412, t413, t420, 0))) else (some (0, 0, 0, 0, 0, 0, 0, 0, 2))) = some (r1, r2, r3, r4, r5, r6, r7, r8, r9) := H
            have A53 := Aside0.mk A530
            clear A530
            by_cases c54 : t421 = true
            · subst c54
              have H1 : (if t412 = 7 then ((capnpref05_Word.f kj4 l0 t405 (wrap64 (t406 + t409))).bind fun bt422 => ((capnpref02_Decode.f kj4 bt422.1).bind fun bt424 => (if bt424.1 = 0 then (if bt424.2.1 < 0 then (capnpref08_Object.j1 kj4 (wrap64 (t406 + t409)) true 2 t405 (wrap64 (t406 + t409)) 0 0 t412 t413 t420 bt424.1 bt424.2.1 bt424.2.2.1 bt424.2.2.2.1 bt424.2.2.2.2.1 bt424.2.2.2.2.2.1 bt424.2.2.2.2.2.2.1 bt424.2.2.2.2.2.2.2.1 bt424.2.2.2.2.2.2.2.2.1 bt424.2.2.2.2.2.2.2.2.2) else (capnpref08_Object.j1 kj4 (wrap64 (t406 + t409)) (decide ((wrap64 (bt424.2.1 * (wrap64 (bt424.2.2.1 + bt424.2.2.2.1)))) > t413)) 2 t405 (wrap64 (t406 + t409)) 0 0 t412 t413 t420 bt424.1 bt424.2.1 bt424.2.2.1 bt424.2.2.2.1 bt424.2.2.2.2.1 bt424.2.2.2.2.2.1 bt424.2.2.2.2.2.2.1 bt424.2.2.2.2.2.2.2.1 bt424.2.2.2.2.2.2.2.2.1 bt424.2.2.2.2.2.2.2.2.2)) else (capnpref08_Object.j1 kj4 (wrap64 (t406 + t409)) true 2 t405 (wrap64 (t406 + t409)) 0 0 t412 t413 t420 bt424.1 bt424.2.1 bt424.2.2.1 bt424.2.2.2.1 bt424.2.2.2.2.1 bt424.2.2.2.2.2.1 bt424.2.2.2.2.2.2.1 bt424.2.2.2.2.2.2.2.1 bt424.2.2.2.2.2.2.2.2.1 bt424.2.2.2.2.2.2.2.2.2)))) else (some (2, t405, wrap64 (t406 + t409), 0, 0, t412, t413, t420, 0))) = some (r1, r2, r3, r4, r5, r6, r7, r8, r9) := by rw [if_pos rfl] at H; exact H
              clear H
              have H := H1
              clear H1
              by_cases c55 : t412 = 7
              · rw [if_pos c55] at H
                have c55b1 : (t412 != 7) = false := bne_eq_false_iff_eq.mpr c55
                clear c55
                replace H := Option.bind_eq_some_iff.mp H
                obtain ⟨⟨t422, t423⟩, A560, H⟩ := H
                replace H : ((capnpref02_Decode.f kj4 t422).bind fun bt424 => (if bt424.1 = 0 then (if bt424.2.1 < 0 then (capnpref08_Object.j1 kj4 (wrap64 (t406 + t409)) true 2 t405 (wrap64 (t406 + t409)) 0 0 t412 t413 t420 bt424.1 bt424.2.1 bt424.2.2.1 bt424.2.2.2.1 bt424.2.2.2.2.1 bt424.2.2.2.2.2.1 bt424.2.2.2.2.2.2.1 bt424.2.2.2.2.2.2.2.1 bt424.2.2.2.2.2.2.2.2.1 bt424.2.2.2.2.2.2.2.2.2) else (capnpref08_Object.j1 kj4 (wrap64 (t406 + t409)) (decide ((wrap64 (bt424.2.1 * (wrap64 (bt424.2.2.1 + bt424.2.2.2.1)))) > t413)) 2 t405 (wrap64 (t406 + t409)) 0 0 t412 t413 t420 bt424.1 bt424.2.1 bt424.2.2.1 bt424.2.2.2.1 bt424.2.2.2.2.1 bt424.2.2.2.2.2.1 bt424.2.2.2.2.2.2.1 bt424.2.2.2.2.2.2.2.1 bt424.2.2.2.2.2.2.2.2.1 bt424.2.2.2.2.2.2.2.2.2)) else (capnpref08_Object.j1 kj4 (wrap64 (t406 + t409)) true 2 t405 (wrap64 (t406 + t409)) 0 0 t412 t413 t420 bt424.1 bt424.2.1 bt424.2.2.1 bt424.2.2.2.1 bt424.2.2.2.2.1 bt424.2.2.2.2.2.1 bt424.2.2.2.2.2.2.1 bt424.2.2.2.2.2.2.2.1 bt424.2.2.2.2.2.2.2.2.1 bt424.2.2.2.2.2.2.2.2.2))) = some (r1, r2, r3, r4, r5, r6, r7, r8, r9) := H
                have A56 := Aside0.mk A560
                clear A560
                replace H := Option.bind_eq_some_iff.mp H
                obtain ⟨⟨t424, t425, t426, t427, t428, t429, t430, t431, t432, t433⟩, A570, H⟩ := H
                replace H : (if t424 = 0 then (if t425 < 0 then (capnpref08_Object.j1 kj4 (wrap64 (t406 + t409)) true 2 t405 (wrap64 (t406 + t409)) 0 0 t412 t413 t420 t424 t425 t426 t427 t428 t429 t430 t431 t432 t433) else (capnpref08_Object.j1 kj4 (wrap64 (t406 + t409)) (decide ((wrap64 (t425 * (wrap64 (t426 + t427)))) > t413)) 2 t405 (wrap64 (t406 + t409)) 0 0 t412 t413 t420 t424 t425 t426 t427 t428 t429 t430 t431 t432 t433)) else (capnpref08_Object.j1 kj4 (wrap64 (t406 + t409)) true 2 t405 (wrap64 (t406 + t409)) 0 0 t412 t413 t420 t424 t425 t426 t427 t428 t429 t430 t431 t432 t433)) = some (r1, r2, r3, r4, r5, r6, r7, r8, r9) := H
                have A57 := Aside0.mk A570
                clear A570
                have HC58 := Aside0.mk H
                clear H
                go_upto_region 31 with (first | ((with_reducible refine gate_callee (f := 21) rfl ?_); refine goesL_ (some 36) rfl rfl Tryd.func21 (by kernel_rfl) rfl #[.int .u64 t404] rfl (by (try simp only [List.map_toArray, List.map_cons, List.map_nil]); rfl) ?_; (with_reducible refine (capnpref02_Decode.calls kj4 t404 t408 t409 t410 t411 t412 t413 t414 t415 t416 t417 _ A14.out).mono ?_); rintro e w59 ⟨rfl, hb⟩; refine ⟨_, rfl, ?_⟩; replace BK402 := Aside0.mk (blk_below BK402.out hb); replace BK403 := Aside0.mk (blk_below BK403.out hb); replace HB := Aside0.mk (below_step HB.out hb); (try clear hb)) | ((with_reducible refine gate_dst (N := 13) rfl ?_); refine box_event ?hg (N := 13) ?hd (cs := #[.int .i64 0, .int .i64 0, .int .i64 0, .int .i64 0, .int .i64 0, .int .i64 0, .bool false, .int .i64 0, .int .u32 0, .int .u32 0]) (t := 39) ?hr ?_; (case hd => rfl); (case hg => rfl); (case hr => (go_simp; done)); intro gb418 hg w60 hbox hb; replace BK418 := Aside0.mk (hbox); replace GE418 := Aside0.mk (ge_of HB.out hg); replace HB := Aside0.mk (below_step HB.out hb); replace NB402_418 := Aside0.mk (ne_l BK402.out hg); replace NB418_402 := Aside0.mk (ne_r BK402.out hg); replace BK402 := Aside0.mk (blk_below BK402.out hb); replace NB403_418 := Aside0.mk (ne_l BK403.out hg); replace NB418_403 := Aside0.mk (ne_r BK403.out hg); replace BK403 := Aside0.mk (blk_below BK403.out hb); clear hb hbox hg; have hnc62 := NB403_418.out; obtain ⟨hcz63_0, hcz63_1, hcz63_2, hcz63_3, hcz63_4, hcz63_5, hcz63_6, hcz63_7, hcz63_8, hcz63_9⟩ := cells10 BK418.out; obtain ⟨hfz63_0, hfz63_1, hfz63_2, hfz63_3, hfz63_4, hfz63_5, hfz63_6, hfz63_7, hfz63_8, hfz63_9⟩ := frz10 BK418.out; have hnb64 := NB403_402.out; have hnc64 := NB402_403.out; obtain ⟨hcz65_0, hcz65_1, hcz65_2, -, -, hcz65_5, hcz65_6, hcz65_7⟩ := cells8 BK403.out; obtain ⟨hfz65_0, hfz65_1, hfz65_2, -, -, hfz65_5, hfz65_6, hfz65_7⟩ := frz8 BK403.out) | ((with_reducible refine gate_callee (f := 45) rfl ?_); refine goesL_ (some 89) rfl rfl Tryd.func45 (by kernel_rfl) rfl #[.int .i64 t412, .int .i64 t413] rfl (by (try simp only [List.map_toArray, List.map_cons, List.map_nil]); rfl) ?_; (with_reducible refine (capnpref06_Words.calls t412 t413 t420 _ A52.out).mono ?_); rintro e w' ⟨rfl, ⟨nd, rfl⟩⟩; refine ⟨_, rfl, ?_⟩) | ((with_reducible refine gate_callee (f := 30) rfl ?_); refine goesL_ (some 96) rfl rfl Tryd.func30 (by kernel_rfl) rfl #[.slice A0 l0.length c0, .int .i64 t405, .int .i64 (wrap64 (t406 + t409)), .int .i64 t420] rfl (by (try simp only [List.map_toArray, List.map_cons, List.map_nil]); rfl) ?_; (with_reducible refine (capnpref05_InBounds.calls _ _ l0 t405 (wrap64 (t406 + t409)) t420 true _ ?side1 ?side2 A53.out).mono ?_); (case side1 => exact Kd.C_below HR0.out (by repeat ((with_reducible first | exact HB.out | apply pw_below_drewN | refine below_set ?_ GE403.out | refine below_set ?_ GE418.out)))); (case side2 => exact HC0.out); rintro e w' ⟨rfl, ⟨nd, rfl⟩⟩; refine ⟨_, rfl, ?_⟩) | ((with_reducible refine gate_callee (f := 36) rfl ?_); refine goesL_ (some 107) rfl rfl Tryd.func36 (by kernel_rfl) rfl #[.slice A0 l0.length c0, .int .i64 t405, .int .i64 (wrap64 (t406 + t409))] rfl (by (try simp only [List.map_toArray, List.map_cons, List.map_nil]); rfl) ?_; (with_reducible refine (capnpref05_Word.calls kj4 _ _ l0 t405 (wrap64 (t406 + t409)) t422 t423 _ ?side1 ?side2 A56.out).mono ?_); (case side1 => exact Kd.C_below HR0.out (by repeat ((with_reducible first | exact HB.out | apply pw_below_drewN | refine below_set ?_ GE403.out | refine below_set ?_ GE418.out)))); (case side2 => exact HC0.out); rintro e w' ⟨rfl, ⟨nd, rfl⟩⟩; refine ⟨_, rfl, ?_⟩) | ((with_reducible refine gate_callee (f := 21) rfl ?_); refine goesL_ (some 111) rfl rfl Tryd.func21 (by kernel_rfl) rfl #[.int .u64 t422] rfl (by (try simp only [List.map_toArray, List.map_cons, List.map_nil]); rfl) ?_; (with_reducible refine (capnpref02_Decode.calls kj4 t422 t424 t425 t426 t427 t428 t429 t430 t431 t432 t433 _ A57.out).mono ?_); rintro e w66 ⟨rfl, hb⟩; refine ⟨_, rfl, ?_⟩; replace BK402 := Aside0.mk (blk_below (g := gb402) (o := .cells #[.int .i64 0, .int .i64 0, .int .i64 0, .int .i64 0, .int .i64 0, .int .i64 0, .int .i64 0, .int .i64 0] 46 (0, 0)) (by (with_reducible repeat ((refine blk_drewN ?_ _))); refine blk_far ?_ NB402_403.out _; (with_reducible repeat ((refine blk_drewN ?_ _))); (iterate 5 refine blk_far ?_ NB402_403.out _); (iterate 10 refine blk_far ?_ NB402_418.out _); exact BK402.out) hb); replace BK403 := Aside0.mk (blk_below (g := gb403) (o := .cells #[.int .i64 2, .int .i64 t405, .int .i64 (wrap64 (t406 + t409)), .int .i64 0, .int .i64 0, .int .i64 t412, .int .i64 t413, .int .i64 t420] 46 (0, 0)) (by (with_reducible repeat ((refine blk_drewN ?_ _))); refine blk_put (cs := #[.int .i64 2, .int .i64 t405, .int .i64 (wrap64 (t406 + t409)), .int .i64 0, .int .i64 0, .int .i64 t412, .int .i64 t413, .int .i64 0]) ?_ 7 _ rfl; (with_reducible repeat ((refine blk_drewN ?_ _))); refine blk_put (cs := #[.int .i64 2, .int .i64 t405, .int .i64 (wrap64 (t406 + t409)), .int .i64 0, .int .i64 0, .int .i64 t412, .int .i64 0, .int .i64 0]) ?_ 6 _ rfl; refine blk_put (cs := #[.int .i64 2, .int .i64 t405, .int .i64 (wrap64 (t406 + t409)), .int .i64 0, .int .i64 0, .int .i64 0, .int .i64 0, .int .i64 0]) ?_ 5 _ rfl; refine blk_put (cs := #[.int .i64 0, .int .i64 t405, .int .i64 (wrap64 (t406 + t409)), .int .i64 0, .int .i64 0, .int .i64 0, .int .i64 0, .int .i64 0]) ?_ 0 _ rfl; refine blk_put (cs := #[.int .i64 0, .int .i64 t405, .int .i64 0, .int .i64 0, .int .i64 0, .int .i64 0, .int .i64 0, .int .i64 0]) ?_ 2 _ rfl; refine blk_put (cs := #[.int .i64 0, .int .i64 0, .int .i64 0, .int .i64 0, .int .i64 0, .int .i64 0, .int .i64 0, .int .i64 0]) ?_ 1 _ rfl; (iterate 10 refine blk_far ?_ NB403_418.out _); exact BK403.out) hb); replace BK418 := Aside0.mk (blk_below (g := gb418) (o := .cells #[.int .i64 t408, .int .i64 t409, .int .i64 t410, .int .i64 t411, .int .i64 t412, .int .i64 t413, .bool t414, .int .i64 t415, .int .u32 t416, .int .u32 t417] 39 (0, 0)) (by (with_reducible repeat ((refine blk_drewN ?_ _))); refine blk_far ?_ NB418_403.out _; (with_reducible repeat ((refine blk_drewN ?_ _))); (iterate 5 refine blk_far ?_ NB418_403.out _); exact put10 BK418.out) hb); replace HB := Aside0.mk (below_step (by repeat ((with_reducible first | exact HB.out | apply pw_below_drewN | refine below_set ?_ GE403.out | refine below_set ?_ GE418.out))) hb); (try clear hb)) | ((with_reducible refine gate_dst (N := 17) rfl ?_); refine box_event ?hg (N := 17) ?hd (cs := #[.int .i64 0, .int .i64 0, .int .i64 0, .int .i64 0, .int .i64 0, .int .i64 0, .bool false, .int .i64 0, .int .u32 0, .int .u32 0]) (t := 39) ?hr ?_; (case hd => rfl); (case hg => rfl); (case hr => (go_simp; done)); intro gb434 hg w67 hbox hb; replace BK434 := Aside0.mk (hbox); replace GE434 := Aside0.mk (ge_of HB.out hg); replace HB := Aside0.mk (below_step HB.out hb); replace NB402_434 := Aside0.mk (ne_l BK402.out hg); replace NB434_402 := Aside0.mk (ne_r BK402.out hg); replace BK402 := Aside0.mk (blk_below BK402.out hb); replace NB403_434 := Aside0.mk (ne_l BK403.out hg); replace NB434_403 := Aside0.mk (ne_r BK403.out hg); replace BK403 := Aside0.mk (blk_below BK403.out hb); replace NB418_434 := Aside0.mk (ne_l BK418.out hg); replace NB434_418 := Aside0.mk (ne_r BK418.out hg); replace BK418 := Aside0.mk (blk_below BK418.out hb); clear hb hbox hg; obtain ⟨hcz71_0, hcz71_1, hcz71_2, hcz71_3, hcz71_4, hcz71_5, hcz71_6, hcz71_7, hcz71_8, hcz71_9⟩ := cells10 BK434.out; obtain ⟨hfz71_0, hfz71_1, hfz71_2, hfz71_3, hfz71_4, hfz71_5, hfz71_6, hfz71_7, hfz71_8, hfz71_9⟩ := frz10 BK434.out))
                (skip)
                go_cut [132] (fun v132 wc => ∃ (kq : Nat) (x132_57 : Bool), v132 = .bool x132_57 ∧ Aside0 (capnpref08_Object.j1 kq (wrap64 (t406 + t409)) x132_57 2 t405 (wrap64 (t406 + t409)) 0 0 t412 t413 t420 t424 t425 t426 t427 t428 t429 t430 t431 t432 t433 = some (r1, r2, r3, r4, r5, r6, r7, r8, r9)) ∧ Aside0 (kq ≤ kj4) ∧ Aside0 (wc.heap[gb402]? = some (.cells #[.int .i64 0, .int .i64 0, .int .i64 0, .int .i64 0, .int .i64 0, .int .i64 0, .int .i64 0, .int .i64 0] 46 (0, 0))) ∧ Aside0 (wc.heap[gb403]? = some (.cells #[.int .i64 2, .int .i64 t405, .int .i64 (wrap64 (t406 + t409)), .int .i64 0, .int .i64 0, .int .i64 t412, .int .i64 t413, .int .i64 t420] 46 (0, 0))) ∧ Aside0 (wc.heap[gb418]? = some (.cells #[.int .i64 t408, .int .i64 t409, .int .i64 t410, .int .i64 t411, .int .i64 t412, .int .i64 t413, .bool t414, .int .i64 t415, .int .u32 t416, .int .u32 t417] 39 (0, 0))) ∧ Aside0 (wc.heap[gb434]? = some (.cells #[.int .i64 t424, .int .i64 t425, .int .i64 t426, .int .i64 t427, .int .i64 t428, .int .i64 t429, .bool t430, .int .i64 t431, .int .u32 t432, .int .u32 t433] 39 (0, 0))) ∧ Aside0 (Below w.heap.size w wc))
                case first =>
                  have H := HC58.out
                  clear HC58
                  by_cases c72 : t424 = 0
                  · rw [if_pos c72] at H
                    have c72b1 : (t424 != 0) = false := bne_eq_false_iff_eq.mpr c72
                    clear c72
                    (skip)
                    by_cases c73 : t425 < 0
                    · rw [if_pos c73] at H
                      have c73b0 : decide (t425 < 0) = true := decide_eq_true c73
                      clear c73
                      have H' := Aside0.mk H
                      clear H
                      go_wp2
                      go_meet
                      case rel => exact ⟨_, (true), (by rfl), H', ⟨by omega⟩, ⟨by (iterate 10 refine blk_far ?_ NB402_434.out _); exact BK402.out⟩, ⟨by (iterate 10 refine blk_far ?_ NB403_434.out _); exact BK403.out⟩, ⟨by (iterate 10 refine blk_far ?_ NB418_434.out _); exact BK418.out⟩, ⟨by exact put10 BK434.out⟩, ⟨by repeat ((with_reducible first | exact HB.out | refine below_set ?_ GE434.out))⟩⟩
                    · rw [if_neg c73] at H
                      have c73b0 : decide (t425 < 0) = false := decide_eq_false c73
                      clear c73
                      have H' := Aside0.mk H
                      clear H
                      have hnc80 := NB418_434.out
                      have hnb82 := NB418_402.out
                      have hnc82 := NB402_418.out
                      have hnb83 := NB418_403.out
                      have hnc83 := NB403_418.out
                      have hcz84_5 : w67.cell? ⟨gb418, 5, none⟩ = some (.int .i64 t413) := (blk_cell BK418.out 5).trans rfl
                      go_wp2
                      go_meet
                      case rel => exact ⟨_, (decide ((wrap64 (t425 * (wrap64 (t426 + t427)))) > t413)), (by rfl), H', ⟨by omega⟩, ⟨by (iterate 10 refine blk_far ?_ NB402_434.out _); exact BK402.out⟩, ⟨by (iterate 10 refine blk_far ?_ NB403_434.out _); exact BK403.out⟩, ⟨by (iterate 10 refine blk_far ?_ NB418_434.out _); exact BK418.out⟩, ⟨by exact put10 BK434.out⟩, ⟨by repeat ((with_reducible first | exact HB.out | refine below_set ?_ GE434.out))⟩⟩
                  · rw [if_neg c72] at H
                    have c72b1 : (t424 != 0) = true := bne_iff_ne.mpr c72
                    (skip)
                    have H' := Aside0.mk H
                    clear H
                    go_wp2
                    go_meet
                    case rel => exact ⟨_, (true), (by rfl), H', ⟨by omega⟩, ⟨by (iterate 10 refine blk_far ?_ NB402_434.out _); exact BK402.out⟩, ⟨by (iterate 10 refine blk_far ?_ NB403_434.out _); exact BK403.out⟩, ⟨by (iterate 10 refine blk_far ?_ NB418_434.out _); exact BK418.out⟩, ⟨by exact put10 BK434.out⟩, ⟨by repeat ((with_reducible first | exact HB.out | refine below_set ?_ GE434.out))⟩⟩
                case rest =>
                  clear HC58
                  skip
                  skip
                  skip
                  skip
                  skip
                  skip
                  skip
                  skip
                  skip
                  skip
                  skip
                  skip
                  skip
                  skip
                  skip
                  try clear c15
                  try clear c15b0
                  try clear c15b1
                  skip
                  skip
                  skip
                  skip
                  skip
                  skip
                  skip
                  skip
                  skip
                  skip
                  skip
                  try clear c33
                  try clear c33b0
                  try clear c33b1
                  skip
                  skip
                  skip
                  skip
                  skip
                  skip
                  skip
                  skip
                  skip
                  skip
                  skip
                  try clear c55b0
                  try clear c55b1
                  skip
                  skip
                  skip
                  skip
                  skip
                  skip
                  skip
                  skip
                  skip
                  skip
                  skip
                  skip
                  skip
                  skip
                  skip
                  skip
                  skip
                  skip
                  skip
                  skip
                  skip
                  skip
                  skip
                  skip
                  skip
                  skip
                  skip
                  skip
                  skip
                  skip
                  skip
                  skip
                  skip
                  skip
                  skip
                  skip
                  skip
                  skip
                  skip
                  skip
                  skip
                  skip
                  skip
                  skip
                  skip
                  skip
                  skip
                  skip
                  skip
                  skip
                  skip
                  skip
                  skip
                  skip
                  skip
                  skip
                  skip
                  skip
                  skip
                  skip
                  skip
                  skip
                  skip
                  skip
                  skip
                  skip
                  skip
                  skip
                  skip
                  skip
                  skip
                  skip
                  skip
                  skip
                  skip
                  skip
                  skip
                  skip
                  skip
                  skip
                  skip
                  skip
                  skip
                  skip
                  skip
                  skip
                  skip
                  skip
                  skip
                  skip
                  skip
                  skip
                  skip
                  skip
                  skip
                  skip
                  skip
                  skip
                  skip
                  skip
                  skip
                  skip
                  skip
                  skip
                  skip
                  skip
                  skip
                  skip
                  skip
                  skip
                  skip
                  skip
                  skip
                  skip
                  skip
                  skip
                  skip
                  skip
                  skip
                  skip
                  skip
                  skip
                  skip
                  skip
                  skip
                  skip
                  skip
                  skip
                  skip
                  skip
                  skip
                  skip
                  skip
                  skip
                  skip
                  skip
                  skip
                  skip
                  skip
                  skip
                  skip
                  skip
                  skip
                  try clear hcz63_0
                  try clear hcz63_1
                  try clear hcz63_2
                  try clear hcz63_3
                  try clear hcz63_4
                  try clear hcz63_5
                  try clear hcz63_6
                  try clear hcz63_7
                  try clear hcz63_8
                  try clear hcz63_9
                  try clear hcz65_0
                  try clear hcz65_1
                  try clear hcz65_2
                  try clear hcz65_3
                  try clear hcz65_4
                  try clear hcz65_5
                  try clear hcz65_6
                  try clear hcz65_7
                  try clear hcz71_0
                  try clear hcz71_1
                  try clear hcz71_2
                  try clear hcz71_3
                  try clear hcz71_4
                  try clear hcz71_5
                  try clear hcz71_6
                  try clear hcz71_7
                  try clear hcz71_8
                  try clear hcz71_9
                  skip
                  skip
                  skip
                  skip
                  skip
                  skip
                  skip
                  skip
                  skip
                  skip
                  skip
                  skip
                  skip
                  skip
                  skip
                  skip
                  skip
                  skip
                  skip
                  skip
                  skip
                  skip
                  skip
                  skip
                  skip
                  skip
                  skip
                  skip
                  skip
                  skip
                  skip
                  skip
                  skip
                  skip
                  skip
                  skip
                  skip
                  skip
                  skip
                  skip
                  skip
                  skip
                  skip
                  skip
                  skip
                  skip
                  skip
                  skip
                  skip
                  skip
                  skip
                  skip
                  skip
                  skip
                  skip
                  skip
                  skip
                  skip
                  skip
                  skip
                  skip
                  skip
                  skip
                  skip
                  skip
                  skip
                  skip
                  skip
                  skip
                  skip
                  skip
                  skip
                  skip
                  skip
                  skip
                  skip
                  skip
                  skip
                  skip
                  skip
                  skip
                  skip
                  skip
                  skip
                  skip
                  skip
                  skip
                  skip
                  skip
                  skip
                  skip
                  skip
                  skip
                  skip
                  skip
                  skip
                  skip
                  skip
                  skip
                  skip
                  skip
                  skip
                  skip
                  skip
                  skip
                  skip
                  skip
                  skip
                  skip
                  skip
                  skip
                  skip
                  skip
                  skip
                  skip
                  skip
                  skip
                  skip
                  skip
                  skip
                  skip
                  skip
                  skip
                  skip
                  skip
                  skip
                  skip
                  skip
                  skip
                  skip
                  skip
                  skip
                  skip
                  skip
                  skip
                  skip
                  skip
                  skip
                  skip
                  skip
                  skip
                  skip
                  skip
                  skip
                  skip
                  skip
                  skip
                  skip
                  skip
                  skip
                  skip
                  skip
                  skip
                  skip
                  skip
                  skip
                  skip
                  skip
                  skip
                  skip
                  try clear hfz63_0
                  try clear hfz63_1
                  try clear hfz63_2
                  try clear hfz63_3
                  try clear hfz63_4
                  try clear hfz63_5
                  try clear hfz63_6
                  try clear hfz63_7
                  try clear hfz63_8
                  try clear hfz63_9
                  try clear hfz65_0
                  try clear hfz65_1
                  try clear hfz65_2
                  try clear hfz65_3
                  try clear hfz65_4
                  try clear hfz65_5
                  try clear hfz65_6
                  try clear hfz65_7
                  try clear hfz71_0
                  try clear hfz71_1
                  try clear hfz71_2
                  try clear hfz71_3
                  try clear hfz71_4
                  try clear hfz71_5
                  try clear hfz71_6
                  try clear hfz71_7
                  try clear hfz71_8
                  try clear hfz71_9
                  skip
                  skip
                  skip
                  skip
                  skip
                  skip
                  skip
                  skip
                  skip
                  skip
                  skip
                  skip
                  skip
                  skip
                  skip
                  skip
                  skip
                  skip
                  skip
                  skip
                  skip
                  skip
                  skip
                  skip
                  skip
                  skip
                  skip
                  skip
                  skip
                  skip
                  skip
                  skip
                  skip
                  skip
                  skip
                  skip
                  skip
                  skip
                  skip
                  skip
                  skip
                  obtain ⟨kq, x132_57, rfl, HA, HJ57, BK402, BK403, BK418, BK434, HB⟩ := hcut
                  cases kq with
                  | zero => exact absurd HA.out (by simp [capnpref08_Object.j1])
                  | succ kj57 =>
                    have H := HA.out
                    clear HA
                    simp only [capnpref08_Object.j1] at H
                    by_cases c89 : x132_57 = true
                    · subst c89
                      have H1 : (some (0, 0, 0, 0, 0, 0, 0, 0, 5)) = some (r1, r2, r3, r4, r5, r6, r7, r8, r9) := by rw [if_pos rfl] at H; exact H
                      clear H
                      have H := H1
                      clear H1
                      simp only [Option.some.injEq, Prod.mk.injEq] at H
                      obtain ⟨rfl, rfl, rfl, rfl, rfl, rfl, rfl, rfl, rfl⟩ := H
                      obtain ⟨hcz93_0, hcz93_1, hcz93_2, hcz93_3, hcz93_4, hcz93_5, hcz93_6, hcz93_7⟩ := cells8 BK402.out
                      obtain ⟨hfz93_0, hfz93_1, hfz93_2, hfz93_3, hfz93_4, hfz93_5, hfz93_6, hfz93_7⟩ := frz8 BK402.out
                      go_wp2
                      refine bodyPost_ret (results_ct rfl _ _ gb402 46 #[.int .i64 0, .int .i64 0, .int .i64 0, .int .i64 0, .int .i64 0, .int .i64 0, .int .i64 0, .int .i64 0] (0, 0) _ rfl (by exact put8 BK402.out) Tryd.underlying46 rfl (by kernel_rfl)) rfl ?_
                      exact ⟨by rfl, by repeat ((with_reducible first | exact HB.out | refine below_set ?_ GE402.out))⟩
                    · replace c89 := Bool.eq_false_iff.mpr c89
                      subst c89
                      have H1 : (if (wrap64 (t426 + t427)) = 0 then (some (2, t405, wrap64 ((wrap64 (t406 + t409)) + 1), t426, t427, t412, t425, wrap64 (t420 + t425), 0)) else (some (2, t405, wrap64 ((wrap64 (t406 + t409)) + 1), t426, t427, t412, t425, t420, 0))) = some (r1, r2, r3, r4, r5, r6, r7, r8, r9) := by rw [if_neg (show ¬ (false = true) by decide)] at H; exact H
                      clear H
                      have H := H1
                      clear H1
                      by_cases c94 : (wrap64 (t426 + t427)) = 0
                      · rw [if_pos c94] at H
                        have c94b0 : ((wrap64 (t426 + t427)) == 0) = true := beq_iff_eq.mpr c94
                        clear c94
                        simp only [Option.some.injEq, Prod.mk.injEq] at H
                        obtain ⟨rfl, rfl, rfl, rfl, rfl, rfl, rfl, rfl, rfl⟩ := H
                        have hnc95 := NB402_403.out
                        have hnb96 := NB403_418.out
                        have hnc96 := NB418_403.out
                        have hnb97 := NB403_434.out
                        have hnc97 := NB434_403.out
                        obtain ⟨hcz98_0, hcz98_1, hcz98_2, hcz98_3, hcz98_4, hcz98_5, hcz98_6, hcz98_7⟩ := cells8 BK403.out
                        obtain ⟨-, -, hfz98_2, hfz98_3, hfz98_4, -, hfz98_6, hfz98_7⟩ := frz8 BK403.out
                        have hnb99 := NB434_402.out
                        have hnc99 := NB402_434.out
                        have hnb100 := NB434_418.out
                        have hnc100 := NB418_434.out
                        obtain ⟨-, hcz101_1, hcz101_2, hcz101_3, -, -, -, -, -, -⟩ := cells10 BK434.out
                        have hnb102 := NB402_418.out
                        have hnc102 := NB418_402.out
                        obtain ⟨hcz103_0, hcz103_1, hcz103_2, hcz103_3, hcz103_4, hcz103_5, hcz103_6, hcz103_7⟩ := cells8 BK402.out
                        obtain ⟨hfz103_0, hfz103_1, hfz103_2, hfz103_3, hfz103_4, hfz103_5, hfz103_6, hfz103_7⟩ := frz8 BK402.out
                        go_wp2
                        refine bodyPost_ret (results_ct rfl _ _ gb402 46 #[.int .i64 2, .int .i64 t405, .int .i64 (wrap64 ((wrap64 (t406 + t409)) + 1)), .int .i64 t426, .int .i64 t427, .int .i64 t412, .int .i64 t425, .int .i64 (wrap64 (t420 + t425))] (0, 0) _ rfl (by apply put8; (iterate 5 refine blk_far ?_ NB402_403.out _); exact BK402.out) Tryd.underlying46 rfl (by kernel_rfl)) rfl ?_
                        exact ⟨by rfl, by repeat ((with_reducible first | exact HB.out | refine below_set ?_ GE402.out | refine below_set ?_ GE403.out))⟩
                      · rw [if_neg c94] at H
                        have c94b0 : ((wrap64 (t426 + t427)) == 0) = false := beq_eq_false_iff_ne.mpr c94
                        simp only [Option.some.injEq, Prod.mk.injEq] at H
                        obtain ⟨rfl, rfl, rfl, rfl, rfl, rfl, rfl, rfl, rfl⟩ := H
                        have hnc104 := NB402_403.out
                        have hnb105 := NB403_418.out
                        have hnc105 := NB418_403.out
                        have hnb106 := NB403_434.out
                        have hnc106 := NB434_403.out
                        obtain ⟨hcz107_0, hcz107_1, hcz107_2, hcz107_3, hcz107_4, hcz107_5, hcz107_6, hcz107_7⟩ := cells8 BK403.out
                        obtain ⟨-, -, hfz107_2, hfz107_3, hfz107_4, -, hfz107_6, -⟩ := frz8 BK403.out
                        have hnb108 := NB434_402.out
                        have hnc108 := NB402_434.out
                        have hnb109 := NB434_418.out
                        have hnc109 := NB418_434.out
                        obtain ⟨-, hcz110_1, hcz110_2, hcz110_3, -, -, -, -, -, -⟩ := cells10 BK434.out
                        have hnb111 := NB402_418.out
                        have hnc111 := NB418_402.out
                        obtain ⟨hcz112_0, hcz112_1, hcz112_2, hcz112_3, hcz112_4, hcz112_5, hcz112_6, hcz112_7⟩ := cells8 BK402.out
                        obtain ⟨hfz112_0, hfz112_1, hfz112_2, hfz112_3, hfz112_4, hfz112_5, hfz112_6, hfz112_7⟩ := frz8 BK402.out
                        go_wp2
                        refine bodyPost_ret (results_ct rfl _ _ gb402 46 #[.int .i64 2, .int .i64 t405, .int .i64 (wrap64 ((wrap64 (t406 + t409)) + 1)), .int .i64 t426, .int .i64 t427, .int .i64 t412, .int .i64 t425, .int .i64 t420] (0, 0) _ rfl (by apply put8; (iterate 4 refine blk_far ?_ NB402_403.out _); exact BK402.out) Tryd.underlying46 rfl (by kernel_rfl)) rfl ?_
                        exact ⟨by rfl, by repeat ((with_reducible first | exact HB.out | refine below_set ?_ GE402.out | refine below_set ?_ GE403.out))⟩
              · rw [if_neg c55] at H
                have c55b1 : (t412 != 7) = true := bne_iff_ne.mpr c55
                simp only [Option.some.injEq, Prod.mk.injEq] at H
                obtain ⟨rfl, rfl, rfl, rfl, rfl, rfl, rfl, rfl, rfl⟩ := H
                go_wp2_with (first | ((with_reducible refine gate_callee (f := 21) rfl ?_); refine goesL_ (some 36) rfl rfl Tryd.func21 (by kernel_rfl) rfl #[.int .u64 t404] rfl (by (try simp only [List.map_toArray, List.map_cons, List.map_nil]); rfl) ?_; (with_reducible refine (capnpref02_Decode.calls kj4 t404 t408 t409 t410 t411 t412 t413 t414 t415 t416 t417 _ A14.out).mono ?_); rintro e w113 ⟨rfl, hb⟩; refine ⟨_, rfl, ?_⟩; replace BK402 := Aside0.mk (blk_below BK402.out hb); replace BK403 := Aside0.mk (blk_below BK403.out hb); replace HB := Aside0.mk (below_step HB.out hb); (try clear hb)) | ((with_reducible refine gate_dst (N := 13) rfl ?_); refine box_event ?hg (N := 13) ?hd (cs := #[.int .i64 0, .int .i64 0, .int .i64 0, .int .i64 0, .int .i64 0, .int .i64 0, .bool false, .int .i64 0, .int .u32 0, .int .u32 0]) (t := 39) ?hr ?_; (case hd => rfl); (case hg => rfl); (case hr => (go_simp; done)); intro gb418 hg w114 hbox hb; replace BK418 := Aside0.mk (hbox); replace GE418 := Aside0.mk (ge_of HB.out hg); replace HB := Aside0.mk (below_step HB.out hb); replace NB402_418 := Aside0.mk (ne_l BK402.out hg); replace BK402 := Aside0.mk (blk_below BK402.out hb); replace NB403_418 := Aside0.mk (ne_l BK403.out hg); replace NB418_403 := Aside0.mk (ne_r BK403.out hg); replace BK403 := Aside0.mk (blk_below BK403.out hb); clear hb hbox hg; have hnc115 := NB402_418.out; have hnb116 := NB418_403.out; have hnc116 := NB403_418.out; obtain ⟨hcz117_0, hcz117_1, hcz117_2, hcz117_3, hcz117_4, hcz117_5, hcz117_6, hcz117_7, hcz117_8, hcz117_9⟩ := cells10 BK418.out; obtain ⟨hfz117_0, hfz117_1, hfz117_2, hfz117_3, hfz117_4, hfz117_5, hfz117_6, hfz117_7, hfz117_8, hfz117_9⟩ := frz10 BK418.out; have hnb118 := NB403_402.out; have hnc118 := NB402_403.out; obtain ⟨hcz119_0, hcz119_1, hcz119_2, hcz119_3, hcz119_4, hcz119_5, hcz119_6, hcz119_7⟩ := cells8 BK403.out; obtain ⟨hfz119_0, hfz119_1, hfz119_2, -, -, hfz119_5, hfz119_6, hfz119_7⟩ := frz8 BK403.out) | ((with_reducible refine gate_callee (f := 45) rfl ?_); refine goesL_ (some 89) rfl rfl Tryd.func45 (by kernel_rfl) rfl #[.int .i64 t412, .int .i64 t413] rfl (by (try simp only [List.map_toArray, List.map_cons, List.map_nil]); rfl) ?_; (with_reducible refine (capnpref06_Words.calls t412 t413 t420 _ A52.out).mono ?_); rintro e w' ⟨rfl, ⟨nd, rfl⟩⟩; refine ⟨_, rfl, ?_⟩) | ((with_reducible refine gate_callee (f := 30) rfl ?_); refine goesL_ (some 96) rfl rfl Tryd.func30 (by kernel_rfl) rfl #[.slice A0 l0.length c0, .int .i64 t405, .int .i64 (wrap64 (t406 + t409)), .int .i64 t420] rfl (by (try simp only [List.map_toArray, List.map_cons, List.map_nil]); rfl) ?_; (with_reducible refine (capnpref05_InBounds.calls _ _ l0 t405 (wrap64 (t406 + t409)) t420 true _ ?side1 ?side2 A53.out).mono ?_); (case side1 => exact Kd.C_below HR0.out (by repeat ((with_reducible first | exact HB.out | apply pw_below_drewN | refine below_set ?_ GE403.out | refine below_set ?_ GE418.out)))); (case side2 => exact HC0.out); rintro e w' ⟨rfl, ⟨nd, rfl⟩⟩; refine ⟨_, rfl, ?_⟩; obtain ⟨hcz120_0, hcz120_1, hcz120_2, hcz120_3, hcz120_4, hcz120_5, hcz120_6, hcz120_7⟩ := cells8 BK402.out; obtain ⟨hfz120_0, hfz120_1, hfz120_2, hfz120_3, hfz120_4, hfz120_5, hfz120_6, hfz120_7⟩ := frz8 BK402.out))
                refine bodyPost_ret (results_ct rfl _ _ gb402 46 #[.int .i64 2, .int .i64 t405, .int .i64 (wrap64 (t406 + t409)), .int .i64 0, .int .i64 0, .int .i64 t412, .int .i64 t413, .int .i64 t420] (0, 0) _ rfl (by apply put8; (with_reducible repeat ((refine blk_drewN ?_ _))); refine blk_far ?_ NB402_403.out _; (with_reducible repeat ((refine blk_drewN ?_ _))); (iterate 5 refine blk_far ?_ NB402_403.out _); (iterate 10 refine blk_far ?_ NB402_418.out _); exact BK402.out) Tryd.underlying46 rfl (by kernel_rfl)) rfl ?_
                exact ⟨by rfl, by repeat ((with_reducible first | exact HB.out | apply pw_below_drewN | refine below_set ?_ GE402.out | refine below_set ?_ GE403.out | refine below_set ?_ GE418.out))⟩
            · replace c54 := Bool.eq_false_iff.mpr c54
              subst c54
              have H1 : (some (0, 0, 0, 0, 0, 0, 0, 0, 2)) = some (r1, r2, r3, r4, r5, r6, r7, r8, r9) := by rw [if_neg (show ¬ (false = true) by decide)] at H; exact H
              clear H
              have H := H1
              clear H1
              simp only [Option.some.injEq, Prod.mk.injEq] at H
              obtain ⟨rfl, rfl, rfl, rfl, rfl, rfl, rfl, rfl, rfl⟩ := H
              go_wp2_with (first | ((with_reducible refine gate_callee (f := 21) rfl ?_); refine goesL_ (some 36) rfl rfl Tryd.func21 (by kernel_rfl) rfl #[.int .u64 t404] rfl (by (try simp only [List.map_toArray, List.map_cons, List.map_nil]); rfl) ?_; (with_reducible refine (capnpref02_Decode.calls kj4 t404 t408 t409 t410 t411 t412 t413 t414 t415 t416 t417 _ A14.out).mono ?_); rintro e w121 ⟨rfl, hb⟩; refine ⟨_, rfl, ?_⟩; replace BK402 := Aside0.mk (blk_below BK402.out hb); replace BK403 := Aside0.mk (blk_below BK403.out hb); replace HB := Aside0.mk (below_step HB.out hb); (try clear hb)) | ((with_reducible refine gate_dst (N := 13) rfl ?_); refine box_event ?hg (N := 13) ?hd (cs := #[.int .i64 0, .int .i64 0, .int .i64 0, .int .i64 0, .int .i64 0, .int .i64 0, .bool false, .int .i64 0, .int .u32 0, .int .u32 0]) (t := 39) ?hr ?_; (case hd => rfl); (case hg => rfl); (case hr => (go_simp; done)); intro gb418 hg w122 hbox hb; replace BK418 := Aside0.mk (hbox); replace GE418 := Aside0.mk (ge_of HB.out hg); replace HB := Aside0.mk (below_step HB.out hb); replace NB402_418 := Aside0.mk (ne_l BK402.out hg); replace BK402 := Aside0.mk (blk_below BK402.out hb); replace NB403_418 := Aside0.mk (ne_l BK403.out hg); replace NB418_403 := Aside0.mk (ne_r BK403.out hg); replace BK403 := Aside0.mk (blk_below BK403.out hb); clear hb hbox hg; have hnc123 := NB402_418.out; have hnb124 := NB418_403.out; have hnc124 := NB403_418.out; obtain ⟨hcz125_0, hcz125_1, hcz125_2, hcz125_3, hcz125_4, hcz125_5, hcz125_6, hcz125_7, hcz125_8, hcz125_9⟩ := cells10 BK418.out; obtain ⟨hfz125_0, hfz125_1, hfz125_2, hfz125_3, hfz125_4, hfz125_5, hfz125_6, hfz125_7, hfz125_8, hfz125_9⟩ := frz10 BK418.out; have hnb126 := NB403_402.out; have hnc126 := NB402_403.out; obtain ⟨hcz127_0, hcz127_1, hcz127_2, -, -, hcz127_5, hcz127_6, hcz127_7⟩ := cells8 BK403.out; obtain ⟨hfz127_0, hfz127_1, hfz127_2, -, -, hfz127_5, hfz127_6, hfz127_7⟩ := frz8 BK403.out) | ((with_reducible refine gate_callee (f := 45) rfl ?_); refine goesL_ (some 89) rfl rfl Tryd.func45 (by kernel_rfl) rfl #[.int .i64 t412, .int .i64 t413] rfl (by (try simp only [List.map_toArray, List.map_cons, List.map_nil]); rfl) ?_; (with_reducible refine (capnpref06_Words.calls t412 t413 t420 _ A52.out).mono ?_); rintro e w' ⟨rfl, ⟨nd, rfl⟩⟩; refine ⟨_, rfl, ?_⟩) | ((with_reducible refine gate_callee (f := 30) rfl ?_); refine goesL_ (some 96) rfl rfl Tryd.func30 (by kernel_rfl) rfl #[.slice A0 l0.length c0, .int .i64 t405, .int .i64 (wrap64 (t406 + t409)), .int .i64 t420] rfl (by (try simp only [List.map_toArray, List.map_cons, List.map_nil]); rfl) ?_; (with_reducible refine (capnpref05_InBounds.calls _ _ l0 t405 (wrap64 (t406 + t409)) t420 false _ ?side1 ?side2 A53.out).mono ?_); (case side1 => exact Kd.C_below HR0.out (by repeat ((with_reducible first | exact HB.out | apply pw_below_drewN | refine below_set ?_ GE403.out | refine below_set ?_ GE418.out)))); (case side2 => exact HC0.out); rintro e w' ⟨rfl, ⟨nd, rfl⟩⟩; refine ⟨_, rfl, ?_⟩; obtain ⟨hcz128_0, hcz128_1, hcz128_2, hcz128_3, hcz128_4, hcz128_5, hcz128_6, hcz128_7⟩ := cells8 BK402.out; obtain ⟨hfz128_0, hfz128_1, hfz128_2, hfz128_3, hfz128_4, hfz128_5, hfz128_6, hfz128_7⟩ := frz8 BK402.out))
              refine bodyPost_ret (results_ct rfl _ _ gb402 46 #[.int .i64 0, .int .i64 0, .int .i64 0, .int .i64 0, .int .i64 0, .int .i64 0, .int .i64 0, .int .i64 0] (0, 0) _ rfl (by apply put8; (with_reducible repeat ((refine blk_drewN ?_ _))); refine blk_far ?_ NB402_403.out _; (with_reducible repeat ((refine blk_drewN ?_ _))); (iterate 5 refine blk_far ?_ NB402_403.out _); (iterate 10 refine blk_far ?_ NB402_418.out _); exact BK402.out) Tryd.underlying46 rfl (by kernel_rfl)) rfl ?_
              exact ⟨by rfl, by repeat ((with_reducible first | exact HB.out | apply pw_below_drewN | refine below_set ?_ GE402.out | refine below_set ?_ GE403.out | refine below_set ?_ GE418.out))⟩

end Go.Proofs.YtcjhejopcghgnaaDoor.P

namespace Go.Proofs.YtcjhejopcghgnaaDoor.P
open Go.RowKit Go.Proofs.YtcjhejopcghgnaaDoorW.PrintWords Go.Proofs.YtcjhejopcghgnaaDoorW.PrintLast Go.Proofs.YtcjhejopcghgnaaDoorW.PrintMore
attribute [local go_sem] max2_int min2_int max_two min_two max_three min_three max_four min_four   -- for this text's walks alone
set_option linter.unusedVariables false
set_option linter.unusedSimpArgs false

variable {gb : Bool}
/-! ### capnpref08_Pointers: function 27 -/
def capnpref08_Pointers.j0 : Nat → Bool → Int → Int → Int → Int → Int → Int → Int → Int → Option (Int × Int)
  | 0, _, _, _, _, _, _, _, _, _ => none
  | k + 1, x11, x436000, x436001, x436002, x436003, x436004, x436005, x436006, x436007 => if x11 = true then (some (wrap64 (x436002 + x436003), x436004)) else (if x436000 = 2 then (if x436005 = 6 then (if x436006 > 0 then (some (x436002, x436006)) else (some (0, 0))) else (some (0, 0))) else (some (0, 0)))
def capnpref08_Pointers.f (k : Nat) (a0_0 a0_1 a0_2 a0_3 a0_4 a0_5 a0_6 a0_7 : Int) : Option (Int × Int) := if a0_0 = 1 then (capnpref08_Pointers.j0 k (decide (a0_4 > 0)) a0_0 a0_1 a0_2 a0_3 a0_4 a0_5 a0_6 a0_7) else (capnpref08_Pointers.j0 k false a0_0 a0_1 a0_2 a0_3 a0_4 a0_5 a0_6 a0_7)
theorem capnpref08_Pointers.mono_l : ∀ k, (∀ y0 y1 y2 y3 y4 y5 y6 y7 y8, LeO (capnpref08_Pointers.j0 k y0 y1 y2 y3 y4 y5 y6 y7 y8) (capnpref08_Pointers.j0 (k + 1) y0 y1 y2 y3 y4 y5 y6 y7 y8))
  | 0 => fun _ _ _ _ _ _ _ _ _ r h => by simp [capnpref08_Pointers.j0] at h
  | k + 1 => by
    · intro y0 y1 y2 y3 y4 y5 y6 y7 y8
      unfold capnpref08_Pointers.j0
      repeat' (with_reducible exact LeO.refl _)
theorem capnpref08_Pointers.mono : ∀ a0 a1 a2 a3 a4 a5 a6 a7 k, LeO (capnpref08_Pointers.f k a0 a1 a2 a3 a4 a5 a6 a7) (capnpref08_Pointers.f (k + 1) a0 a1 a2 a3 a4 a5 a6 a7) := by
  intro a0 a1 a2 a3 a4 a5 a6 a7 k
  have ih0 := capnpref08_Pointers.mono_l k
  unfold capnpref08_Pointers.f
  repeat' first
      | (with_reducible apply ih0)
      | (with_reducible refine LeO.ite ?_ ?_)
set_option maxHeartbeats 8000000 in
set_option maxRecDepth 100000 in
theorem capnpref08_Pointers.calls (k : Nat) (a0_0 a0_1 a0_2 a0_3 a0_4 a0_5 a0_6 a0_7 r1 r2 : Int) (w : World) (h : capnpref08_Pointers.f k a0_0 a0_1 a0_2 a0_3 a0_4 a0_5 a0_6 a0_7 = some (r1, r2)) :
    Calls Tryd.prog 27 #[.agg #[.int .i64 a0_0, .int .i64 a0_1, .int .i64 a0_2, .int .i64 a0_3, .int .i64 a0_4, .int .i64 a0_5, .int .i64 a0_6, .int .i64 a0_7]] w fun e w' => e = .returned (.tuple #[.int .i64 r1, .int .i64 r2]) ∧ Below w.heap.size w w' := by
  have HB := Aside0.mk (Below.refl w.heap.size w)
  have H : (if a0_0 = 1 then (capnpref08_Pointers.j0 k (decide (a0_4 > 0)) a0_0 a0_1 a0_2 a0_3 a0_4 a0_5 a0_6 a0_7) else (capnpref08_Pointers.j0 k false a0_0 a0_1 a0_2 a0_3 a0_4 a0_5 a0_6 a0_7)) = some (r1, r2) := h
  clear h
  have HC2 := Aside0.mk H
  clear H
  go_enter Tryd.func27, Tryd.ntmps27
  go_upto_region 1 with (((with_reducible refine gate_dst (N := 1) rfl ?_); refine box_event ?hg (N := 1) ?hd (cs := #[.int .i64 a0_0, .int .i64 a0_1, .int .i64 a0_2, .int .i64 a0_3, .int .i64 a0_4, .int .i64 a0_5, .int .i64 a0_6, .int .i64 a0_7]) (t := 46) ?hr ?_; (case hd => rfl); (case hg => rfl); (case hr => (go_simp; done)); intro gb435 hg w3 hbox hb; replace HB := Aside0.mk (below_step HB.out hb); replace BK435 := Aside0.mk (hbox); clear hb hbox hg))
  repeat (go_quiet (first | ((with_reducible refine gate_dst (N := 1) rfl ?_); refine box_event ?hg (N := 1) ?hd (cs := #[.int .i64 a0_0, .int .i64 a0_1, .int .i64 a0_2, .int .i64 a0_3, .int .i64 a0_4, .int .i64 a0_5, .int .i64 a0_6, .int .i64 a0_7]) (t := 46) ?hr ?_; (case hd => rfl); (case hg => rfl); (case hr => first | (go_simp; done) | (go_simp; rfl)); intro gb435 hg w3 hbox hb; replace BK435 := Aside0.mk (hbox); replace GW435 := Aside0.mk ((by rw [hg]; exact (below_size (by repeat (first | (with_reducible first | exact HB.out | apply below_alloc | apply pw_below_drewN | apply below_drew1) | exact HB.out))) : w.heap.size ≤ gb435)); replace GE435 := Aside0.mk ((by rw [hg]; exact (below_size (by repeat (first | (with_reducible first | exact HB.out | apply below_alloc | apply pw_below_drewN | apply below_drew1) | exact HB.out))) : w.heap.size ≤ gb435)); replace HB := Aside0.mk (below_step (by repeat (first | (with_reducible first | exact HB.out | apply below_alloc | apply pw_below_drewN | apply below_drew1) | exact HB.out)) hb); clear hb hbox hg)); go_upto_region 1 with (first | ((with_reducible refine gate_dst (N := 1) rfl ?_); refine box_event ?hg (N := 1) ?hd (cs := #[.int .i64 a0_0, .int .i64 a0_1, .int .i64 a0_2, .int .i64 a0_3, .int .i64 a0_4, .int .i64 a0_5, .int .i64 a0_6, .int .i64 a0_7]) (t := 46) ?hr ?_; (case hd => rfl); (case hg => rfl); (case hr => first | (go_simp; done) | (go_simp; rfl)); intro gb435 hg w3 hbox hb; replace BK435 := Aside0.mk (hbox); replace GW435 := Aside0.mk ((by rw [hg]; exact (below_size (by repeat (first | (with_reducible first | exact HB.out | apply below_alloc | apply pw_below_drewN | apply below_drew1) | exact HB.out))) : w.heap.size ≤ gb435)); replace GE435 := Aside0.mk ((by rw [hg]; exact (below_size (by repeat (first | (with_reducible first | exact HB.out | apply below_alloc | apply pw_below_drewN | apply below_drew1) | exact HB.out))) : w.heap.size ≤ gb435)); replace HB := Aside0.mk (below_step (by repeat (first | (with_reducible first | exact HB.out | apply below_alloc | apply pw_below_drewN | apply below_drew1) | exact HB.out)) hb); clear hb hbox hg)))
  (skip)
  go_cut [11] (fun v11 wc => ∃ (kq : Nat) (x11_1 : Bool), v11 = .bool x11_1 ∧ Aside0 (capnpref08_Pointers.j0 kq x11_1 a0_0 a0_1 a0_2 a0_3 a0_4 a0_5 a0_6 a0_7 = some (r1, r2)) ∧ Aside0 (kq ≤ k) ∧ Aside0 (wc.heap[gb435]? = some (.cells #[.int .i64 a0_0, .int .i64 a0_1, .int .i64 a0_2, .int .i64 a0_3, .int .i64 a0_4, .int .i64 a0_5, .int .i64 a0_6, .int .i64 a0_7] 46 (0, 0))) ∧ Aside0 (Below w.heap.size w wc))
  case first =>
    have H := HC2.out
    clear HC2
    by_cases c4 : a0_0 = 1
    · rw [if_pos c4] at H
      have c4b0 : (a0_0 == 1) = true := beq_iff_eq.mpr c4
      clear c4
      (skip)
      have H' := Aside0.mk H
      clear H
      obtain ⟨hcz5_0, -, -, -, hcz5_4, -, -, -⟩ := cells8 BK435.out
      go_wp2
      repeat (go_quiet (fail); try go_wp2)
      go_meet
      case rel => exact ⟨_, (decide (a0_4 > 0)), (by rfl), H', ⟨by omega⟩, ⟨by exact BK435.out⟩, ⟨by repeat ((with_reducible exact HB.out))⟩⟩
    · rw [if_neg c4] at H
      have c4b0 : (a0_0 == 1) = false := beq_eq_false_iff_ne.mpr c4
      (skip)
      have H' := Aside0.mk H
      clear H
      have hcz6_0 : w3.cell? ⟨gb435, 0, none⟩ = some (.int .i64 a0_0) := (blk_cell BK435.out 0).trans rfl
      go_wp2
      repeat (go_quiet (fail); try go_wp2)
      go_meet
      case rel => exact ⟨_, (false), (by rfl), H', ⟨by omega⟩, ⟨by exact BK435.out⟩, ⟨by repeat ((with_reducible exact HB.out))⟩⟩
  case rest =>
    clear HC2
    skip
    skip
    skip
    skip
    skip
    skip
    skip
    skip
    skip
    skip
    skip
    skip
    skip
    skip
    skip
    skip
    skip
    skip
    skip
    skip
    skip
    skip
    skip
    skip
    skip
    skip
    skip
    skip
    skip
    skip
    skip
    skip
    skip
    skip
    skip
    skip
    skip
    obtain ⟨kq, x11_1, rfl, HA, HJ1, BK435, HB⟩ := hcut
    cases kq with
    | zero => exact absurd HA.out (by simp [capnpref08_Pointers.j0])
    | succ kj1 =>
      have H := HA.out
      clear HA
      simp only [capnpref08_Pointers.j0] at H
      by_cases c7 : x11_1 = true
      · subst c7
        have H1 : (some (wrap64 (a0_2 + a0_3), a0_4)) = some (r1, r2) := by rw [if_pos rfl] at H; exact H
        clear H
        have H := H1
        clear H1
        simp only [Option.some.injEq, Prod.mk.injEq] at H
        obtain ⟨rfl, rfl⟩ := H
        obtain ⟨-, -, hcz8_2, hcz8_3, hcz8_4, -, -, -⟩ := cells8 BK435.out
        go_wp2
        repeat (go_quiet (fail); try go_wp2)
        go_ret2
        exact ⟨by rfl, by repeat ((with_reducible first | exact HB.out | apply pw_below_drewN))⟩
      · replace c7 := Bool.eq_false_iff.mpr c7
        subst c7
        have H1 : (if a0_0 = 2 then (if a0_5 = 6 then (if a0_6 > 0 then (some (a0_2, a0_6)) else (some (0, 0))) else (some (0, 0))) else (some (0, 0))) = some (r1, r2) := by rw [if_neg (show ¬ (false = true) by decide)] at H; exact H
        clear H
        have H := H1
        clear H1
        by_cases c9 : a0_0 = 2
        · rw [if_pos c9] at H
          have c9b0 : (a0_0 == 2) = true := beq_iff_eq.mpr c9
          clear c9
          by_cases c10 : a0_5 = 6
          · rw [if_pos c10] at H
            have c10b0 : (a0_5 == 6) = true := beq_iff_eq.mpr c10
            clear c10
            by_cases c11 : a0_6 > 0
            · rw [if_pos c11] at H
              have c11b0 : decide (0 < a0_6) = true := decide_eq_true c11
              clear c11
              simp only [Option.some.injEq, Prod.mk.injEq] at H
              obtain ⟨rfl, rfl⟩ := H
              obtain ⟨hcz12_0, -, hcz12_2, -, -, hcz12_5, hcz12_6, -⟩ := cells8 BK435.out
              go_wp2
              repeat (go_quiet (fail); try go_wp2)
              go_ret2
              exact ⟨by rfl, by repeat ((with_reducible first | exact HB.out | apply pw_below_drewN))⟩
            · rw [if_neg c11] at H
              have c11b0 : decide (0 < a0_6) = false := decide_eq_false c11
              clear c11
              simp only [Option.some.injEq, Prod.mk.injEq] at H
              obtain ⟨rfl, rfl⟩ := H
              obtain ⟨hcz13_0, -, -, -, -, hcz13_5, hcz13_6, -⟩ := cells8 BK435.out
              go_wp2
              repeat (go_quiet (fail); try go_wp2)
              go_ret2
              exact ⟨by rfl, by repeat ((with_reducible exact HB.out))⟩
          · rw [if_neg c10] at H
            have c10b0 : (a0_5 == 6) = false := beq_eq_false_iff_ne.mpr c10
            simp only [Option.some.injEq, Prod.mk.injEq] at H
            obtain ⟨rfl, rfl⟩ := H
            obtain ⟨hcz14_0, -, -, -, -, hcz14_5, -, -⟩ := cells8 BK435.out
            go_wp2
            repeat (go_quiet (fail); try go_wp2)
            go_ret2
            exact ⟨by rfl, by repeat ((with_reducible exact HB.out))⟩
        · rw [if_neg c9] at H
          have c9b0 : (a0_0 == 2) = false := beq_eq_false_iff_ne.mpr c9
          simp only [Option.some.injEq, Prod.mk.injEq] at H
          obtain ⟨rfl, rfl⟩ := H
          have hcz15_0 : wc.cell? ⟨gb435, 0, none⟩ = some (.int .i64 a0_0) := (blk_cell BK435.out 0).trans rfl
          go_wp2
          repeat (go_quiet (fail); try go_wp2)
          go_ret2
          exact ⟨by rfl, by repeat ((with_reducible exact HB.out))⟩

end Go.Proofs.YtcjhejopcghgnaaDoor.P

namespace Go.Proofs.YtcjhejopcghgnaaDoor.P
open Go.RowKit Go.Proofs.YtcjhejopcghgnaaDoorW.PrintWords Go.Proofs.YtcjhejopcghgnaaDoorW.PrintLast Go.Proofs.YtcjhejopcghgnaaDoorW.PrintMore
attribute [local go_sem] max2_int min2_int max_two min_two max_three min_three max_four min_four   -- for this text's walks alone
set_option linter.unusedVariables false
set_option linter.unusedSimpArgs false

variable {gb : Bool}
/-! ### capnpref08_Element: function 29 -/
def capnpref08_Element.f (a0_0 : Int) (a0_1 : Int) (a0_2 : Int) (a0_3 : Int) (a0_4 : Int) (a0_5 : Int) (a0_6 : Int) (a0_7 : Int) (a1 : Int) : Option (Int × Int × Int × Int × Int × Int × Int × Int) := some (1, a0_1, wrap64 (a0_2 + (wrap64 (a1 * (wrap64 (a0_3 + a0_4))))), a0_3, a0_4, 0, 0, 0)
set_option maxHeartbeats 8000000 in
set_option maxRecDepth 100000 in
theorem capnpref08_Element.calls (a0_0 : Int) (a0_1 : Int) (a0_2 : Int) (a0_3 : Int) (a0_4 : Int) (a0_5 : Int) (a0_6 : Int) (a0_7 : Int) (a1 : Int) (r1 : Int) (r2 : Int) (r3 : Int) (r4 : Int) (r5 : Int) (r6 : Int) (r7 : Int) (r8 : Int) (w : World) (h : capnpref08_Element.f a0_0 a0_1 a0_2 a0_3 a0_4 a0_5 a0_6 a0_7 a1 = some (r1, r2, r3, r4, r5, r6, r7, r8)) :
    Calls Tryd.prog 29 #[.agg #[.int .i64 a0_0, .int .i64 a0_1, .int .i64 a0_2, .int .i64 a0_3, .int .i64 a0_4, .int .i64 a0_5, .int .i64 a0_6, .int .i64 a0_7], .int .i64 a1] w fun e w' => e = .returned (.agg #[.int .i64 r1, .int .i64 r2, .int .i64 r3, .int .i64 r4, .int .i64 r5, .int .i64 r6, .int .i64 r7, .int .i64 r8]) ∧ Below w.heap.size w w' := by
  have HB := Aside0.mk (Below.refl w.heap.size w)
  have H : (some (1, a0_1, wrap64 (a0_2 + (wrap64 (a1 * (wrap64 (a0_3 + a0_4))))), a0_3, a0_4, 0, 0, 0)) = some (r1, r2, r3, r4, r5, r6, r7, r8) := h
  clear h
  simp only [Option.some.injEq, Prod.mk.injEq] at H
  obtain ⟨rfl, rfl, rfl, rfl, rfl, rfl, rfl, rfl⟩ := H
  go_enter Tryd.func29, Tryd.ntmps29
  go_wp2_with (first | ((with_reducible refine gate_dst (N := 2) rfl ?_); refine box_event ?hg (N := 2) ?hd (cs := #[.int .i64 a0_0, .int .i64 a0_1, .int .i64 a0_2, .int .i64 a0_3, .int .i64 a0_4, .int .i64 a0_5, .int .i64 a0_6, .int .i64 a0_7]) (t := 46) ?hr ?_; (case hd => rfl); (case hg => rfl); (case hr => (go_simp; done)); intro gb436 hg w3 hbox hb; have n0_ := Aside0.mk (below_step HB.out hb); have n1_ := Aside0.mk (hbox); clear HB; have HB := n0_; have BK436 := n1_; (try clear n0_; try clear n1_; try clear n2_; try clear n3_); clear hb hbox hg) | ((with_reducible refine gate_dst (N := 4) rfl ?_); refine box_event ?hg (N := 4) ?hd (cs := #[.int .i64 0, .int .i64 0, .int .i64 0, .int .i64 0, .int .i64 0, .int .i64 0, .int .i64 0, .int .i64 0]) (t := 46) ?hr ?_; (case hd => rfl); (case hg => rfl); (case hr => (go_simp; done)); intro gb437 hg w4 hbox hb; have n0_ := Aside0.mk (blk_below (g := gb436) (o := .cells #[.int .i64 a0_0, .int .i64 a0_1, .int .i64 a0_2, .int .i64 a0_3, .int .i64 a0_4, .int .i64 a0_5, .int .i64 a0_6, .int .i64 a0_7] 46 (0, 0)) BK436.out hb); have n1_ := Aside0.mk (below_step HB.out hb); have n2_ := Aside0.mk (hbox); have n4_ := Aside0.mk ((by rw [hg]; exact (below_size HB.out) : w.heap.size ≤ gb437)); have n5_ := Aside0.mk ((by rw [hg]; exact Nat.ne_of_lt (blk_lt (g := gb436) (o := .cells #[.int .i64 a0_0, .int .i64 a0_1, .int .i64 a0_2, .int .i64 a0_3, .int .i64 a0_4, .int .i64 a0_5, .int .i64 a0_6, .int .i64 a0_7] 46 (0, 0)) BK436.out) : gb436 ≠ gb437)); have n6_ := Aside0.mk ((by rw [hg]; exact Nat.ne_of_gt (blk_lt (g := gb436) (o := .cells #[.int .i64 a0_0, .int .i64 a0_1, .int .i64 a0_2, .int .i64 a0_3, .int .i64 a0_4, .int .i64 a0_5, .int .i64 a0_6, .int .i64 a0_7] 46 (0, 0)) BK436.out) : gb437 ≠ gb436)); clear BK436; clear HB; have BK436 := n0_; have HB := n1_; have BK437 := n2_; have GE437 := n4_; have NB436_437 := n5_; have NB437_436 := n6_; (try clear n0_; try clear n1_; try clear n2_; try clear n3_; try clear n4_; try clear n5_; try clear n6_); clear hb hbox hg) | ((with_reducible refine gate_dst (N := 5) rfl ?_); refine box_event ?hg (N := 5) ?hd (cs := #[.int .i64 0, .int .i64 0, .int .i64 0, .int .i64 0, .int .i64 0, .int .i64 0, .int .i64 0, .int .i64 0]) (t := 46) ?hr ?_; (case hd => rfl); (case hg => rfl); (case hr => (go_simp; done)); intro gb438 hg w5 hbox hb; have n0_ := Aside0.mk (blk_below (g := gb436) (o := .cells #[.int .i64 a0_0, .int .i64 a0_1, .int .i64 a0_2, .int .i64 a0_3, .int .i64 a0_4, .int .i64 a0_5, .int .i64 a0_6, .int .i64 a0_7] 46 (0, 0)) BK436.out hb); have n1_ := Aside0.mk (blk_below (g := gb437) (o := .cells #[.int .i64 0, .int .i64 0, .int .i64 0, .int .i64 0, .int .i64 0, .int .i64 0, .int .i64 0, .int .i64 0] 46 (0, 0)) BK437.out hb); have n2_ := Aside0.mk (below_step HB.out hb); have n3_ := Aside0.mk (hbox); have n5_ := Aside0.mk ((by rw [hg]; exact (below_size HB.out) : w.heap.size ≤ gb438)); have n8_ := Aside0.mk ((by rw [hg]; exact Nat.ne_of_lt (blk_lt (g := gb437) (o := .cells #[.int .i64 0, .int .i64 0, .int .i64 0, .int .i64 0, .int .i64 0, .int .i64 0, .int .i64 0, .int .i64 0] 46 (0, 0)) BK437.out) : gb437 ≠ gb438)); clear BK436; clear BK437; clear HB; have BK436 := n0_; have BK437 := n1_; have HB := n2_; have BK438 := n3_; have GE438 := n5_; have NB437_438 := n8_; (try clear n0_; try clear n1_; try clear n2_; try clear n3_; try clear n4_; try clear n5_; try clear n6_; try clear n7_; try clear n8_; try clear n9_); clear hb hbox hg; have hnc7 := NB437_438.out; have hcz8_0 : w5.cell? ⟨gb438, 0, none⟩ = some (.int .i64 0) := (blk_cell BK438.out 0).trans rfl; have hcz8_1 : w5.cell? ⟨gb438, 1, none⟩ = some (.int .i64 0) := (blk_cell BK438.out 1).trans rfl; have hcz8_2 : w5.cell? ⟨gb438, 2, none⟩ = some (.int .i64 0) := (blk_cell BK438.out 2).trans rfl; have hcz8_3 : w5.cell? ⟨gb438, 3, none⟩ = some (.int .i64 0) := (blk_cell BK438.out 3).trans rfl; have hcz8_4 : w5.cell? ⟨gb438, 4, none⟩ = some (.int .i64 0) := (blk_cell BK438.out 4).trans rfl; have hcz8_5 : w5.cell? ⟨gb438, 5, none⟩ = some (.int .i64 0) := (blk_cell BK438.out 5).trans rfl; have hcz8_6 : w5.cell? ⟨gb438, 6, none⟩ = some (.int .i64 0) := (blk_cell BK438.out 6).trans rfl; have hcz8_7 : w5.cell? ⟨gb438, 7, none⟩ = some (.int .i64 0) := (blk_cell BK438.out 7).trans rfl; have hfz8_0 := blk_frozen BK438.out 0; have hfz8_1 := blk_frozen BK438.out 1; have hfz8_2 := blk_frozen BK438.out 2; have hfz8_3 := blk_frozen BK438.out 3; have hfz8_4 := blk_frozen BK438.out 4; have hnb9 := NB436_437.out; have hnc9 := NB437_436.out; have hcz10_1 : w5.cell? ⟨gb436, 1, none⟩ = some (.int .i64 a0_1) := (blk_cell BK436.out 1).trans rfl; have hcz10_2 : w5.cell? ⟨gb436, 2, none⟩ = some (.int .i64 a0_2) := (blk_cell BK436.out 2).trans rfl; have hcz10_3 : w5.cell? ⟨gb436, 3, none⟩ = some (.int .i64 a0_3) := (blk_cell BK436.out 3).trans rfl; have hcz10_4 : w5.cell? ⟨gb436, 4, none⟩ = some (.int .i64 a0_4) := (blk_cell BK436.out 4).trans rfl; have hcz11_0 : w5.cell? ⟨gb437, 0, none⟩ = some (.int .i64 0) := (blk_cell BK437.out 0).trans rfl; have hcz11_1 : w5.cell? ⟨gb437, 1, none⟩ = some (.int .i64 0) := (blk_cell BK437.out 1).trans rfl; have hcz11_2 : w5.cell? ⟨gb437, 2, none⟩ = some (.int .i64 0) := (blk_cell BK437.out 2).trans rfl; have hcz11_3 : w5.cell? ⟨gb437, 3, none⟩ = some (.int .i64 0) := (blk_cell BK437.out 3).trans rfl; have hcz11_4 : w5.cell? ⟨gb437, 4, none⟩ = some (.int .i64 0) := (blk_cell BK437.out 4).trans rfl; have hcz11_5 : w5.cell? ⟨gb437, 5, none⟩ = some (.int .i64 0) := (blk_cell BK437.out 5).trans rfl; have hcz11_6 : w5.cell? ⟨gb437, 6, none⟩ = some (.int .i64 0) := (blk_cell BK437.out 6).trans rfl; have hcz11_7 : w5.cell? ⟨gb437, 7, none⟩ = some (.int .i64 0) := (blk_cell BK437.out 7).trans rfl; have hfz11_0 := blk_frozen BK437.out 0; have hfz11_1 := blk_frozen BK437.out 1; have hfz11_2 := blk_frozen BK437.out 2; have hfz11_3 := blk_frozen BK437.out 3; have hfz11_4 := blk_frozen BK437.out 4; have hfz11_5 := blk_frozen BK437.out 5; have hfz11_6 := blk_frozen BK437.out 6; have hfz11_7 := blk_frozen BK437.out 7))
  refine bodyPost_ret (results_cell_row rfl _ _ gb437 46 #[.int .i64 1, .int .i64 a0_1, .int .i64 (wrap64 (a0_2 + (wrap64 (a1 * (wrap64 (a0_3 + a0_4)))))), .int .i64 a0_3, .int .i64 a0_4, .int .i64 0, .int .i64 0, .int .i64 0] (0, 0) _ rfl (by refine blk_put (cs := #[.int .i64 1, .int .i64 a0_1, .int .i64 (wrap64 (a0_2 + (wrap64 (a1 * (wrap64 (a0_3 + a0_4)))))), .int .i64 a0_3, .int .i64 a0_4, .int .i64 0, .int .i64 0, .int .i64 0]) ?_ 7 _ rfl; refine blk_put (cs := #[.int .i64 1, .int .i64 a0_1, .int .i64 (wrap64 (a0_2 + (wrap64 (a1 * (wrap64 (a0_3 + a0_4)))))), .int .i64 a0_3, .int .i64 a0_4, .int .i64 0, .int .i64 0, .int .i64 0]) ?_ 6 _ rfl; refine blk_put (cs := #[.int .i64 1, .int .i64 a0_1, .int .i64 (wrap64 (a0_2 + (wrap64 (a1 * (wrap64 (a0_3 + a0_4)))))), .int .i64 a0_3, .int .i64 a0_4, .int .i64 0, .int .i64 0, .int .i64 0]) ?_ 5 _ rfl; refine blk_put (cs := #[.int .i64 1, .int .i64 a0_1, .int .i64 (wrap64 (a0_2 + (wrap64 (a1 * (wrap64 (a0_3 + a0_4)))))), .int .i64 a0_3, .int .i64 0, .int .i64 0, .int .i64 0, .int .i64 0]) ?_ 4 _ rfl; refine blk_put (cs := #[.int .i64 1, .int .i64 a0_1, .int .i64 (wrap64 (a0_2 + (wrap64 (a1 * (wrap64 (a0_3 + a0_4)))))), .int .i64 0, .int .i64 0, .int .i64 0, .int .i64 0, .int .i64 0]) ?_ 3 _ rfl; refine blk_put (cs := #[.int .i64 1, .int .i64 a0_1, .int .i64 0, .int .i64 0, .int .i64 0, .int .i64 0, .int .i64 0, .int .i64 0]) ?_ 2 _ rfl; refine blk_put (cs := #[.int .i64 1, .int .i64 0, .int .i64 0, .int .i64 0, .int .i64 0, .int .i64 0, .int .i64 0, .int .i64 0]) ?_ 1 _ rfl; refine blk_put (cs := #[.int .i64 0, .int .i64 0, .int .i64 0, .int .i64 0, .int .i64 0, .int .i64 0, .int .i64 0, .int .i64 0]) ?_ 0 _ rfl; (iterate 5 refine blk_far ?_ NB437_438.out _); exact BK437.out) Tryd.underlying46 rfl (by kernel_rfl)) rfl ?_
  exact ⟨by rfl, by repeat ((with_reducible first | exact HB.out | refine below_set ?_ GE437.out | refine below_set ?_ GE438.out))⟩

end Go.Proofs.YtcjhejopcghgnaaDoor.P

set_option linter.unusedVariables false
set_option linter.unusedSimpArgs false
namespace Go.Proofs.YtcjhejopcghgnaaDoor.P
open Go.RowKit Go.Proofs.YtcjhejopcghgnaaDoorW.PrintWords Go.Proofs.YtcjhejopcghgnaaDoorW.PrintLast Go.Proofs.YtcjhejopcghgnaaDoorW.PrintMore
theorem rBits_eq {e : Int} (he : 0 ≤ e ∧ e ≤ 7) : capnpref06_Bits.f e = some (bitsOf e.toNat) := by
  obtain rfl | rfl | rfl | rfl | rfl | rfl | rfl | rfl : e = 0 ∨ e = 1 ∨ e = 2 ∨ e = 3 ∨ e = 4 ∨ e = 5 ∨ e = 6 ∨ e = 7 := by omega
  all_goals rfl
theorem rWords_eq {e c : Int} (he : 0 ≤ e ∧ e ≤ 7) (hc : 0 ≤ c ∧ c ≤ 536870911) : capnpref06_Words.f e c = some (wordsOf e c) := by
  have hb := bitsOf_range e
  have h1 : 0 ≤ bitsOf e.toNat * c := Int.mul_nonneg hb.1 hc.1
  have h2 : bitsOf e.toNat * c ≤ 64 * 536870911 := Int.mul_le_mul hb.2 hc.2 hc.1 (by omega)
  unfold capnpref06_Words.f wordsOf
  by_cases h7 : e = 7
  · rw [if_pos h7, if_pos h7, w64 (by omega)]
  · rw [if_neg h7, if_neg h7, rBits_eq he]
    simp only [Option.bind_some]
    generalize bitsOf e.toNat * c = x at h1 h2
    rw [w64 (x := x) (by omega), Int.tdiv_eq_ediv_of_nonneg h1, w64 (x := x / 64) (by omega), w64 (x := x / 64 * 64) (by omega), w64 (x := x / 64 + 1) (by omega)]
    by_cases hx : x / 64 * 64 < x
    · rw [if_pos hx]
      simp only [Option.some.injEq]
      omega
    · rw [if_neg hx]
      simp only [Option.some.injEq]
      omega
theorem rDecode_has {a : Int} (h : 0 ≤ a ∧ a < 18446744073709551616) : Has (fun k => capnpref02_Decode.f k a) (decI a) := ⟨201, fun k hk => rDecode_eq h k (by omega)⟩
theorem rWord_has {l : List (List Int)} (hl : Segs l) (s a : Int) : Has (fun k => capnpref05_Word.f k l s a) (if inB l s a 1 then (wd l s a, true) else (0, false)) := ⟨rounds l, fun k hk => rWord_eq hl s a k hk⟩
theorem rObject_has {l : List (List Int)} (hl : Segs l) (hs : Sm l) (s a : Int) : Has (fun k => capnpref08_Object.f k l s a) (obj l s a) := by
  simp only [capnpref08_Object.f]
  have hf := fol_ok hl s a
  have hb := fol_base hl hs s a
  refine Has.bind (rFollow_has hl s a) ?_
  unfold obj
  generalize fol l s a = t at hf hb
  obtain ⟨x, s', b, e⟩ := t
  simp only at hb hf ⊢
  by_cases he : e = 0
  case neg =>
    rw [if_neg he]
    refine Has.neg he ?_
    refine Has.step (fun k => by rw [capnpref08_Object.j0]) ?_
    exact Has.pos rfl (Has.some_ _)
  rw [if_pos he]
  refine Has.pos he ?_
  refine Has.step (fun k => by rw [capnpref08_Object.j0]) ?_
  by_cases hx : x = 0
  case pos =>
    rw [if_pos hx]
    refine Has.pos (by simpa using hx) ?_
    rw [he]
    exact Has.some_ _
  rw [if_neg hx]
  refine Has.neg (by simpa using hx) ?_
  have hr : 0 ≤ x ∧ x < 18446744073709551616 ∧ x % 4 ≠ 2 := by
    rcases hf with hf | hf
    · exact ⟨hf.2.1, hf.2.2.1, hf.2.2.2.1⟩
    · rcases hf with hf | hf <;> (simp only [Prod.mk.injEq] at hf; omega)
  have h0 : 0 ≤ x ∧ x < 18446744073709551616 := ⟨hr.1, hr.2.1⟩
  have hb' := hb he
  refine Has.bind (rDecode_has h0) ?_
  have hd := dec_small h0
  have hk := dec_kind h0
  generalize decI x = p at hd hk
  obtain ⟨k, o, d, q, e', c, bo, pd, sg, lo⟩ := p
  simp only at hd hk ⊢
  unfold objP
  simp only
  rw [w64 (x := b + o) (by omega), w64 (x := d + q) (by omega)]
  by_cases h3k : k = 3
  · rw [if_neg (show ¬ k = 0 by omega), if_neg (show ¬ k = 1 by omega)]
    refine Has.pos h3k ?_
    by_cases hlo : lo = 0
    · simp only [if_pos hlo]; exact Has.some_ _
    · simp only [if_neg hlo]; exact Has.some_ _
  refine Has.neg h3k ?_
  by_cases h0k : k = 0
  · rw [if_pos h0k]
    refine Has.pos h0k (Has.const ?_)
    unfold objS
    rw [rInBounds_eq hl]
    simp only [Option.bind_some, decide_eq_true_eq]
    split <;> rfl
  refine Has.neg h0k ?_
  rw [if_neg h0k, if_pos (show k = 1 by omega), rWords_eq (by omega) (by omega)]
  simp only [Option.bind_some]
  rw [rInBounds_eq hl]
  simp only [Option.bind_some, decide_eq_true_eq]
  unfold objL
  by_cases h7 : e' = 7
  case neg =>
    rw [if_neg h7]
    by_cases hi : inB l s' (b + o) (wordsOf e' c)
    · rw [if_pos hi]; exact Has.pos hi (Has.neg h7 (Has.some_ _))
    · rw [if_neg hi]; exact Has.neg hi (Has.some_ _)
  rw [if_pos h7, show wordsOf e' c = c + 1 by unfold wordsOf; rw [if_pos h7]]
  unfold objC
  by_cases hi : inB l s' (b + o) (c + 1)
  case neg => rw [if_neg hi]; exact Has.neg hi (Has.some_ _)
  rw [if_pos hi]
  refine Has.pos hi (Has.pos h7 ?_)
  have hb1 : inB l s' (b + o) 1 := by
    unfold inB at hi ⊢
    omega
  refine Has.bind (rWord_has hl _ _) ?_
  rw [if_pos hb1]
  have h0 := wd_range hl s' (b + o)
  refine Has.bind (rDecode_has h0) ?_
  have hd' := dec_small h0
  clear hi hb1
  generalize decI (wd l s' (b + o)) = p at hd'
  obtain ⟨k2, o2, d2, q2, e2, c2, b2, pd2, sg2, lo2⟩ := p
  simp only at hd' ⊢
  by_cases hk2 : k2 = 0
  case neg =>
    rw [if_neg (show ¬ (k2 = 0 ∧ 0 ≤ o2 ∧ o2 * (d2 + q2) ≤ c) from fun h => hk2 h.1)]
    refine Has.neg hk2 ?_
    refine Has.step (fun k => by rw [capnpref08_Object.j1]) ?_
    exact Has.pos rfl (Has.some_ _)
  refine Has.pos hk2 ?_
  by_cases ho : o2 < 0
  case pos =>
    rw [if_neg (show ¬ (k2 = 0 ∧ 0 ≤ o2 ∧ o2 * (d2 + q2) ≤ c) from fun h => by omega)]
    refine Has.pos ho ?_
    refine Has.step (fun k => by rw [capnpref08_Object.j1]) ?_
    exact Has.pos rfl (Has.some_ _)
  refine Has.neg ho ?_
  have hm := size_small (o := o2) (n := d2 + q2) (by omega) (by omega)
  rw [w64 (x := d2 + q2) (by omega), w64 (x := o2 * (d2 + q2)) (by omega)]
  refine Has.step (fun k => by rw [capnpref08_Object.j1]) ?_
  by_cases hg : o2 * (d2 + q2) > c
  case pos =>
    rw [if_neg (show ¬ (k2 = 0 ∧ 0 ≤ o2 ∧ o2 * (d2 + q2) ≤ c) from fun h => by omega)]
    exact Has.pos (by simpa using hg) (Has.some_ _)
  refine Has.neg (by simpa using hg) ?_
  rw [if_pos (show k2 = 0 ∧ 0 ≤ o2 ∧ o2 * (d2 + q2) ≤ c from ⟨hk2, by omega, by omega⟩), w64 (x := d2 + q2) (by omega), w64 (x := b + o + 1) (by omega), h7]
  by_cases hz : d2 + q2 = 0
  · simp only [if_pos hz]
    rw [w64 (by omega)]
    exact Has.some_ _
  · simp only [if_neg hz]
    rw [show c + 1 + 0 = c + 1 by omega]
    exact Has.some_ _
theorem rPointers_has (k s a d q e n c : Int) : Has (fun m => capnpref08_Pointers.f m k s a d q e n c) (ptrsO k a d q e n) := by
  simp only [capnpref08_Pointers.f]
  unfold ptrsO
  by_cases h1 : k = 1
  · refine Has.pos h1 ?_
    refine Has.step (fun k => by rw [capnpref08_Pointers.j0]) ?_
    by_cases hq : q > 0
    · rw [if_pos (show k = 1 ∧ q > 0 from ⟨h1, hq⟩)]
      exact Has.pos (decide_eq_true hq) (Has.some_ _)
    · rw [if_neg (show ¬ (k = 1 ∧ q > 0) from fun h => hq h.2), if_neg (show ¬ (k = 2 ∧ e = 6 ∧ n > 0) from fun h => by omega)]
      exact Has.neg (by simpa using hq) (Has.neg (by omega) (Has.some_ _))
  · refine Has.neg h1 ?_
    refine Has.step (fun k => by rw [capnpref08_Pointers.j0]) ?_
    refine Has.neg (by simp) ?_
    rw [if_neg (show ¬ (k = 1 ∧ q > 0) from fun h => h1 h.1)]
    by_cases h2 : k = 2
    case neg => rw [if_neg (show ¬ (k = 2 ∧ e = 6 ∧ n > 0) from fun h => h2 h.1)]; exact Has.neg h2 (Has.some_ _)
    refine Has.pos h2 ?_
    by_cases h6 : e = 6
    case neg => rw [if_neg (show ¬ (k = 2 ∧ e = 6 ∧ n > 0) from fun h => h6 h.2.1)]; exact Has.neg h6 (Has.some_ _)
    refine Has.pos h6 ?_
    by_cases hn : n > 0
    · rw [if_pos (show k = 2 ∧ e = 6 ∧ n > 0 from ⟨h2, h6, hn⟩)]; exact Has.pos hn (Has.some_ _)
    · rw [if_neg (show ¬ (k = 2 ∧ e = 6 ∧ n > 0) from fun h => hn h.2.2)]; exact Has.neg hn (Has.some_ _)
end Go.Proofs.YtcjhejopcghgnaaDoor.P

set_option linter.unusedVariables false
set_option linter.unusedSimpArgs false
namespace Go.Proofs.YtcjhejopcghgnaaDoor.P
open Go.RowKit Go.Proofs.YtcjhejopcghgnaaDoorW.PrintWords Go.Proofs.YtcjhejopcghgnaaDoorW.PrintLast Go.Proofs.YtcjhejopcghgnaaDoorW.PrintMore
/-- What an object that was found is like. -/
theorem obj_ok {l : List (List Int)} (hl : Segs l) (hs : Sm l) (s a : Int) :
    (obj l s a = bad (obj l s a).2.2.2.2.2.2.2.2) ∨
    (∃ s' st d q, obj l s a = (1, s', st, d, q, 0, 0, d + q, 0) ∧ inB l s' st (d + q) ∧ 0 ≤ d ∧ 0 ≤ q ∧ d + q ≤ 131070) ∨
    (∃ s' st e n, obj l s a = (2, s', st, 0, 0, e, n, wordsOf e n, 0) ∧ inB l s' st (wordsOf e n) ∧ 0 ≤ e ∧ e < 7 ∧ 0 ≤ n ∧ n ≤ 536870911) ∨
    (∃ s' st d q n c z, obj l s a = (2, s', st, d, q, 7, n, c + 1 + z, 0) ∧ inB l s' (st - 1) (c + 1) ∧ 0 ≤ d ∧ 0 ≤ q ∧ d + q ≤ 131070 ∧ 0 ≤ n ∧ n ≤ 536870911 ∧ n * (d + q) ≤ c ∧ c ≤ 536870911 ∧ 0 ≤ z ∧ z ≤ 536870911) := by
  unfold obj
  have hf := fol_ok hl s a
  have hb := fol_base hl hs s a
  generalize fol l s a = t at hf hb
  obtain ⟨x, s', b, e⟩ := t
  simp only at hb hf ⊢
  by_cases he : e = 0
  case neg => rw [if_neg he]; exact .inl rfl
  rw [if_pos he]
  by_cases hx : x = 0
  case pos => rw [if_pos hx]; exact .inl rfl
  rw [if_neg hx]
  have hr : 0 ≤ x ∧ x < 18446744073709551616 := by
    rcases hf with hf | hf
    · exact ⟨hf.2.1, hf.2.2.1⟩
    · rcases hf with hf | hf <;> (simp only [Prod.mk.injEq] at hf; omega)
  have hd := dec_small hr
  generalize decI x = p at hd
  obtain ⟨k, o, d, q, e', c, bo, pd, sg, lo⟩ := p
  simp only at hd ⊢
  unfold objP
  simp only
  by_cases h0 : k = 0
  · rw [if_pos h0]
    unfold objS
    by_cases hi : inB l s' (b + o) (d + q)
    · rw [if_pos hi]
      exact .inr (.inl ⟨s', b + o, d, q, rfl, hi, by omega, by omega, by omega⟩)
    · rw [if_neg hi]; exact .inl rfl
  rw [if_neg h0]
  by_cases h1 : k = 1
  case neg => rw [if_neg h1]; split <;> exact .inl rfl
  rw [if_pos h1]
  unfold objL
  by_cases h7 : e' = 7
  case neg =>
    rw [if_neg h7]
    by_cases hi : inB l s' (b + o) (wordsOf e' c)
    · rw [if_pos hi]
      exact .inr (.inr (.inl ⟨s', b + o, e', c, rfl, hi, by omega, by omega, by omega, by omega⟩))
    · rw [if_neg hi]; exact .inl rfl
  rw [if_pos h7]
  unfold objC
  by_cases hi : inB l s' (b + o) (c + 1)
  case neg => rw [if_neg hi]; exact .inl rfl
  rw [if_pos hi]
  have hd2 := dec_small (wd_range hl s' (b + o))
  generalize decI (wd l s' (b + o)) = p2 at hd2
  obtain ⟨k2, o2, d2, q2, e2, c2, b2, pd2, sg2, lo2⟩ := p2
  simp only at hd2 ⊢
  by_cases hc : k2 = 0 ∧ 0 ≤ o2 ∧ o2 * (d2 + q2) ≤ c
  case neg => rw [if_neg hc]; exact .inl rfl
  rw [if_pos hc]
  refine .inr (.inr (.inr ⟨s', b + o + 1, d2, q2, o2, c, _, rfl, by rw [show b + o + 1 - 1 = b + o by omega]; exact hi, by omega, by omega, by omega, hc.2.1, by omega, hc.2.2, by omega, ?_, ?_⟩))
  all_goals (split <;> omega)
theorem inB_sub {l : List (List Int)} {s a n a' n' : Int} (h : inB l s a n) (h1 : a ≤ a') (h2 : 0 ≤ n') (h3 : a' + n' ≤ a + n) : inB l s a' n' := by
  unfold inB at h ⊢
  omega
theorem inB_small {l : List (List Int)} (hs : Sm l) {s a n : Int} (h : inB l s a n) : 0 ≤ a ∧ a ≤ 1099511627776 := by
  have := hs s
  unfold inB at h
  omega
/-- An element's place. -/
theorem elem_place {i n m c : Int} (hi : 0 ≤ i ∧ i < n) (hm : 0 ≤ m) (hc : n * m ≤ c) : 0 ≤ i * m ∧ i * m + m ≤ c := by
  have h1 : 0 ≤ i * m := Int.mul_nonneg hi.1 hm
  have h2 : (i + 1) * m ≤ n * m := Int.mul_le_mul_of_nonneg_right (by omega) hm
  rw [Int.add_mul, Int.one_mul] at h2
  omega
theorem awake8_has : Has (fun _ => capnplaw08_awake.f) true := Has.const rfl
end Go.Proofs.YtcjhejopcghgnaaDoor.P

set_option linter.unusedVariables false
namespace Go.Proofs.YtcjhejopcghgnaaDoor.P
open Go.RowKit Go.Proofs.YtcjhejopcghgnaaDoorW.PrintWords

/-- What is read at a type, with this much fuel, is a value of the kind, and tells this of the datum. -/
def OpensAt {H α : Type} (enc : TypeId × Value → H) (P : Program) (w : World) (n : Nat) (t : TypeId) (d : Kd α) (S : α → DataW H → Prop) : Prop :=
  ∀ cs x, DataW.trod enc P w 0 (fun _ => true) true n t cs = some x → ∃ a, d.K w a cs ∧ S a x.1
def Opens {H α : Type} (enc : TypeId × Value → H) (P : Program) (w : World) (t : TypeId) (d : Kd α) (S : α → DataW H → Prop) : Prop := ∀ n, OpensAt enc P w n t d S

/-- The data of whole numbers, of slices. -/
def DInt {H : Type} (k : IntKind) (n : Int) (x : DataW H) : Prop := x = .lit (.int k n) ∧ (Lit.int k n).wf = true
def DBool {H : Type} (b : Bool) (x : DataW H) : Prop := x = .lit (.bool b)
inductive DAll {H α : Type} (S : α → DataW H → Prop) : List α → List (DataW H) → Prop
  | nil : DAll S [] []
  | cons {a : α} {x : DataW H} {us : List α} {xs : List (DataW H)} : S a x → DAll S us xs → DAll S (a :: us) (x :: xs)
def DSlice {H α : Type} (S : α → DataW H → Prop) (xs : List α) (x : DataW H) : Prop := (xs = [] ∧ x = .nil) ∨ ∃ es rest, x = .slice es rest ∧ DAll S xs es
theorem DAll.mem {H α : Type} {S : α → DataW H → Prop} {us : List α} {xs : List (DataW H)} (h : DAll S us xs) {a : α} (ha : a ∈ us) : ∃ x, x ∈ xs ∧ S a x := by
  induction h with
  | nil => cases ha
  | cons h0 _ ih =>
    rcases List.mem_cons.1 ha with rfl | ha
    · exact ⟨_, List.mem_cons_self, h0⟩
    · obtain ⟨x, hx, hs⟩ := ih ha
      exact ⟨x, List.mem_cons_of_mem _ hx, hs⟩
theorem DAll.length {H α : Type} {S : α → DataW H → Prop} {us : List α} {xs : List (DataW H)} (h : DAll S us xs) : us.length = xs.length := by
  induction h with
  | nil => rfl
  | cons _ _ ih => simp [ih]
theorem DSlice.mem {H α : Type} {S : α → DataW H → Prop} {xs : List α} {x : DataW H} (h : DSlice S xs x) {a : α} (ha : a ∈ xs) : ∃ y, S a y := by
  rcases h with ⟨rfl, _⟩ | ⟨es, rest, _, h⟩
  · cases ha
  · obtain ⟨y, _, hs⟩ := h.mem ha
    exact ⟨y, hs⟩

section
variable {H α : Type} {enc : TypeId × Value → H} {P : Program} {w : World} {n : Nat} {t e : TypeId}
theorem OpensAt.int {k : IntKind} (ht : P.underlying t = some (.int k)) : OpensAt enc P w n t (Kd.int k) (DInt k) := by
  intro cs x h
  obtain ⟨m, rfl, rfl, hw⟩ := DataW.trod_int ht h
  exact ⟨m, rfl, rfl, hw⟩
theorem OpensAt.bool (ht : P.underlying t = some .bool) : OpensAt enc P w n t Kd.bool DBool := by
  intro cs x h
  obtain ⟨b, rfl, rfl⟩ := DataW.trod_bool ht h
  exact ⟨b, rfl, rfl⟩
theorem mapM_get {α β : Type} {f : α → Option β} : ∀ {l : List α} {r : List β}, l.mapM f = some r → r.length = l.length ∧ ∀ (i : Nat) (x : α), l[i]? = some x → f x = r[i]?
  | [], r, h => by simp at h; subst h; simp
  | a :: l, r, h => by
    simp only [List.mapM_cons, Option.bind_eq_bind, Option.bind_eq_some_iff, Option.pure_def, Option.some.injEq] at h
    obtain ⟨b, hb, r', hr, rfl⟩ := h
    obtain ⟨h1, h2⟩ := mapM_get hr
    refine ⟨by simp [h1], fun i x hx => ?_⟩
    cases i with
    | zero => simp at hx; subst hx; simpa using hb
    | succ i => simp at hx; simpa using h2 i x hx
theorem cells?_get {w : World} {a : Addr} {n : Nat} {cs : List Value} (h : w.cells? 0 a n = some cs) : cs.length = n ∧ ∀ (i : Nat) (u : Value), cs[i]? = some u → w.cell? (a.add i) = some u := by
  simp only [World.cells?, Nat.zero_le, if_true] at h
  obtain ⟨h1, h2⟩ := mapM_get h
  refine ⟨by simpa using h1, fun i u hu => ?_⟩
  have hi : i < n := by have := (List.getElem?_eq_some_iff.1 hu).1; simp at h1; omega
  rw [h2 i i (by simp [hi]), hu]
theorem exists_list {α : Type} {p : Nat → α → Prop} : ∀ (m : Nat), (∀ i, i < m → ∃ a, p i a) → ∃ l : List α, l.length = m ∧ ∀ (i : Nat) (a : α), l[i]? = some a → p i a
  | 0, _ => ⟨[], rfl, fun i a h => by simp at h⟩
  | m + 1, h => by
    obtain ⟨l, hl, hp⟩ := exists_list m (fun i hi => h i (by omega))
    obtain ⟨a, ha⟩ := h m (by omega)
    refine ⟨l ++ [a], by simp [hl], fun i b hb => ?_⟩
    rcases Nat.lt_or_ge i l.length with hi | hi
    · rw [List.getElem?_append_left hi] at hb
      exact hp i b hb
    · have : i = l.length := by
        have := (List.getElem?_eq_some_iff.1 hb).1
        simp at this
        omega
      subst this
      simp at hb
      subst hb
      rw [hl]
      exact ha
theorem DAll.of_get {S : α → DataW H → Prop} : ∀ {us : List α} {xs : List (DataW H)}, us.length = xs.length → (∀ (i : Nat) (a : α) (x : DataW H), us[i]? = some a → xs[i]? = some x → S a x) → DAll S us xs
  | [], [], _, _ => .nil
  | [], _ :: _, h, _ => by simp at h
  | _ :: _, [], h, _ => by simp at h
  | a :: us, x :: xs, h, hg => .cons (hg 0 a x rfl rfl) (DAll.of_get (by simpa using h) fun i b y hb hy => hg (i + 1) b y (by simpa using hb) (by simpa using hy))
theorem OpensAt.slice {d : Kd α} {S : α → DataW H → Prop} (ht : P.underlying t = some (.slice e)) (hc : P.cellsOf e = d.sz) (h : OpensAt enc P w n e d S) : OpensAt enc P w (n + 1) t (Kd.slice e d) (DSlice S) := by
  intro cs x hx
  rcases DataW.trod_slice ht hx with ⟨rfl, rfl⟩ | ⟨a, len, cap, elems, rest, m, hm, rfl, rfl, _, hl, hcap, hlen, hel, _⟩
  · exact ⟨[], ⟨none, 0, rfl, Nat.le_refl _, rfl, by simp, fun h => absurd h (by simp)⟩, .inl ⟨rfl, rfl⟩⟩
  · obtain rfl : n = m := by omega
    have key : ∀ i, i < len → ∃ p : α, ∃ c : List Value, c.length = d.sz ∧ d.K w p c ∧ (∀ (j : Nat) (u : Value), c[j]? = some u → w.cell? (a.add (i * d.sz + j)) = some u) ∧ ∃ y, elems[i]? = some y ∧ S p y.1 := by
      intro i hi
      have h1 := hel i hi
      rw [List.getElem?_eq_getElem (by omega : i < elems.length)] at h1
      obtain ⟨c, hc1, hc2⟩ := Option.bind_eq_some_iff.mp h1
      obtain ⟨p, hp, hs⟩ := h c _ hc2
      obtain ⟨g1, g2⟩ := cells?_get hc1
      refine ⟨p, c, by rw [g1, hc], hp, fun j u hu => ?_, _, List.getElem?_eq_getElem (by omega), hs⟩
      have := g2 j u hu
      rwa [Deep.add_add, hc] at this
    obtain ⟨ps, hpl, hps⟩ := exists_list len key
    refine ⟨ps, ⟨some a, cap, by rw [hpl], by rw [hpl]; exact hl, rfl, by rw [hpl]; unfold maxLen at hcap; omega, fun _ => ⟨a, rfl, fun j p hj => ?_⟩⟩, .inr ⟨_, _, rfl, ?_⟩⟩
    · obtain ⟨c, h1, h2, h3, _⟩ := hps j p hj
      exact ⟨c, h1, h2, h3⟩
    · refine DAll.of_get (by simp [hpl, hlen]) fun i p y hp hy => ?_
      obtain ⟨c, _, _, _, z, hz, hs⟩ := hps i p hp
      rw [List.getElem?_map, hz] at hy
      simp at hy
      subst hy
      exact hs
theorem OpensAt.zero (t : TypeId) (d : Kd α) (S : α → DataW H → Prop) : OpensAt enc P w 0 t d S := by
  intro cs x h
  simp [DataW.trod] at h
theorem Opens.slice {d : Kd α} {S : α → DataW H → Prop} (ht : P.underlying t = some (.slice e)) (hc : P.cellsOf e = d.sz) (h : Opens enc P w e d S) : Opens enc P w t (Kd.slice e d) (DSlice S)
  | 0 => OpensAt.zero _ _ _
  | n + 1 => OpensAt.slice ht hc (h n)
/-- What the list that was read is, plainly. -/
theorem plain_slice {d : Kd α} {S : α → DataW H → Prop} {Q : α → Prop} {A : Option Addr} {xs : List α} {x : DataW H} (hc : Kd.C d w A xs.length xs) (s : DSlice S xs x) (hQ : ∀ a y c, S a y → d.K w a c → Q a) : xs.length ≤ 9223372036854775807 ∧ ∀ a ∈ xs, Q a :=
  ⟨hc.2.1, fun a ha => by
    obtain ⟨i, hi, rfl⟩ := List.getElem_of_mem ha
    obtain ⟨y, hy⟩ := s.mem ha
    obtain ⟨ad, _, hcell⟩ := hc.2.2 (by omega)
    obtain ⟨c, _, hK, _⟩ := hcell i _ (List.getElem?_eq_getElem hi)
    exact hQ _ y c hy hK⟩
end
end Go.Proofs.YtcjhejopcghgnaaDoor.P

namespace Go.Proofs.YtcjhejopcghgnaaDoor.P
open Go.RowKit Go.WideMaps Go.WideElems
theorem gDec : Tryd.prog.globalNamed "capnp/pointer.decoders" = some 0 := by kernel_rfl
theorem tDec : (Tryd.prog.globals[0]?).map (·.type) = some 70 := by kernel_rfl
theorem zFunc (W : World) : (zeroValue 41).run Tryd.prog W = .ok .nilFunc W := by kernel_rfl
def decD : DataW (List UInt8) := .map [(.int .i64 0, .held [99, 97, 112, 110, 112, 47, 112, 111, 105, 110, 116, 101, 114, 46, 100, 101, 99, 111, 100, 101, 114, 115, 36, 49]), (.int .i64 1, .held [99, 97, 112, 110, 112, 47, 112, 111, 105, 110, 116, 101, 114, 46, 100, 101, 99, 111, 100, 101, 114, 115, 36, 50]), (.int .i64 2, .held [99, 97, 112, 110, 112, 47, 112, 111, 105, 110, 116, 101, 114, 46, 100, 101, 99, 111, 100, 101, 114, 115, 36, 51]), (.int .i64 3, .held [99, 97, 112, 110, 112, 47, 112, 111, 105, 110, 116, 101, 114, 46, 100, 101, 99, 111, 100, 101, 114, 115, 36, 52])]
def DecOk (w : World) : Prop := ∃ bm es clock, w.cell? ⟨0, 0, none⟩ = some (.map (some bm)) ∧ w.heap[bm]? = some (.map es clock) ∧
    ∀ W : World, W.heap[bm]? = some (.map es clock) →
      (Instr.lookup 70 (.map (some bm)) (.int .i64 0) false).run Tryd.prog W = .ok (.func (.func 75) #[] #[]) W ∧
      (Instr.lookup 70 (.map (some bm)) (.int .i64 1) false).run Tryd.prog W = .ok (.func (.func 77) #[] #[]) W ∧
      (Instr.lookup 70 (.map (some bm)) (.int .i64 2) false).run Tryd.prog W = .ok (.func (.func 78) #[] #[]) W ∧
      (Instr.lookup 70 (.map (some bm)) (.int .i64 3) false).run Tryd.prog W = .ok (.func (.func 79) #[] #[]) W
theorem dec_of_laid {W : World} {l : List (String × DataW Unit)} (h : laidMetH Tryd.prog l W) (hm : ("capnp/pointer.decoders", Rows.laid_capnp_pointer_decoders) ∈ l) : DecOk W := by
  obtain ⟨g, t, cs, fuel, p, hg, ht, hv, hd⟩ := h.funcs hm
  obtain rfl := Option.some.inj (gDec.symm.trans hg)
  obtain rfl := Option.some.inj (tDec.symm.trans ht)
  have hd' : DataW.trod (funcToken Tryd.prog) Tryd.prog W 0 (fun _ => true) true fuel 70 cs.toList = some (decD, p) := hd
  rcases open_map Tryd.underlying70 hd' with ⟨_, hx⟩ | ⟨bm, es, clock, n, rfl, hcs, hb, _, F, hx⟩
  · simp [decD] at hx
  simp only [Prod.mk.injEq] at hx
  have hcell : W.cell? ⟨0, 0, none⟩ = some (.map (some bm)) := by
    have := World.var?_cell hg hv 0
    rw [Array.eq_one_of_toList hcs] at this
    simpa using this
  refine ⟨bm, es, clock, hcell, hb, fun W' hb' => ?_⟩
  have key : ∀ (k : Int) (f : FuncId) (b : UInt8) (r : List UInt8), (Lit.int .i64 k).wf = true → (∀ zd, DataW.atKey (.map ((es.toList.map (rg Tryd.prog 3 (elemAt (funcToken Tryd.prog) Tryd.prog W 0 (fun _ => true) true n 41))).foldr DataW.insert [])) (.int .i64 k) zd = .held (b :: r)) →
      ((List.range Tryd.prog.funcs.size).filter fun f => (Tryd.prog.funcs[f]?).any (·.name.toUTF8.data.toList == b :: r)) = [f] →
      (Instr.lookup 70 (.map (some bm)) (.int .i64 k) false).run Tryd.prog W' = .ok (.func (.func f) #[] #[]) W' := by
    intro k f b r hwf hat0 hone
    rcases Maps.fit_look false (Maps.int_keyed Tryd.underlying3) Tryd.underlying70 (zFunc W') hb' F (Maps.keyOf_int_mk Tryd.underlying3 hwf) with ⟨_, _, hat⟩ | ⟨e0, y, _, _, hrun, hRv, hat, _⟩
    · have := hat .nil
      rw [hat0] at this
      cases this
    · have h1 := hat .nil
      rw [hat0] at h1
      obtain ⟨y1, y2⟩ := y
      simp only at h1
      subst h1
      unfold elemAt at hRv
      split at hRv
      · rename_i hf
        have hv1 : e0.val.cells.toList = [e0.val] := by
          cases he : e0.val <;> simp_all [Value.cells, Value.formed, Tryd.underlying41]
        rw [hv1] at hRv
        have := func_of_trod Tryd.underlying41 hone hRv
        rw [this] at hrun
        simpa using hrun
      · cases hRv
  exact ⟨key 0 75 _ _ rfl (fun zd => by rw [← hx.1]; rfl) (by kernel_rfl), key 1 77 _ _ rfl (fun zd => by rw [← hx.1]; rfl) (by kernel_rfl), key 2 78 _ _ rfl (fun zd => by rw [← hx.1]; rfl) (by kernel_rfl), key 3 79 _ _ rfl (fun zd => by rw [← hx.1]; rfl) (by kernel_rfl)⟩
theorem gBits : Tryd.prog.globalNamed "capnp/listsize.bits" = some 1 := by kernel_rfl
theorem tBits : (Tryd.prog.globals[1]?).map (·.type) = some 79 := by kernel_rfl
theorem bits_of_laid {W : World} {l : List (String × DataW Unit)} (h : laidMetH Tryd.prog l W) (hf : l.filter (fun x => x.2.handleName?.isNone) = [("capnp/listsize.bits", Rows.laid_capnp_listsize_bits)]) : ∀ i : Nat, i < 8 → W.cell? ⟨1, i, none⟩ = some (.int .i64 (bitsOf i)) := by
  have h1 := (laidMetH_iff.1 h).1
  rw [hf] at h1
  have ht : Lib.TabIs Tryd.prog W "capnp/listsize.bits" .i64 [0, 1, 8, 16, 32, 64, 64, 0] := Lib.tabIs_of_head (rest := []) gBits tBits Tryd.underlying79 Tryd.underlying3 (by kernel_rfl) (by kernel_rfl) h1
  exact fun i hi => ht.cell gBits i hi
end Go.Proofs.YtcjhejopcghgnaaDoor.P
