import Derived.Test.YtlkcmpamjheldaaPuArena
import Derived.Test.YtlkcmpamjheldaaPx9
import Derived.Test.YtlkcmpamjheldaaPx8
import Derived.Test.YtlkcmpamjheldaaPx10
import Derived.Test.YtlkcmpamjheldaaPx11
set_option linter.unusedVariables false
set_option linter.unusedSimpArgs false
namespace Go.Proofs.Ytlkcmpamjheldaa.P
open Go.RowKit Go.Proofs.YtlkcmpamjheldaaW.PrintWords Go.Proofs.YtlkcmpamjheldaaW.PrintLast Go.Proofs.YtlkcmpamjheldaaW.PrintMore
theorem rInBounds_eq {l : List (List Int)} (h : Segs l) (s a n : Int) : capnpref05_InBounds.f l s a n = some (decide (inB l s a n)) := by
  have hw := (h.seg s).1
  unfold capnpref05_InBounds.f
  by_cases hb : inB l s a n
  · have hb' := hb
    obtain ⟨h1, h2, h3, h4, h5⟩ := hb'
    rw [decide_eq_true hb, if_neg (by omega), if_neg (by omega), if_neg (by omega), if_neg (by omega), if_pos h1, if_pos h2, if_pos (by omega), wrap64_id (by omega), decide_eq_true (by omega)]
  · rw [decide_eq_false hb]
    unfold inB at hb
    repeat' split
    all_goals first
      | rfl
      | (exfalso; omega)
      | (rw [wrap64_id (by omega), decide_eq_false (by omega)])
/-- Rounds that two nested loops over all words take. -/
def rounds : List (List Int) → Nat
  | [] => 1
  | s :: t => s.length + 2 + rounds t
theorem rWord_skip {l : List (List Int)} (h : Segs l) (s a : Int) {i : Nat} (hi : i < l.length) : ∀ (d k j : Nat), j + d = l[i].length → ¬ ((i : Int) = s ∧ (j : Int) ≤ a ∧ a < l[i].length) → capnpref05_Word.l1 (k + d + 1) l s a i j = capnpref05_Word.l0 k l s a ((i + 1 : Nat) : Int) := by
  intro d
  have hw := (h.2 _ (List.getElem_mem hi)).1
  have hl := h.1
  induction d with
  | zero =>
    intro k j hj hn
    rw [Nat.add_zero, capnpref05_Word.l1, if_pos (by omega), if_pos (by omega), rd_L1_nat hi, if_neg (by omega), wrap64_id (by omega)]
    rfl
  | succ d ih =>
    intro k j hj hn
    have e := ih k (j + 1) (by omega) (by omega)
    rw [← Nat.add_assoc, capnpref05_Word.l1, if_pos (by omega), if_pos (by omega), rd_L1_nat hi, if_pos (by omega), wrap64_id (by omega), show (j : Int) + 1 = ((j + 1 : Nat) : Int) by push_cast; rfl]
    by_cases h1 : (i : Int) = s
    · rw [if_pos h1, if_neg (by omega)]
      exact e
    · rw [if_neg h1]
      exact e
theorem rWord_hit {l : List (List Int)} (h : Segs l) {i t : Nat} (hi : i < l.length) (ht : t < l[i].length) : ∀ (d k j : Nat), j + d = t → d < k → capnpref05_Word.l1 k l i t i j = some (rd (rd_L1 l i) t, true) := by
  intro d
  have hw := (h.2 _ (List.getElem_mem hi)).1
  have hl := h.1
  induction d with
  | zero =>
    intro k j hj hk
    obtain ⟨k, rfl⟩ : ∃ q, k = q + 1 := ⟨k - 1, by omega⟩
    obtain rfl : j = t := by omega
    rw [capnpref05_Word.l1, if_pos (by omega), if_pos (by omega), rd_L1_nat hi, if_pos (by omega), if_pos rfl, if_pos rfl, if_pos (by omega)]
  | succ d ih =>
    intro k j hj hk
    obtain ⟨k, rfl⟩ : ∃ q, k = q + 1 := ⟨k - 1, by omega⟩
    have e := ih k (j + 1) (by omega) (by omega)
    rw [capnpref05_Word.l1, if_pos (by omega), if_pos (by omega), rd_L1_nat hi, if_pos (by omega), if_pos rfl, if_neg (by omega), wrap64_id (by omega), show (j : Int) + 1 = ((j + 1 : Nat) : Int) by push_cast; rfl, e, rd_L1_nat hi]
theorem rWord_loop {l : List (List Int)} (h : Segs l) (s a : Int) : ∀ (d k i : Nat), i + d = l.length → rounds (l.drop i) ≤ k → (s < (i : Int) → ¬ inB l s a 1) → capnpref05_Word.l0 k l s a i = some (if inB l s a 1 then (rd (rd_L1 l s) a, true) else (0, false)) := by
  intro d
  have hl := h.1
  induction d with
  | zero =>
    intro k i hi hk hn
    rw [List.drop_eq_nil_of_le (by omega)] at hk
    simp only [rounds] at hk
    obtain ⟨k, rfl⟩ : ∃ q, k = q + 1 := ⟨k - 1, by omega⟩
    rw [capnpref05_Word.l0, if_neg (by omega), if_neg]
    intro hb
    have hb' := hb
    obtain ⟨h1, h2, h3, h4, h5⟩ := hb'
    exact hn (by omega) hb
  | succ d ih =>
    intro k i hi hk hn
    have ha : i < l.length := by omega
    rw [List.drop_eq_getElem_cons ha] at hk
    simp only [rounds] at hk
    obtain ⟨k, rfl⟩ : ∃ q, k = q + l[i].length + 1 + 1 := ⟨k - l[i].length - 2, by omega⟩
    rw [capnpref05_Word.l0, if_pos (by omega)]
    by_cases hc : (i : Int) = s ∧ (0 : Int) ≤ a ∧ a < l[i].length
    · obtain ⟨rfl, h0, h1⟩ := hc
      obtain ⟨t, rfl⟩ := Int.eq_ofNat_of_zero_le h0
      have e := rWord_hit h ha (t := t) (by omega) t (k + l[i].length + 1) 0 (by omega) (by omega)
      rw [show ((0 : Nat) : Int) = 0 from rfl] at e
      rw [e, if_pos]
      refine ⟨by omega, by omega, h0, by omega, ?_⟩
      rw [rd_L1_nat ha]
      omega
    · have e := rWord_skip h s a ha l[i].length k 0 (by omega) (by rw [show ((0 : Nat) : Int) = 0 from rfl]; exact hc)
      rw [show ((0 : Nat) : Int) = 0 from rfl] at e
      rw [e]
      refine ih k (i + 1) (by omega) (by omega) ?_
      intro hs hb
      by_cases hlt : s < (i : Int)
      · exact hn hlt hb
      · obtain rfl : s = (i : Int) := by omega
        obtain ⟨h1, h2, h3, h4, h5⟩ := hb
        rw [rd_L1_nat ha] at h5
        exact hc ⟨rfl, h3, by omega⟩
theorem rWord_eq {l : List (List Int)} (h : Segs l) (s a : Int) (k : Nat) (hk : rounds l ≤ k) : capnpref05_Word.f k l s a = some (if inB l s a 1 then (rd (rd_L1 l s) a, true) else (0, false)) := by
  have := rWord_loop h s a l.length k 0 (by omega) (by simpa using hk) (fun hs hb => by have := hb.1; omega)
  exact this
theorem take_succ_drop {l : List Int} {a j : Nat} (h : a + j < l.length) : (l.drop a).take j ++ [l[a + j]] = (l.drop a).take (j + 1) := by
  rw [List.take_add_one, List.getElem?_drop, List.getElem?_eq_getElem h]
  rfl
theorem rslice_loop {l : List (List Int)} (h : Segs l) (s : Int) (a n : Nat) (hb : inB l s a n) (hn : n ≤ 17592186044416) : ∀ (d k j : Nat), j + d = n → d < k → capnpref05_Slice.l0 k l s a n (((rd_L1 l s).drop a).take j) j = some (cut l s a n, true) := by
  intro d
  have hw := (h.seg s).1
  obtain ⟨h1, h2, h3, h4, h5⟩ := hb
  induction d with
  | zero =>
    intro k j hj hk
    obtain ⟨k, rfl⟩ : ∃ q, k = q + 1 := ⟨k - 1, by omega⟩
    obtain rfl : j = n := by omega
    rw [capnpref05_Slice.l0, if_neg (by omega)]
    rfl
  | succ d ih =>
    intro k j hj hk
    obtain ⟨k, rfl⟩ : ∃ q, k = q + 1 := ⟨k - 1, by omega⟩
    have e := ih k (j + 1) (by omega) (by omega)
    have hlt : a + j < (rd_L1 l s).length := by omega
    rw [capnpref05_Slice.l0, if_pos (by omega), if_pos h1, if_pos h2, wrap64_id (x := (a : Int) + (j : Int)) (by omega), if_pos (by omega), if_pos (by omega), if_pos (by rw [List.length_take, List.length_drop]; omega), wrap64_id (by omega), show (j : Int) + 1 = ((j + 1 : Nat) : Int) by push_cast; rfl,
      show (a : Int) + (j : Int) = ((a + j : Nat) : Int) by push_cast; rfl, rd_nat hlt, take_succ_drop hlt, e]
theorem rSlice_eq {l : List (List Int)} (h : Segs l) (s a n : Int) (hn : n ≤ 17592186044416) (k : Nat) (hk : n < k) : capnpref05_Slice.f k l s a n = some (if inB l s a n then (cut l s a n, true) else ([], false)) := by
  unfold capnpref05_Slice.f
  rw [rInBounds_eq h]
  simp only [Option.bind_some, decide_eq_true_eq]
  by_cases hb : inB l s a n
  · rw [if_pos hb, if_pos hb]
    have hb' := hb
    obtain ⟨h1, h2, h3, h4, h5⟩ := hb'
    obtain ⟨a, rfl⟩ := Int.eq_ofNat_of_zero_le h3
    obtain ⟨n, rfl⟩ := Int.eq_ofNat_of_zero_le h4
    have := rslice_loop h s a n hb (by omega) n k 0 (by omega) (by omega)
    simpa using this
  · rw [if_neg hb, if_neg hb]
theorem rSlice_no {l : List (List Int)} (h : Segs l) (s a n : Int) (hb : ¬ inB l s a n) (k : Nat) : capnpref05_Slice.f k l s a n = some ([], false) := by
  unfold capnpref05_Slice.f
  rw [rInBounds_eq h]
  simp only [Option.bind_some, decide_eq_true_eq]
  rw [if_neg hb]
theorem rsize_loop {l : List (List Int)} (hl : l.length ≤ 9223372036854775807) : ∀ (d k j acc : Nat), j + d = l.length → d < k → acc + tot (l.drop j) ≤ 9223372036854775807 → capnpref05_Size.l0 k l acc j = some ((acc + tot (l.drop j) : Nat) : Int) := by
  intro d
  induction d with
  | zero =>
    intro k j acc hj hk hb
    obtain ⟨k, rfl⟩ : ∃ q, k = q + 1 := ⟨k - 1, by omega⟩
    rw [capnpref05_Size.l0, if_neg (by omega), List.drop_eq_nil_of_le (by omega)]
    rfl
  | succ d ih =>
    intro k j acc hj hk hb
    obtain ⟨k, rfl⟩ : ∃ q, k = q + 1 := ⟨k - 1, by omega⟩
    have ha : j < l.length := by omega
    rw [List.drop_eq_getElem_cons ha] at hb ⊢
    simp only [tot, List.map_cons, List.sum_cons] at hb ⊢
    have := ih k (j + 1) (acc + l[j].length) (by omega) (by omega) (by unfold tot; omega)
    rw [capnpref05_Size.l0, if_pos (by omega), if_pos (by omega), rd_L1_nat ha, wrap64_id (x := (j : Int) + 1) (by omega), wrap64_id (by omega), show (j : Int) + 1 = ((j + 1 : Nat) : Int) by push_cast; rfl, show (acc : Int) + (l[j].length : Int) = ((acc + l[j].length : Nat) : Int) by push_cast; rfl, this]
    unfold tot
    simp only [Option.some.injEq]
    omega
theorem rSize_eq {l : List (List Int)} (h : Few l) (k : Nat) (hk : l.length < k) : capnpref05_Size.f k l = some (tot l : Int) := by
  have h1 := tot_few h.2
  have h2 := h.1
  have := rsize_loop (l := l) (by omega) l.length k 0 0 (by omega) hk (by simp only [List.drop_zero]; omega)
  simpa [capnpref05_Size.f] using this
end Go.Proofs.Ytlkcmpamjheldaa.P
