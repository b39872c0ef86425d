import Derived.Test.YtlkcmpamjheldaaPlain
import Derived.Test.YtlkcmpamjheldaaPx4
import Derived.Test.YtlkcmpamjheldaaPx1
import Derived.Test.YtlkcmpamjheldaaPx2
import Derived.Test.YtlkcmpamjheldaaPx3
import Derived.Test.YtlkcmpamjheldaaPx5
import Derived.Test.YtlkcmpamjheldaaPx7
set_option linter.unusedVariables false
set_option linter.unusedSimpArgs false
namespace Go.Proofs.Ytlkcmpamjheldaa.P
open Go.RowKit Go.Proofs.YtlkcmpamjheldaaW.PrintWords Go.Proofs.YtlkcmpamjheldaaW.PrintLast Go.Proofs.YtlkcmpamjheldaaW.PrintMore
theorem le_of_mono {α : Type} {f : Nat → Option α} (h : ∀ k, LeO (f k) (f (k + 1))) {n : Nat} {r : α} (h0 : f n = some r) : ∀ k, n ≤ k → f k = some r := by
  intro k hk
  induction k with
  | zero => obtain rfl : n = 0 := by omega
            exact h0
  | succ k ih =>
    rcases Nat.lt_or_ge k n with hn | hn
    · obtain rfl : n = k + 1 := by omega
      exact h0
    · exact h k _ (ih hn)
theorem rd_L1_nat {l : List (List Int)} {j : Nat} (h : j < l.length) : rd_L1 l (j : Int) = l[j] := by
  unfold rd_L1
  rw [Int.toNat_natCast, List.getD_eq_getElem?_getD, List.getElem?_eq_getElem h]
  rfl
theorem rd_nat {l : List Int} {j : Nat} (h : j < l.length) : rd l (j : Int) = l[j] := by
  unfold rd
  rw [Int.toNat_natCast, List.getD_eq_getElem?_getD, List.getElem?_eq_getElem h]
  rfl
theorem Segs.seg {l : List (List Int)} (h : Segs l) (s : Int) : Words (rd_L1 l s) := by
  unfold rd_L1
  rw [List.getD_eq_getElem?_getD]
  by_cases hs : s.toNat < l.length
  · rw [List.getElem?_eq_getElem hs]
    exact h.2 _ (List.getElem_mem hs)
  · rw [List.getElem?_eq_none (by omega)]
    exact ⟨by simp, fun x hx => by simp at hx⟩
/-- A range that is in bounds. -/
def inB (l : List (List Int)) (s a n : Int) : Prop := 0 ≤ s ∧ s < (l.length : Int) ∧ 0 ≤ a ∧ 0 ≤ n ∧ a + n ≤ ((rd_L1 l s).length : Int)
instance (l : List (List Int)) (s a n : Int) : Decidable (inB l s a n) := by unfold inB; infer_instance
theorem InBounds_eq {l : List (List Int)} (h : Segs l) (s a n : Int) : arena_InBounds.f l s a n = some (decide (inB l s a n)) := by
  have hw := (h.seg s).1
  unfold arena_InBounds.f
  by_cases hb : inB l s a n
  · obtain ⟨h1, h2, h3, h4, h5⟩ := hb
    rw [decide_eq_true (show inB l s a n from ⟨h1, h2, h3, h4, h5⟩), if_pos h1, if_pos h2, if_pos h3, if_pos h4, if_pos h1, if_pos (by omega), wrap64_id (by omega), decide_eq_true (by omega)]
  · rw [decide_eq_false hb]
    unfold inB at hb
    repeat' split
    all_goals first
      | rfl
      | (exfalso; omega)
      | (rw [wrap64_id (by omega), decide_eq_false (by omega)])
theorem Word_eq {l : List (List Int)} (h : Segs l) (s a : Int) : arena_Word.f l s a = some (if inB l s a 1 then (rd (rd_L1 l s) a, true) else (0, false)) := by
  unfold arena_Word.f
  rw [InBounds_eq h]
  simp only [Option.bind_some, decide_eq_true_eq]
  by_cases hb : inB l s a 1
  · have hb' := hb
    obtain ⟨h1, h2, h3, h4, h5⟩ := hb'
    rw [if_pos hb, if_pos h1, if_pos h2, if_pos h3, if_pos (by omega), if_pos hb]
  · rw [if_neg hb, if_neg hb]
/-- The words of a range. -/
def cut (l : List (List Int)) (s a n : Int) : List Int := ((rd_L1 l s).drop a.toNat).take n.toNat
theorem Slice_eq {l : List (List Int)} (h : Segs l) (s a n : Int) (hn : n < 17592186044416) : arena_Slice.f l s a n = some (if inB l s a n then (cut l s a n, true) else ([], false)) := by
  unfold arena_Slice.f
  rw [InBounds_eq h]
  simp only [Option.bind_some, decide_eq_true_eq]
  by_cases hb : inB l s a n
  · have hb' := hb
    obtain ⟨h1, h2, h3, h4, h5⟩ := hb'
    rw [if_pos hb, if_pos ⟨h1, h2, h3, h4, h5, hn⟩, if_pos hb]
    rfl
  · rw [if_neg hb, if_neg hb]
theorem Slice_no {l : List (List Int)} (h : Segs l) (s a n : Int) (hb : ¬ inB l s a n) : arena_Slice.f l s a n = some ([], false) := by
  unfold arena_Slice.f
  rw [InBounds_eq h]
  simp only [Option.bind_some, decide_eq_true_eq]
  rw [if_neg hb]
theorem same_loop (a b : List Int) (hl : a.length = b.length) (hm : a.length ≤ 9223372036854775807) : ∀ (d k j : Nat), j + d = a.length → d < k → capnpref01_SameWords.l0 k a b j = some (decide (a.drop j = b.drop j)) := by
  intro d
  induction d with
  | zero =>
    intro k j hj hk
    obtain ⟨k, rfl⟩ : ∃ q, k = q + 1 := ⟨k - 1, by omega⟩
    simp only [capnpref01_SameWords.l0]
    rw [if_neg (by omega), List.drop_eq_nil_of_le (by omega), List.drop_eq_nil_of_le (by omega)]
    rfl
  | succ d ih =>
    intro k j hj hk
    obtain ⟨k, rfl⟩ : ∃ q, k = q + 1 := ⟨k - 1, by omega⟩
    simp only [capnpref01_SameWords.l0]
    have ha : j < a.length := by omega
    have hb : j < b.length := by omega
    rw [if_pos (by omega), if_pos (by omega), if_pos (by omega), rd_nat ha, rd_nat hb, wrap64_id (by omega), show (j : Int) + 1 = ((j + 1 : Nat) : Int) by push_cast; rfl, ih k (j + 1) (by omega) (by omega), List.drop_eq_getElem_cons ha, List.drop_eq_getElem_cons hb]
    by_cases he : a[j] = b[j]
    · rw [if_pos he]
      simp only [Option.some.injEq, decide_eq_decide, List.cons.injEq, he, true_and]
    · rw [if_neg he, decide_eq_false (by rw [List.cons.injEq]; exact fun h => he h.1)]
theorem SameWords_eq (a b : List Int) (hm : a.length ≤ 9223372036854775807) (k : Nat) (hk : a.length < k) : capnpref01_SameWords.f k a b = some (decide (a = b)) := by
  unfold capnpref01_SameWords.f
  by_cases hl : a.length = b.length
  · rw [if_pos (by omega)]
    have := same_loop a b hl hm a.length k 0 (by omega) hk
    simpa using this
  · rw [if_neg (by omega), decide_eq_false (fun h => hl (by rw [h]))]
def Few (l : List (List Int)) : Prop := l.length ≤ 20 ∧ ∀ s ∈ l, s.length ≤ 300
theorem few_loop {l : List (List Int)} (h : Segs l) (hl : l.length ≤ 9223372036854775807) : ∀ (d k j : Nat), j + d = l.length → d < k → capnpref04_Few.l0 k l j = some (decide (l.length ≤ 20 ∧ ∀ s ∈ l.drop j, s.length ≤ 300)) := by
  intro d
  induction d with
  | zero =>
    intro k j hj hk
    obtain ⟨k, rfl⟩ : ∃ q, k = q + 1 := ⟨k - 1, by omega⟩
    simp only [capnpref04_Few.l0]
    rw [if_neg (by omega), List.drop_eq_nil_of_le (by omega)]
    simp only [Option.some.injEq, decide_eq_decide]
    constructor
    · intro h
      exact ⟨by omega, fun s hs => by simp at hs⟩
    · intro h
      have := h.1
      omega
  | succ d ih =>
    intro k j hj hk
    obtain ⟨k, rfl⟩ : ∃ q, k = q + 1 := ⟨k - 1, by omega⟩
    simp only [capnpref04_Few.l0]
    have ha : j < l.length := by omega
    rw [if_pos (by omega), if_pos (by omega), rd_L1_nat ha, wrap64_id (by omega), show (j : Int) + 1 = ((j + 1 : Nat) : Int) by push_cast; rfl, ih k (j + 1) (by omega) (by omega), List.drop_eq_getElem_cons ha]
    by_cases he : l[j].length ≤ 300
    · rw [if_neg (by omega)]
      simp only [Option.some.injEq, decide_eq_decide, List.mem_cons, forall_eq_or_imp, he, true_and]
    · rw [if_pos (by omega), decide_eq_false]
      intro hc
      exact he (hc.2 _ List.mem_cons_self)
instance (l : List (List Int)) : Decidable (Few l) := by unfold Few; infer_instance
theorem Few_eq {l : List (List Int)} (h : Segs l) (k : Nat) (hk : l.length + 1 < k) : capnpref04_Few.f k l = some (decide (Few l)) := by
  have := few_loop h h.1 l.length k 0 (by omega) (by omega)
  rw [List.drop_zero] at this
  exact this
/-- The number of all words. -/
def tot (l : List (List Int)) : Nat := (l.map List.length).sum
theorem tot_few {l : List (List Int)} (h : ∀ s ∈ l, s.length ≤ 300) : tot l ≤ 300 * l.length := by
  induction l with
  | nil => simp [tot]
  | cons s l ih =>
    have h1 := h s List.mem_cons_self
    have h2 := ih fun x hx => h x (List.mem_cons_of_mem _ hx)
    simp only [tot, List.map_cons, List.sum_cons, List.length_cons] at h2 ⊢
    omega
theorem size_loop {l : List (List Int)} (hl : l.length ≤ 9223372036854775807) : ∀ (d k j acc : Nat), j + d = l.length → d < k → acc + tot (l.drop j) ≤ 9223372036854775807 → arena_Size.l0 k acc l l.length j = some ((acc + tot (l.drop j) : Nat) : Int) := by
  intro d
  induction d with
  | zero =>
    intro k j acc hj hk hb
    obtain ⟨k, rfl⟩ : ∃ q, k = q + 1 := ⟨k - 1, by omega⟩
    simp only [arena_Size.l0]
    rw [if_neg (by omega), List.drop_eq_nil_of_le (by omega)]
    rfl
  | succ d ih =>
    intro k j acc hj hk hb
    obtain ⟨k, rfl⟩ : ∃ q, k = q + 1 := ⟨k - 1, by omega⟩
    simp only [arena_Size.l0]
    have ha : j < l.length := by omega
    rw [List.drop_eq_getElem_cons ha] at hb ⊢
    simp only [tot, List.map_cons, List.sum_cons] at hb ⊢
    have := ih k (j + 1) (acc + l[j].length) (by omega) (by omega) (by unfold tot; omega)
    rw [if_pos (by omega), if_pos (by omega), if_pos (by omega), rd_L1_nat ha, wrap64_id (x := (j : Int) + 1) (by omega), wrap64_id (by omega), show (j : Int) + 1 = ((j + 1 : Nat) : Int) by push_cast; rfl, show (acc : Int) + (l[j].length : Int) = ((acc + l[j].length : Nat) : Int) by push_cast; rfl, this]
    unfold tot
    simp only [Option.some.injEq]
    omega
theorem Size_eq {l : List (List Int)} (h : Few l) (k : Nat) (hk : l.length < k) : arena_Size.f k l = some (tot l : Int) := by
  have h1 := tot_few h.2
  have h2 := h.1
  have := size_loop (l := l) (by omega) l.length k 0 0 (by omega) hk (by simp only [List.drop_zero]; omega)
  simpa [arena_Size.f] using this
end Go.Proofs.Ytlkcmpamjheldaa.P
