import Derived.Test.YtlkcmpamjheldaaPuRef5
import Derived.Test.YtlkcmpamjheldaaPuAwake05
import Derived.Test.YtlkcmpamjheldaaPx13
set_option linter.unusedVariables false
set_option linter.unusedSimpArgs false
namespace Go.Proofs.Ytlkcmpamjheldaa.P
open Go.RowKit Go.Proofs.YtlkcmpamjheldaaW.PrintWords Go.Proofs.YtlkcmpamjheldaaW.PrintLast Go.Proofs.YtlkcmpamjheldaaW.PrintMore
/-- All of the first j words can be read. -/
def allB (l : List (List Int)) (s a : Int) : Nat → Bool
  | 0 => true
  | j + 1 => allB l s a j && decide (inB l s (a + j) 1)
/-- The first j words, zero where there is none. -/
def readW (l : List (List Int)) (s a : Int) : Nat → List Int
  | 0 => []
  | j + 1 => readW l s a j ++ [(if inB l s (a + j) 1 then (rd (rd_L1 l s) (a + j), true) else (0, false)).1]
theorem length_readW (l : List (List Int)) (s a : Int) : ∀ j, (readW l s a j).length = j
  | 0 => rfl
  | j + 1 => by simp [readW, length_readW l s a j]
theorem reads_loop {l : List (List Int)} (h : Segs l) (s a : Int) (ha : -1000 ≤ a ∧ a ≤ 1000) (n : Nat) (hn : n ≤ 255) (k : Nat) : ∀ (d j : Nat), j + d = n → capnplaw05_ArenaReadsAreBounded.l0 (k + d) l s a n (allB l s a j) (readW l s a j) j = capnplaw05_ArenaReadsAreBounded.l0 k l s a n (allB l s a n) (readW l s a n) n := by
  intro d
  induction d with
  | zero =>
    intro j hj
    obtain rfl : j = n := by omega
    rfl
  | succ d ih =>
    intro j hj
    have e := ih (j + 1) (by omega)
    rw [← Nat.add_assoc, capnplaw05_ArenaReadsAreBounded.l0, wrap64_id (x := (n : Int)) (by omega), if_pos (by omega), wrap64_id (x := a + (j : Int)) (by omega), Word_eq h]
    simp only [Option.bind_some]
    rw [if_pos (show (readW l s a j).length < 17592186044416 by rw [length_readW]; omega), wrap64_id (by omega), show (j : Int) + 1 = ((j + 1 : Nat) : Int) by push_cast; rfl, if_pos (show (readW l s a j).length < 17592186044416 by rw [length_readW]; omega)]
    rw [← e]
    rw [readW, allB]
    cases hb : allB l s a j
    · simp only [Bool.false_eq_true, if_false, Bool.false_and]
    · simp only [if_true, Bool.true_and]
      by_cases hi : inB l s (a + j) 1
      · rw [if_pos hi, decide_eq_true hi]
      · rw [if_neg hi, decide_eq_false hi]
theorem allB_iff (l : List (List Int)) (s a : Int) : ∀ j, allB l s a j = true ↔ ∀ i : Nat, i < j → inB l s (a + i) 1
  | 0 => by simp [allB]
  | j + 1 => by
    rw [allB, Bool.and_eq_true, allB_iff l s a j, decide_eq_true_eq]
    constructor
    · rintro ⟨h1, h2⟩ i hi
      rcases Nat.lt_or_ge i j with h | h
      · exact h1 i h
      · obtain rfl : i = j := by omega
        exact h2
    · intro h
      exact ⟨fun i hi => h i (by omega), h j (by omega)⟩
theorem allB_inB (l : List (List Int)) (s a : Int) (n : Nat) (hn : 0 < n) : allB l s a n = decide (inB l s a n) := by
  rw [Bool.eq_iff_iff, allB_iff, decide_eq_true_eq]
  unfold inB
  constructor
  · intro h
    have h0 := h 0 hn
    have h1 := h (n - 1) (by omega)
    omega
  · rintro ⟨h1, h2, h3, h4, h5⟩ i hi
    omega
theorem readW_cut {l : List (List Int)} {s : Int} {a n : Nat} (h : inB l s a n) : ∀ j, j ≤ n → readW l s a j = ((rd_L1 l s).drop a).take j
  | 0, _ => rfl
  | j + 1, hj => by
    obtain ⟨h1, h2, h3, h4, h5⟩ := h
    rw [readW, readW_cut ⟨h1, h2, h3, h4, h5⟩ j (by omega), if_pos (show inB l s ((a : Int) + (j : Int)) 1 from ⟨h1, h2, by omega, by omega, by omega⟩), ← take_succ_drop (by omega), ← rd_nat (l := rd_L1 l s) (j := a + j) (by omega)]
    rfl
theorem ArenaReadsAreBounded_pure (l : List (List Int)) (h : Segs l) (s : Int) (hs : -9223372036854775808 ≤ s ∧ s ≤ 9223372036854775807) (a : Int) (ha : -9223372036854775808 ≤ a ∧ a ≤ 9223372036854775807) (n : Int) (hn : 0 ≤ n ∧ n ≤ 255) :
    ∃ k, capnplaw05_ArenaReadsAreBounded.f k l s a n = some true := by
  refine ⟨l.length + 700 + 1, ?_⟩
  unfold capnplaw05_ArenaReadsAreBounded.f
  rw [awake_eq _ (by omega), Few_eq h _ (by omega)]
  simp only [Option.bind_some, if_true]
  have hq : capnplaw05_ArenaReadsAreBounded.j0 (l.length + 700 + 1) l s a n true = some true := by
    rw [capnplaw05_ArenaReadsAreBounded.j0, awake_eq _ (by omega)]
    rfl
  rw [hq]
  by_cases hf : Few l
  · rw [decide_eq_true hf, if_pos rfl]
    split
    · rfl
    split
    · rfl
    by_cases hlo : a < -1000
    · rw [decide_eq_true hlo]
      exact hq
    rw [decide_eq_false hlo]
    rw [capnplaw05_ArenaReadsAreBounded.j0, if_neg (by decide)]
    obtain ⟨m, rfl⟩ := Int.eq_ofNat_of_zero_le hn.1
    have e := reads_loop h s a (by omega) m (by omega) (l.length + 699 - m + 1) m 0 (by omega)
    rw [show l.length + 699 - m + 1 + m = l.length + 700 by omega] at e
    refine Eq.trans e ?_
    rw [capnplaw05_ArenaReadsAreBounded.l0, wrap64_id (x := (m : Int)) (by omega), if_neg (by omega), Slice_eq h _ _ _ (by omega), InBounds_eq h, allB_inB l s a m (by omega)]
    by_cases hb : inB l s a m
    · rw [if_pos hb, decide_eq_true hb]
      simp only [Option.bind_some, bne_self_eq_false, Bool.false_eq_true, if_false, if_true]
      have h3 := hb.2.2.1
      obtain ⟨t, rfl⟩ := Int.eq_ofNat_of_zero_le h3
      have hl : (cut l s t m).length ≤ m := by unfold cut; rw [List.length_take]; omega
      rw [readW_cut hb m (Nat.le_refl _), SameWords_eq _ _ (by omega) _ (by omega)]
      simp [cut]
    · rw [if_neg hb, decide_eq_false hb]
      simp
  · rw [decide_eq_false hf]
    rfl
end Go.Proofs.Ytlkcmpamjheldaa.P
