import Derived.Test.YtlkcmpamjheldaaPuRef5
import Derived.Test.YtlkcmpamjheldaaPuAwake05
import Derived.Test.YtlkcmpamjheldaaPx12
set_option linter.unusedVariables false
set_option linter.unusedSimpArgs false
namespace Go.Proofs.Ytlkcmpamjheldaa.P
open Go.RowKit Go.Proofs.YtlkcmpamjheldaaW.PrintWords Go.Proofs.YtlkcmpamjheldaaW.PrintLast Go.Proofs.YtlkcmpamjheldaaW.PrintMore
theorem ArenaMatchesReference_pure (l : List (List Int)) (h : Segs l) (s : Int) (hs : -9223372036854775808 ≤ s ∧ s ≤ 9223372036854775807) (a : Int) (ha : -9223372036854775808 ≤ a ∧ a ≤ 9223372036854775807) (n : Int) (hn : -9223372036854775808 ≤ n ∧ n ≤ 9223372036854775807) :
    ∃ k, capnplaw05_ArenaMatchesReference.f k l s a n = some true := by
  refine ⟨rounds l + l.length + 400 + 1, ?_⟩
  unfold capnplaw05_ArenaMatchesReference.f
  rw [awake_eq _ (by omega), Few_eq h _ (by omega)]
  simp only [Option.bind_some, if_true]
  rw [capnplaw05_ArenaMatchesReference.j0]
  by_cases hf : Few l
  · rw [decide_eq_true hf, Word_eq h, rWord_eq h _ _ _ (by omega), InBounds_eq h, rInBounds_eq h, Size_eq hf _ (by omega), rSize_eq hf _ (by omega)]
    by_cases hb : inB l s a n
    · have hw : (rd_L1 l s).length ≤ 300 := by
        have h1 := hb.1
        have h2 := hb.2.1
        obtain ⟨i, rfl⟩ := Int.eq_ofNat_of_zero_le h1
        rw [rd_L1_nat (by omega)]
        exact hf.2 _ (List.getElem_mem _)
      have hb' := hb
      obtain ⟨h1, h2, h3, h4, h5⟩ := hb'
      have hc : (cut l s a n).length ≤ 300 := by unfold cut; rw [List.length_take, List.length_drop]; omega
      rw [Slice_eq h _ _ _ (by omega), rSlice_eq h _ _ _ (by omega) _ (by omega), if_pos hb]
      simp only [Option.bind_some, Bool.not_true, Bool.false_eq_true, if_false, if_true, beq_self_eq_true]
      rw [SameWords_eq _ _ (by omega) _ (by omega)]
      simp
    · rw [Slice_no h _ _ _ hb, rSlice_no h _ _ _ hb]
      simp only [Option.bind_some, Bool.not_true, Bool.false_eq_true, if_false, if_true, beq_self_eq_true]
      rw [SameWords_eq _ _ (by simp) _ (by simp)]
      simp
  · rw [decide_eq_false hf, awake_eq _ (by omega)]
    simp
end Go.Proofs.Ytlkcmpamjheldaa.P
