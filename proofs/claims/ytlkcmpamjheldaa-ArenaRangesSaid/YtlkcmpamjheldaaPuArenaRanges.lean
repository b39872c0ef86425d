import Derived.Test.YtlkcmpamjheldaaPuArena
import Derived.Test.YtlkcmpamjheldaaPuAwake05
import Derived.Test.YtlkcmpamjheldaaPx14
set_option linter.unusedVariables false
set_option linter.unusedSimpArgs false
namespace Go.Proofs.Ytlkcmpamjheldaa.P
open Go.RowKit Go.Proofs.YtlkcmpamjheldaaW.PrintWords Go.Proofs.YtlkcmpamjheldaaW.PrintLast Go.Proofs.YtlkcmpamjheldaaW.PrintMore
theorem inB_split (l : List (List Int)) (s a n k : Int) (h0 : 0 ≤ k) (h1 : k ≤ n) : inB l s a n ↔ inB l s a k ∧ inB l s (a + k) (n - k) := by
  unfold inB
  constructor
  · rintro ⟨h1, h2, h3, h4, h5⟩
    omega
  · rintro ⟨⟨h1, h2, h3, h4, h5⟩, h6, h7, h8, h9, h10⟩
    omega
theorem cut_split (l : List (List Int)) (s a n k : Int) (ha : 0 ≤ a) (h0 : 0 ≤ k) (h1 : k ≤ n) : cut l s a k ++ cut l s (a + k) (n - k) = cut l s a n := by
  unfold cut
  rw [show n.toNat = k.toNat + (n - k).toNat by omega, List.take_add, List.drop_drop, show (a + k).toNat = a.toNat + k.toNat by omega]
theorem ArenaRanges_pure (l : List (List Int)) (h : Segs l) (s : Int) (hs : -9223372036854775808 ≤ s ∧ s ≤ 9223372036854775807) (a : Int) (ha : -9223372036854775808 ≤ a ∧ a ≤ 9223372036854775807) (n : Int) (hn : 0 ≤ n ∧ n ≤ 65535) (c : Int) (hc : 0 ≤ c ∧ c ≤ 65535) :
    ∃ k, capnplaw05_ArenaRanges.f k l s a n c = some true := by
  refine ⟨l.length + 140000 + 1 + 1 + 1, ?_⟩
  unfold capnplaw05_ArenaRanges.f
  rw [awake_eq _ (by omega), Few_eq h _ (by omega)]
  simp only [Option.bind_some, if_true]
  have hq : capnplaw05_ArenaRanges.j0 (l.length + 140000 + 1 + 1 + 1) l s a n c true = some true := by
    rw [capnplaw05_ArenaRanges.j0, awake_eq _ (by omega)]
    rfl
  rw [hq]
  by_cases hf : Few l
  · rw [decide_eq_true hf, if_pos rfl]
    split
    · rfl
    by_cases hlo : a < -1099511627776
    · rw [decide_eq_true hlo]
      exact hq
    rw [decide_eq_false hlo, capnplaw05_ArenaRanges.j0, if_neg (by decide), wrap64_id (x := n) (by omega), wrap64_id (x := c) (by omega), wrap64_id (x := n + 1) (by omega), if_neg (by omega)]
    have ht : Int.tmod c (n + 1) = c % (n + 1) := by rw [Int.tmod_eq_emod_of_nonneg hc.1]
    have hk0 : 0 ≤ c % (n + 1) := Int.emod_nonneg _ (by omega)
    have hk1 : c % (n + 1) < n + 1 := Int.emod_lt_of_pos _ (by omega)
    rw [ht]
    generalize c % (n + 1) = k at hk0 hk1
    rw [wrap64_id (x := a + k) (by omega), wrap64_id (x := n - k) (by omega), InBounds_eq h, InBounds_eq h, InBounds_eq h]
    simp only [Option.bind_some]
    have hsp := inB_split l s a n k hk0 (by omega)
    have key : capnplaw05_ArenaRanges.j1 (l.length + 140000 + 1 + 1) l s a n k (decide (inB l s a n)) (decide (inB l s a n)) = some true := by
      rw [capnplaw05_ArenaRanges.j1, if_neg (by simp)]
      by_cases hb : inB l s a n
      · have hb' := hb
        obtain ⟨h1, h2, h3, h4, h5⟩ := hb'
        obtain ⟨b1, b2⟩ := hsp.1 hb
        rw [decide_eq_true hb, if_pos rfl, if_neg (by omega), decide_eq_false (by omega), capnplaw05_ArenaRanges.j2, if_neg (by decide), if_pos rfl, wrap64_id (x := n) (by omega), wrap64_id (x := a + k) (by omega), wrap64_id (x := n - k) (by omega), Slice_eq h _ _ _ (by omega), Slice_eq h _ _ _ (by omega), Slice_eq h _ _ _ (by omega), if_pos b1, if_pos b2, if_pos hb]
        simp only [Option.bind_some, List.nil_append, List.length_nil, Nat.zero_add]
        have l1 : (cut l s a k).length ≤ 65535 := by unfold cut; rw [List.length_take]; omega
        have l2 : (cut l s (a + k) (n - k)).length ≤ 65535 := by unfold cut; rw [List.length_take]; omega
        rw [if_pos (by omega), if_pos (by omega), SameWords_eq _ _ (by rw [List.length_append]; omega) _ (by rw [List.length_append]; omega), cut_split l s a n k h3 hk0 (by omega)]
        simp
      · rw [decide_eq_false hb, if_neg (by decide), capnplaw05_ArenaRanges.j2, if_neg (by decide), if_neg (by decide)]
    by_cases b1 : inB l s a k
    · rw [decide_eq_true b1, if_pos rfl, show decide (inB l s (a + k) (n - k)) = decide (inB l s a n) by rw [decide_eq_decide, hsp]; exact ⟨fun x => ⟨b1, x⟩, fun x => x.2⟩]
      exact key
    · rw [decide_eq_false b1, if_neg (by decide)]
      have hb : ¬ inB l s a n := fun x => b1 (hsp.1 x).1
      rw [decide_eq_false hb] at key ⊢
      exact key
  · rw [decide_eq_false hf]
    rfl
end Go.Proofs.Ytlkcmpamjheldaa.P
