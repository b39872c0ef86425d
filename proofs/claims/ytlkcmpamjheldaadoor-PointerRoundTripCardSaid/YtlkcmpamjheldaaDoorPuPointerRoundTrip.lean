import Derived.Test.YtlkcmpamjheldaaDoorCtPtr
import Derived.Test.YtlkcmpamjheldaaDoorPx22
set_option linter.unusedVariables false
set_option linter.unusedSimpArgs false
namespace Go.Proofs.YtlkcmpamjheldaaDoor.P
open Go.RowKit Go.Proofs.YtlkcmpamjheldaaDoorW.PrintWords Go.Proofs.YtlkcmpamjheldaaDoorW.PrintLast Go.Proofs.YtlkcmpamjheldaaDoorW.PrintMore
theorem eqPT (p r : PT) : (p.1 == r.1 && (p.2.1 == r.2.1 && (p.2.2.1 == r.2.2.1 && (p.2.2.2.1 == r.2.2.2.1 && (p.2.2.2.2.1 == r.2.2.2.2.1 && (p.2.2.2.2.2.1 == r.2.2.2.2.2.1 && (p.2.2.2.2.2.2.1 == r.2.2.2.2.2.2.1 && (p.2.2.2.2.2.2.2.1 == r.2.2.2.2.2.2.2.1 && (p.2.2.2.2.2.2.2.2.1 == r.2.2.2.2.2.2.2.2.1 && (p.2.2.2.2.2.2.2.2.2 == r.2.2.2.2.2.2.2.2.2)))))))))) = true ↔ p = r := by
  constructor
  · intro hc
    simp only [Bool.and_eq_true, beq_iff_eq] at hc
    obtain ⟨g0, g1, g2, g3, g4, g5, g6, g7, g8, g9⟩ := hc
    exact Prod.ext g0 (Prod.ext g1 (Prod.ext g2 (Prod.ext g3 (Prod.ext g4 (Prod.ext g5 (Prod.ext g6 (Prod.ext g7 (Prod.ext g8 g9))))))))
  · rintro rfl
    simp
theorem pak_inj {p r : PT} (hp : vldP p) (hr : vldP r) : pakI p = pakI r ↔ p = r := ⟨fun h => by rw [← dec_pak hp, h, dec_pak hr], fun h => by rw [h]⟩
theorem PointerRoundTrip_pure (a : Int) (ha : 0 ≤ a ∧ a ≤ 18446744073709551615) (k1 : Int) (hk1 : -9223372036854775808 ≤ k1 ∧ k1 ≤ 9223372036854775807) (o1 : Int) (ho1 : -9223372036854775808 ≤ o1 ∧ o1 ≤ 9223372036854775807) (d1 : Int) (hd1 : -9223372036854775808 ≤ d1 ∧ d1 ≤ 9223372036854775807) (q1 : Int) (hq1 : -9223372036854775808 ≤ q1 ∧ q1 ≤ 9223372036854775807) (e1 : Int) (he1 : -9223372036854775808 ≤ e1 ∧ e1 ≤ 9223372036854775807) (c1 : Int) (hc1 : -9223372036854775808 ≤ c1 ∧ c1 ≤ 9223372036854775807) (b1 : Bool) (pd1 : Int) (hpd1 : -9223372036854775808 ≤ pd1 ∧ pd1 ≤ 9223372036854775807) (sg1 : Int) (hsg1 : 0 ≤ sg1 ∧ sg1 ≤ 4294967295) (lo1 : Int) (hlo1 : 0 ≤ lo1 ∧ lo1 ≤ 4294967295) (k2 : Int) (hk2 : -9223372036854775808 ≤ k2 ∧ k2 ≤ 9223372036854775807) (o2 : Int) (ho2 : -9223372036854775808 ≤ o2 ∧ o2 ≤ 9223372036854775807) (d2 : Int) (hd2 : -9223372036854775808 ≤ d2 ∧ d2 ≤ 9223372036854775807) (q2 : Int) (hq2 : -9223372036854775808 ≤ q2 ∧ q2 ≤ 9223372036854775807) (e2 : Int) (he2 : -9223372036854775808 ≤ e2 ∧ e2 ≤ 9223372036854775807) (c2 : Int) (hc2 : -9223372036854775808 ≤ c2 ∧ c2 ≤ 9223372036854775807) (b2 : Bool) (pd2 : Int) (hpd2 : -9223372036854775808 ≤ pd2 ∧ pd2 ≤ 9223372036854775807) (sg2 : Int) (hsg2 : 0 ≤ sg2 ∧ sg2 ≤ 4294967295) (lo2 : Int) (hlo2 : 0 ≤ lo2 ∧ lo2 ≤ 4294967295) :
    ∃ n, capnplaw02_PointerRoundTrip.f n a k1 o1 d1 q1 e1 c1 b1 pd1 sg1 lo1 k2 o2 d2 q2 e2 c2 b2 pd2 sg2 lo2 = some true := by
  refine ⟨0 + 1, ?_⟩
  have hA : 0 ≤ a ∧ a < 18446744073709551616 := by omega
  unfold capnplaw02_PointerRoundTrip.f
  rw [show capnplaw02_awake.f = some true by kernel_rfl, Decode_eq hA]
  simp only [Option.bind_some, if_true]
  rw [Encode_eq (decI a), if_pos (decI_valid hA), Valid_eq (decI a), decide_eq_true (decI_valid hA), pak_dec hA]
  simp only [Option.bind_some, if_true, bne_self_eq_false]
  rw [capnplaw02_PointerRoundTrip.j0]
  rw [Encode_eq (k1, o1, d1, q1, e1, c1, b1, pd1, sg1, lo1), Encode_eq (k2, o2, d2, q2, e2, c2, b2, pd2, sg2, lo2), Valid_eq (k1, o1, d1, q1, e1, c1, b1, pd1, sg1, lo1), Valid_eq (k2, o2, d2, q2, e2, c2, b2, pd2, sg2, lo2)]
  have E1 := fun x : PT => eqPT x (k1, o1, d1, q1, e1, c1, b1, pd1, sg1, lo1)
  have E2 := eqPT (k1, o1, d1, q1, e1, c1, b1, pd1, sg1, lo1) (k2, o2, d2, q2, e2, c2, b2, pd2, sg2, lo2)
  simp only [Option.bind_some, Bool.false_eq_true, if_false]
  by_cases h1 : vldP (k1, o1, d1, q1, e1, c1, b1, pd1, sg1, lo1)
  · by_cases h2 : vldP (k2, o2, d2, q2, e2, c2, b2, pd2, sg2, lo2)
    · have hi := pak_inj h1 h2
      simp only [if_pos h1, if_pos h2, decide_eq_true h1, decide_eq_true h2, Option.bind_some, bne_self_eq_false, Bool.false_eq_true, if_false, if_true]
      rw [Decode_eq (pakI_range _), dec_pak h1]
      simp only [Option.bind_some]
      simp only [] at E1 E2
      rw [if_pos ((E1 _).2 rfl), Option.some.injEq, beq_iff_eq, Bool.eq_iff_iff, beq_iff_eq, E2]
      exact hi
    · simp only [if_pos h1, if_neg h2, decide_eq_true h1, decide_eq_false h2, Option.bind_some, bne_self_eq_false, Bool.false_eq_true, if_false, if_true]
      rw [Decode_eq (pakI_range _), dec_pak h1]
      simp
  · by_cases h2 : vldP (k2, o2, d2, q2, e2, c2, b2, pd2, sg2, lo2)
    · simp [if_neg h1, if_pos h2, decide_eq_false h1, decide_eq_true h2]
    · simp [if_neg h1, if_neg h2, decide_eq_false h1, decide_eq_false h2]
end Go.Proofs.YtlkcmpamjheldaaDoor.P
