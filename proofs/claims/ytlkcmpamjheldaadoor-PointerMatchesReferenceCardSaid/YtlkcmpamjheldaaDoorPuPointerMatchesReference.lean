import Derived.Test.YtlkcmpamjheldaaDoorCtPtr
import Derived.Test.YtlkcmpamjheldaaDoorPx21
set_option linter.unusedVariables false
set_option linter.unusedSimpArgs false
namespace Go.Proofs.YtlkcmpamjheldaaDoor.P
open Go.RowKit Go.Proofs.YtlkcmpamjheldaaDoorW.PrintWords Go.Proofs.YtlkcmpamjheldaaDoorW.PrintLast Go.Proofs.YtlkcmpamjheldaaDoorW.PrintMore
theorem isCap_f (k o d q e c : Int) (b : Bool) (pd sg lo : Int) : pointer_IsCapability.f k o d q e c b pd sg lo = some (k == 3 && lo == 0) := by
  unfold pointer_IsCapability.f
  by_cases h : k = 3
  · subst h; simp
  · rw [if_neg h]; simp [h]
theorem PointerMatchesReference_pure (a : Int) (ha : 0 ≤ a ∧ a ≤ 18446744073709551615) (k : Int) (_ : -9223372036854775808 ≤ k ∧ k ≤ 9223372036854775807) (o : Int) (_ : -9223372036854775808 ≤ o ∧ o ≤ 9223372036854775807) (d : Int) (_ : -9223372036854775808 ≤ d ∧ d ≤ 9223372036854775807) (q : Int) (_ : -9223372036854775808 ≤ q ∧ q ≤ 9223372036854775807) (e : Int) (_ : -9223372036854775808 ≤ e ∧ e ≤ 9223372036854775807) (c : Int) (_ : -9223372036854775808 ≤ c ∧ c ≤ 9223372036854775807) (b : Bool) (pd : Int) (_ : -9223372036854775808 ≤ pd ∧ pd ≤ 9223372036854775807) (sg : Int) (hs : 0 ≤ sg ∧ sg ≤ 4294967295) (lo : Int) (hl : 0 ≤ lo ∧ lo ≤ 4294967295) :
    ∃ n, capnplaw02_PointerMatchesReference.f n a k o d q e c b pd sg lo = some true := by
  refine ⟨201, ?_⟩
  have hA : 0 ≤ a ∧ a < 18446744073709551616 := by omega
  unfold capnplaw02_PointerMatchesReference.f
  rw [show capnplaw02_awake.f = some true by kernel_rfl, Encode_eq (k, o, d, q, e, c, b, pd, sg, lo), rEncode_eq k o d q e c b pd sg lo hs hl 201 (by decide), Decode_eq hA, rDecode_eq hA 201 (by decide), Valid_eq (k, o, d, q, e, c, b, pd, sg, lo), rValid_eq k o d q e c b pd sg lo hs hl, isCap_f]
  simp only [Option.bind_some, if_true, beq_self_eq_true, Bool.and_self, pointer_IsNull.f]
  by_cases h3 : k = 3
  · subst h3
    simp
  · rw [if_neg h3]
    simp [h3]
end Go.Proofs.YtlkcmpamjheldaaDoor.P
