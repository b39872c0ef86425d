import Derived.Test.YtlkcmpamjheldaaWMore
set_option linter.unusedVariables false
namespace Go.Proofs.Ytlkcmpamjheldaa.P
open Go.RowKit Go.Proofs.YtlkcmpamjheldaaW.PrintWords Go.Proofs.YtlkcmpamjheldaaW.PrintLast Go.Proofs.YtlkcmpamjheldaaW.PrintMore
theorem wrap_u64_any (x : Int) : IntKind.u64.wrap x = x % 18446744073709551616 := by simp [IntKind.wrap, IntKind.bits, IntKind.signed]
theorem wrap_u64 {x : Int} (h : 0 ≤ x ∧ x < 18446744073709551616) : IntKind.u64.wrap x = x := by rw [wrap_u64_any]; omega
theorem wrap64_id {x : Int} (h : -9223372036854775808 ≤ x ∧ x < 9223372036854775808) : wrap64 x = x := by unfold wrap64; omega
/-- A list of words that a slice can hold; a list of segments. -/
def Words (xs : List Int) : Prop := xs.length ≤ 9223372036854775807 ∧ ∀ x ∈ xs, 0 ≤ x ∧ x ≤ 18446744073709551615
def Bytes (xs : List Int) : Prop := xs.length ≤ 9223372036854775807 ∧ ∀ x ∈ xs, 0 ≤ x ∧ x ≤ 255
def Segs (l : List (List Int)) : Prop := l.length ≤ 9223372036854775807 ∧ ∀ s ∈ l, Words s
end Go.Proofs.Ytlkcmpamjheldaa.P
