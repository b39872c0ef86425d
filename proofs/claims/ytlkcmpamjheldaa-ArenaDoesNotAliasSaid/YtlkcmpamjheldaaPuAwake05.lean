import Derived.Test.YtlkcmpamjheldaaPuArena
import Derived.Test.YtlkcmpamjheldaaPx6
set_option linter.unusedVariables false
namespace Go.Proofs.Ytlkcmpamjheldaa.P
open Go.RowKit Go.Proofs.YtlkcmpamjheldaaW.PrintWords Go.Proofs.YtlkcmpamjheldaaW.PrintLast Go.Proofs.YtlkcmpamjheldaaW.PrintMore
theorem awake_eq (k : Nat) (hk : 30 ≤ k) : capnplaw05_awake.f k = some true := le_of_mono (f := capnplaw05_awake.f) capnplaw05_awake.mono (n := 30) (by kernel_rfl) k hk
end Go.Proofs.Ytlkcmpamjheldaa.P
