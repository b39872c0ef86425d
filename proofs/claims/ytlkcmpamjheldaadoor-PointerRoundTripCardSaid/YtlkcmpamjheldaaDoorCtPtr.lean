import Derived.Test.YtlkcmpamjheldaaDoorPuPtr
import Derived.Test.YtlkcmpamjheldaaDoorGlob
set_option linter.unusedVariables false
set_option linter.unusedSimpArgs false
namespace Go.Proofs.YtlkcmpamjheldaaDoor.P
open Go.RowKit Go.Proofs.YtlkcmpamjheldaaDoorW.PrintWords Go.Proofs.YtlkcmpamjheldaaDoorW.PrintLast Go.Proofs.YtlkcmpamjheldaaDoorW.PrintMore
/-- A pointer as a value. -/
abbrev pv (k o d q e c : Int) (b : Bool) (pd sg lo : Int) : Value := .agg #[.int .i64 k, .int .i64 o, .int .i64 d, .int .i64 q, .int .i64 e, .int .i64 c, .bool b, .int .i64 pd, .int .u32 sg, .int .u32 lo]
theorem Dec_k (a : Int) (k o d q e c : Int) (b : Bool) (pd sg lo : Int) (h : 0 ≤ a ∧ a < 18446744073709551616) (hd : decI a = (k, o, d, q, e, c, b, pd, sg, lo)) (W : World) (hG : Glob W) :
    Calls Tryd.prog 11 #[.int .u64 a] W fun r w' => r = .returned (pv k o d q e c b pd sg lo) ∧ Below W.heap.size W w' :=
  pointer_Decode.calls a k o d q e c b pd sg lo W hG ((Decode_eq h).trans (by rw [hd]))
theorem Enc_k (k o d q e c : Int) (b : Bool) (pd sg lo : Int) (hv : vldP (k, o, d, q, e, c, b, pd, sg, lo)) (W : World) (hG : Glob W) :
    Calls Tryd.prog 9 #[pv k o d q e c b pd sg lo] W fun r w' => r = .returned (.tuple #[.int .u64 (pakI (k, o, d, q, e, c, b, pd, sg, lo)), .bool true]) ∧ Below W.heap.size W w' :=
  pointer_Encode.calls k o d q e c b pd sg lo _ _ W hG (by rw [Encode_eq (k, o, d, q, e, c, b, pd, sg, lo), if_pos hv])
theorem Enc_no (k o d q e c : Int) (b : Bool) (pd sg lo : Int) (hv : ¬ vldP (k, o, d, q, e, c, b, pd, sg, lo)) (W : World) (hG : Glob W) :
    Calls Tryd.prog 9 #[pv k o d q e c b pd sg lo] W fun r w' => r = .returned (.tuple #[.int .u64 0, .bool false]) ∧ Below W.heap.size W w' :=
  pointer_Encode.calls k o d q e c b pd sg lo _ _ W hG (by rw [Encode_eq (k, o, d, q, e, c, b, pd, sg, lo), if_neg hv])
theorem Val_k (k o d q e c : Int) (b : Bool) (pd sg lo : Int) (r : Bool) (hr : decide (vldP (k, o, d, q, e, c, b, pd, sg, lo)) = r) (W : World) (hG : Glob W) : Calls Tryd.prog 13 #[pv k o d q e c b pd sg lo] W fun x w' => x = .returned (.bool r) ∧ Below W.heap.size W w' := pointer_Valid.calls k o d q e c b pd sg lo _ W hG ((Valid_eq (k, o, d, q, e, c, b, pd, sg, lo)).trans (by rw [hr]))
end Go.Proofs.YtlkcmpamjheldaaDoor.P
