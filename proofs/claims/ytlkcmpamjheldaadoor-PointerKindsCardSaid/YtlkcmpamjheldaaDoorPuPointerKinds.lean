import Derived.Test.YtlkcmpamjheldaaDoorCtPtr
import Derived.Test.YtlkcmpamjheldaaDoorPx23
set_option linter.unusedVariables false
set_option linter.unusedSimpArgs false
namespace Go.Proofs.YtlkcmpamjheldaaDoor.P
open Go.RowKit Go.Proofs.YtlkcmpamjheldaaDoorW.PrintWords Go.Proofs.YtlkcmpamjheldaaDoorW.PrintLast Go.Proofs.YtlkcmpamjheldaaDoorW.PrintMore
theorem isCapK (k o d q e c : Int) (b : Bool) (pd sg lo : Int) : pointer_IsCapability.f k o d q e c b pd sg lo = some (k == 3 && lo == 0) := by
  unfold pointer_IsCapability.f
  by_cases h : k = 3
  · subst h; simp
  · rw [if_neg h]; simp [h]
theorem sgn30_range {v : Int} (h : 0 ≤ v ∧ v < 1073741824) : -536870912 ≤ sgn30 v ∧ sgn30 v ≤ 536870911 ∧ (sgn30 v = 0 ↔ v = 0) := by
  unfold sgn30
  split <;> omega
theorem PointerKinds_pure (a : Int) (ha : 0 ≤ a ∧ a ≤ 18446744073709551615) : ∃ n, capnplaw02_PointerKinds.f n a = some true := by
  refine ⟨0 + 1, ?_⟩
  have hA : 0 ≤ a ∧ a < 18446744073709551616 := by omega
  have hm : wrap64 (Int.tmod a 4) = a % 4 := by rw [Int.tmod_eq_emod_of_nonneg hA.1, wrap64_id (by omega)]
  have hm2 : Int.tmod a 4294967296 = a % 4294967296 := by rw [Int.tmod_eq_emod_of_nonneg hA.1]
  have hd : IntKind.u64.wrap (Int.tdiv a 4294967296) % 4294967296 = a / 4294967296 % 4294967296 := by rw [Int.tdiv_eq_ediv_of_nonneg hA.1, wrap_u64_any]; omega
  have hv := decI_valid hA
  obtain ⟨s1, s2, s3⟩ := sgn30_range (v := a / 4 % 1073741824) (by omega)
  unfold capnplaw02_PointerKinds.f
  rw [show capnplaw02_awake.f = some true by kernel_rfl, Decode_eq hA]
  simp only [Option.bind_some, if_true, hm, hm2, pointer_IsNull.f, isCapK, capnplaw02_PointerKinds.j0, hd]
  by_cases c0 : a % 4 = 0
  · have e : decI a = (0, sgn30 (a / 4 % 1073741824), a / 4294967296 % 65536, a / 281474976710656 % 65536, 0, 0, false, 0, 0, 0) := by unfold decI; rw [if_pos c0]
    have n : (a == 0) = (sgn30 (a / 4 % 1073741824) == 0 && (a / 4294967296 % 65536 == 0 && a / 281474976710656 % 65536 == 0)) := by
      rw [Bool.eq_iff_iff]
      simp only [Bool.and_eq_true, beq_iff_eq, s3]
      omega
    have m : (a % 4294967296 == 3) = false := by rw [beq_eq_false_iff_ne]; omega
    rw [e, n, m]
    simp [c0]
    rw [if_pos s1, if_pos s2, if_pos (by omega), if_pos (by omega), if_pos (by omega)]
    simp only [Option.some.injEq, decide_eq_true_eq]
    omega
  by_cases c1 : a % 4 = 1
  · have e : decI a = (1, sgn30 (a / 4 % 1073741824), 0, 0, a / 4294967296 % 8, a / 34359738368 % 536870912, false, 0, 0, 0) := by unfold decI; rw [if_neg c0, if_pos c1]
    have n : (a == 0) = false := by rw [beq_eq_false_iff_ne]; omega
    have m : (a % 4294967296 == 3) = false := by rw [beq_eq_false_iff_ne]; omega
    rw [e, n, m]
    simp [c1]
    rw [if_pos s1, if_pos s2, if_pos (by omega), if_pos (by omega), if_pos (by omega)]
    simp only [Option.some.injEq, decide_eq_true_eq]
    omega
  by_cases c2 : a % 4 = 2
  · have e : decI a = (2, 0, 0, 0, 0, 0, a / 4 % 2 == 1, a / 8 % 536870912, a / 4294967296 % 4294967296, 0) := by unfold decI; rw [if_neg c0, if_neg c1, if_pos c2]
    have n : (a == 0) = false := by rw [beq_eq_false_iff_ne]; omega
    have m : (a % 4294967296 == 3) = false := by rw [beq_eq_false_iff_ne]; omega
    rw [e, n, m]
    simp [c2]
    rw [if_pos (by omega), if_pos (by omega)]
  · have c3 : a % 4 = 3 := by omega
    have e : decI a = (3, 0, 0, 0, 0, 0, false, 0, a / 4294967296 % 4294967296, a / 4 % 1073741824) := by unfold decI; rw [if_neg c0, if_neg c1, if_neg c2]
    have n : (a == 0) = false := by rw [beq_eq_false_iff_ne]; omega
    have m : (a % 4294967296 == 3) = (a / 4 % 1073741824 == 0) := by
      rw [Bool.eq_iff_iff]
      simp only [beq_iff_eq]
      omega
    rw [e, n, m]
    simp [c3]
    omega
end Go.Proofs.YtlkcmpamjheldaaDoor.P
