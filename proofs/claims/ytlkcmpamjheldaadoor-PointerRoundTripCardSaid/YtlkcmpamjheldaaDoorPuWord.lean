import Derived.Test.YtlkcmpamjheldaaDoorPx8
import Derived.Test.YtlkcmpamjheldaaDoorPx3
import Derived.Test.YtlkcmpamjheldaaDoorPx2
set_option linter.unusedVariables false
set_option linter.unusedSimpArgs false
namespace Go.Proofs.YtlkcmpamjheldaaDoor.P
open Go.RowKit Go.Proofs.YtlkcmpamjheldaaDoorW.PrintWords Go.Proofs.YtlkcmpamjheldaaDoorW.PrintLast Go.Proofs.YtlkcmpamjheldaaDoorW.PrintMore
theorem wrap_u64_any (x : Int) : IntKind.u64.wrap x = x % 18446744073709551616 := by simp [IntKind.wrap, IntKind.bits, IntKind.signed]
theorem wrap_u64 {x : Int} (h : 0 ≤ x ∧ x < 18446744073709551616) : IntKind.u64.wrap x = x := by rw [wrap_u64_any]; omega
theorem wrap64_id {x : Int} (h : -9223372036854775808 ≤ x ∧ x < 9223372036854775808) : wrap64 x = x := by unfold wrap64; omega
theorem bits_and (x y : Int) : Go.bits .and .u64 x y = IntKind.u64.wrap (((BitVec.ofInt 64 x &&& BitVec.ofInt 64 y).toNat : Nat) : Int) := rfl
theorem bits_or (x y : Int) : Go.bits .or .u64 x y = IntKind.u64.wrap (((BitVec.ofInt 64 x ||| BitVec.ofInt 64 y).toNat : Nat) : Int) := rfl
theorem bits_andNot (x y : Int) : Go.bits .andNot .u64 x y = IntKind.u64.wrap (((BitVec.ofInt 64 x &&& ~~~BitVec.ofInt 64 y).toNat : Nat) : Int) := rfl
theorem ofInt_toNat {a : Nat} (h : a < 2 ^ 64) : (BitVec.ofInt 64 (a : Int)).toNat = a := by
  simp; omega
/-- 'and' with a mask of low bits. -/
theorem bits_and_low {a : Nat} (h : a < 2 ^ 64) {m : Nat} (hm : m ≤ 64) : Go.bits .and .u64 (a : Int) ((2 ^ m - 1 : Nat) : Int) = ((a % 2 ^ m : Nat) : Int) := by
  have hp : 2 ^ m ≤ 2 ^ 64 := Nat.pow_le_pow_right (by decide) hm
  have hq : 0 < 2 ^ m := Nat.pow_pos (by decide)
  rw [bits_and, BitVec.toNat_and, ofInt_toNat h, ofInt_toNat (show 2 ^ m - 1 < 2 ^ 64 by omega), Nat.and_two_pow_sub_one_eq_mod]
  have := Nat.mod_lt a hq
  exact wrap_u64 ⟨by omega, by omega⟩
theorem mask_eq (m : Nat) (h1 : 1 ≤ m) (h2 : m ≤ 64) : word_mask.f m = some ((2 ^ m - 1 : Nat) : Int) := by
  unfold word_mask.f
  have e1 : wrap64 (64 - (m : Int)) = ((64 - m : Nat) : Int) := by rw [wrap64_id (by omega)]; omega
  rw [e1, wrap_u64 (by omega), if_pos (by omega)]
  simp only [shr, IntKind.bits, Int.toNat_natCast, Option.some.injEq]
  rw [Nat.min_eq_left (by omega)]
  have hk : 2 ^ 64 = 2 ^ m * 2 ^ (64 - m) := by rw [← Nat.pow_add]; congr 1; omega
  have hp : 0 < 2 ^ (64 - m) := Nat.pow_pos (by decide)
  have hd : (18446744073709551615 : Nat) / 2 ^ (64 - m) = 2 ^ m - 1 := by
    rw [show (18446744073709551615 : Nat) = 2 ^ 64 - 1 from rfl, hk]
    rw [Nat.div_eq_iff hp]
    have hq : 0 < 2 ^ m := Nat.pow_pos (by decide)
    constructor
    · rw [Nat.sub_mul]; omega
    · have : (2 ^ m - 1) * 2 ^ (64 - m) = 2 ^ m * 2 ^ (64 - m) - 2 ^ (64 - m) := by rw [Nat.sub_mul, Nat.one_mul]
      have h3 : 2 ^ (64 - m) ≤ 2 ^ m * 2 ^ (64 - m) := Nat.le_mul_of_pos_left _ hq
      omega
  rw [← hd]
  simp
/-- A bit field of a word. -/
theorem field_eq (a : Nat) (h : a < 2 ^ 64) (i m : Nat) (h1 : 1 ≤ m) (h2 : i + m ≤ 64) : word_Field.f a i m = some ((a / 2 ^ i % 2 ^ m : Nat) : Int) := by
  unfold word_Field.f
  rw [wrap_u64 (by omega), if_pos (by omega), mask_eq m h1 (by omega)]
  simp only [Option.bind_some, shr, IntKind.bits, Int.toNat_natCast, Option.some.injEq]
  rw [Nat.min_eq_left (by omega)]
  have hc : ((a : Int) / 2 ^ i) = ((a / 2 ^ i : Nat) : Int) := by simp
  rw [hc]
  exact bits_and_low (Nat.lt_of_le_of_lt (Nat.div_le_self _ _) h) (by omega)
theorem shl_eq (a : Nat) (i : Nat) (hi : i < 64) : shl .u64 a i = ((a * 2 ^ i % 2 ^ 64 : Nat) : Int) := by
  simp only [shl, IntKind.bits, Int.toNat_natCast]
  rw [Nat.min_eq_left (by omega), wrap_u64_any]
  simp
theorem signed_eq (a : Nat) (h : a < 2 ^ 64) (i m : Nat) (h1 : 1 ≤ m) (h2 : i + m ≤ 64) (h3 : 1 ≤ i) :
    word_Signed.f a i m = some (if 2 ^ (m - 1) ≤ a / 2 ^ i % 2 ^ m then ((a / 2 ^ i % 2 ^ m : Nat) : Int) - ((2 ^ m : Nat) : Int) else ((a / 2 ^ i % 2 ^ m : Nat) : Int)) := by
  unfold word_Signed.f
  have e1 : wrap64 (wrap64 (64 - (i : Int)) - (m : Int)) = ((64 - i - m : Nat) : Int) := by rw [wrap64_id (x := 64 - (i : Int)) (by omega), wrap64_id (by omega)]; omega
  have e2 : wrap64 (64 - (m : Int)) = ((64 - m : Nat) : Int) := by rw [wrap64_id (by omega)]; omega
  rw [e1, e2, wrap_u64 (by omega), wrap_u64 (by omega), if_pos (by omega), if_pos (by omega), shl_eq _ _ (by omega)]
  simp only [shr, IntKind.bits, Int.toNat_natCast, Option.some.injEq]
  rw [Nat.min_eq_left (by omega)]
  -- the field stands at the top
  have key : a * 2 ^ (64 - i - m) % 2 ^ 64 = (a % 2 ^ (i + m)) * 2 ^ (64 - i - m) := by
    have : 2 ^ 64 = 2 ^ (i + m) * 2 ^ (64 - i - m) := by rw [← Nat.pow_add]; congr 1; omega
    rw [this, Nat.mul_mod_mul_right]
  have hv : a / 2 ^ i % 2 ^ m = a % 2 ^ (i + m) / 2 ^ i := by
    rw [Nat.pow_add, Nat.mod_mul_right_div_self]
  rw [key, hv]
  generalize hb : a % 2 ^ (i + m) = b
  have hb1 : b < 2 ^ (i + m) := by rw [← hb]; exact Nat.mod_lt _ (Nat.pow_pos (by decide))
  have p1 : 2 ^ (i + m) = 2 * 2 ^ (i + m - 1) := by rw [← Nat.pow_succ']; congr 1; omega
  have p2 : 2 ^ (i + m - 1) * 2 ^ (64 - i - m) = 2 ^ 63 := by rw [← Nat.pow_add]; congr 1; omega
  have p3 : 2 ^ (64 - m) = 2 ^ i * 2 ^ (64 - i - m) := by rw [← Nat.pow_add]; congr 1; omega
  have p4 : 2 ^ (i + m - 1) = 2 ^ i * 2 ^ (m - 1) := by rw [← Nat.pow_add]; congr 1; omega
  have p5 : 2 ^ (i + m) * 2 ^ (64 - i - m) = 2 ^ 64 := by rw [← Nat.pow_add]; congr 1; omega
  have p6 : 2 ^ (i + m) = 2 ^ i * 2 ^ m := by rw [← Nat.pow_add]
  have q1 : 0 < 2 ^ i := Nat.pow_pos (by decide)
  have q2 : 0 < 2 ^ (64 - i - m) := Nat.pow_pos (by decide)
  by_cases hneg : 2 ^ (i + m - 1) ≤ b
  · have hc : 2 ^ 63 ≤ b * 2 ^ (64 - i - m) := by rw [← p2]; exact Nat.mul_le_mul_right _ hneg
    have hc2 : b * 2 ^ (64 - i - m) < 2 ^ 64 := by rw [← p5]; exact Nat.mul_lt_mul_of_pos_right hb1 q2
    have hcond : 2 ^ (m - 1) ≤ b / 2 ^ i := by rw [Nat.le_div_iff_mul_le q1, Nat.mul_comm, ← p4]; exact hneg
    rw [if_pos hcond]
    have hw : wrap64 ((b * 2 ^ (64 - i - m) : Nat) : Int) = ((b * 2 ^ (64 - i - m) : Nat) : Int) - 18446744073709551616 := by
      unfold wrap64
      have : (2 : Nat) ^ 63 = 9223372036854775808 := rfl
      have : (2 : Nat) ^ 64 = 18446744073709551616 := rfl
      omega
    rw [hw]
    have h64 : (18446744073709551616 : Int) = ((2 ^ (i + m) * 2 ^ (64 - i - m) : Nat) : Int) := by rw [p5]; rfl
    rw [h64, p6]
    have e4 : ((2 : Int) ^ (64 - m)) = ((2 ^ i * 2 ^ (64 - i - m) : Nat) : Int) := by rw [← p3]; simp
    rw [e4]
    have e5 : ((b * 2 ^ (64 - i - m) : Nat) : Int) - ((2 ^ i * 2 ^ m * 2 ^ (64 - i - m) : Nat) : Int) = ((b : Int) - ((2 ^ i * 2 ^ m : Nat) : Int)) * ((2 ^ (64 - i - m) : Nat) : Int) := by push_cast; rw [Int.sub_mul]
    rw [e5, show ((2 ^ i * 2 ^ (64 - i - m) : Nat) : Int) = ((2 ^ i : Nat) : Int) * ((2 ^ (64 - i - m) : Nat) : Int) by push_cast; rfl]
    rw [Int.mul_ediv_mul_of_pos_left _ _ (by exact_mod_cast q2)]
    rw [show ((b : Int) - ((2 ^ i * 2 ^ m : Nat) : Int)) = (b : Int) + ((2 ^ i : Nat) : Int) * (-((2 ^ m : Nat) : Int)) by push_cast; rw [Int.mul_neg]; rfl]
    rw [Int.add_mul_ediv_left _ _ (by exact_mod_cast (Nat.pos_iff_ne_zero.mp q1))]
    push_cast
    rfl
  · have hcond : ¬ 2 ^ (m - 1) ≤ b / 2 ^ i := by rw [Nat.le_div_iff_mul_le q1, Nat.mul_comm, ← p4]; exact hneg
    rw [if_neg hcond]
    have hlt : b * 2 ^ (64 - i - m) < 2 ^ 63 := by rw [← p2]; exact Nat.mul_lt_mul_of_pos_right (by omega) q2
    have : (2 : Nat) ^ 63 = 9223372036854775808 := rfl
    rw [wrap64_id (by omega)]
    have e4 : ((2 : Int) ^ (64 - m)) = ((2 ^ i * 2 ^ (64 - i - m) : Nat) : Int) := by rw [← p3]; simp
    rw [e4, ← Int.natCast_ediv, Nat.mul_div_mul_right _ _ q2]
/-- A bit field is put above all that is there. -/
theorem insert_eq (a : Nat) (i m v : Nat) (ha : a < 2 ^ i) (h1 : 1 ≤ m) (h2 : i + m ≤ 64) (hv : v < 2 ^ 64) : word_Insert.f a i m v = some ((a + v % 2 ^ m * 2 ^ i : Nat) : Int) := by
  unfold word_Insert.f
  rw [mask_eq m h1 (by omega)]
  simp only [Option.bind_some]
  rw [wrap_u64 (by omega), if_pos (by omega), shl_eq _ _ (by omega), shl_eq _ _ (by omega)]
  have hi : 2 ^ i ≤ 2 ^ 64 := Nat.pow_le_pow_right (by decide) (by omega)
  have b1 : (2 ^ m - 1) * 2 ^ i % 2 ^ 64 < 2 ^ 64 := Nat.mod_lt _ (by decide)
  have b2 : v * 2 ^ i % 2 ^ 64 < 2 ^ 64 := Nat.mod_lt _ (by decide)
  have pm : 2 ^ (i + m) ≤ 2 ^ 64 := Nat.pow_le_pow_right (by decide) h2
  have pim : 2 ^ (i + m) = 2 ^ i * 2 ^ m := Nat.pow_add _ _ _
  have q : 0 < 2 ^ i := Nat.pow_pos (by decide)
  have qm : 0 < 2 ^ m := Nat.pow_pos (by decide)
  have hmask : (2 ^ m - 1) * 2 ^ i % 2 ^ 64 = (2 ^ m - 1) * 2 ^ i := by
    apply Nat.mod_eq_of_lt
    have : (2 ^ m - 1) * 2 ^ i = 2 ^ m * 2 ^ i - 2 ^ i := by rw [Nat.sub_mul, Nat.one_mul]
    have : 2 ^ m * 2 ^ i = 2 ^ (i + m) := by rw [pim, Nat.mul_comm]
    omega
  rw [hmask]
  have bm : (2 ^ m - 1) * 2 ^ i < 2 ^ 64 := by rw [← hmask]; exact b1
  have hlow : ∀ j, (2 ^ m - 1).testBit j = decide (j < m) := fun j => Nat.testBit_two_pow_sub_one m j
  have f1 : Go.bits .andNot .u64 (a : Int) (((2 ^ m - 1) * 2 ^ i : Nat) : Int) = (a : Int) := by
    rw [bits_andNot]
    have e : (BitVec.ofInt 64 (a : Int) &&& ~~~BitVec.ofInt 64 (((2 ^ m - 1) * 2 ^ i : Nat) : Int)).toNat = a := by
      apply Nat.eq_of_testBit_eq
      intro j
      rw [BitVec.toNat_and, Nat.testBit_and, BitVec.toNat_not, ofInt_toNat (by omega), ofInt_toNat bm]
      by_cases hj : j < i
      · rw [show 2 ^ 64 - 1 - (2 ^ m - 1) * 2 ^ i = 2 ^ 64 - ((2 ^ m - 1) * 2 ^ i + 1) by omega, Nat.testBit_two_pow_sub_succ bm]
        rw [Nat.testBit_mul_two_pow]
        simp only [show ¬ i ≤ j by omega, decide_false, Bool.false_and, Bool.not_false, Bool.and_true]
        simp only [show j < 64 by omega, decide_true, Bool.and_true]
      · rw [Nat.testBit_lt_two_pow (Nat.lt_of_lt_of_le ha (Nat.pow_le_pow_right (by decide) (by omega)))]
        simp
    rw [e]
    exact wrap_u64 ⟨by omega, by omega⟩
  have f2 : Go.bits .and .u64 ((v * 2 ^ i % 2 ^ 64 : Nat) : Int) (((2 ^ m - 1) * 2 ^ i : Nat) : Int) = ((v % 2 ^ m * 2 ^ i : Nat) : Int) := by
    rw [bits_and]
    have hb : v % 2 ^ m * 2 ^ i < 2 ^ 64 := by
      have h3 := Nat.mod_lt v qm
      have : v % 2 ^ m * 2 ^ i < 2 ^ m * 2 ^ i := Nat.mul_lt_mul_of_pos_right h3 q
      have : 2 ^ m * 2 ^ i = 2 ^ (i + m) := by rw [pim, Nat.mul_comm]
      omega
    have e : (BitVec.ofInt 64 ((v * 2 ^ i % 2 ^ 64 : Nat) : Int) &&& BitVec.ofInt 64 (((2 ^ m - 1) * 2 ^ i : Nat) : Int)).toNat = v % 2 ^ m * 2 ^ i := by
      apply Nat.eq_of_testBit_eq
      intro j
      rw [BitVec.toNat_and, Nat.testBit_and, ofInt_toNat b2, ofInt_toNat bm, Nat.testBit_mod_two_pow, Nat.testBit_mul_two_pow, Nat.testBit_mul_two_pow, Nat.testBit_mul_two_pow, hlow, Nat.testBit_mod_two_pow]
      by_cases hj : i ≤ j
      · by_cases hk : j - i < m
        · simp [hj, hk, show j < 64 by omega]
        · simp [hj, hk]
      · simp [hj]
    rw [e]
    exact wrap_u64 ⟨by omega, by omega⟩
  rw [f1, f2]
  rw [bits_or]
  simp only [Option.some.injEq]
  have hb : v % 2 ^ m * 2 ^ i < 2 ^ 64 := by
    have h3 := Nat.mod_lt v qm
    have : v % 2 ^ m * 2 ^ i < 2 ^ m * 2 ^ i := Nat.mul_lt_mul_of_pos_right h3 q
    have : 2 ^ m * 2 ^ i = 2 ^ (i + m) := by rw [pim, Nat.mul_comm]
    omega
  have e : (BitVec.ofInt 64 (a : Int) ||| BitVec.ofInt 64 ((v % 2 ^ m * 2 ^ i : Nat) : Int)).toNat = a + v % 2 ^ m * 2 ^ i := by
    rw [BitVec.toNat_or, ofInt_toNat (by omega), ofInt_toNat hb]
    rw [Nat.add_comm, Nat.mul_comm (v % 2 ^ m), Nat.or_comm]
    exact (Nat.two_pow_add_eq_or_of_lt ha _).symm
  rw [e]
  refine wrap_u64 ⟨by omega, ?_⟩
  have h3 := Nat.mod_lt v qm
  have : (v % 2 ^ m + 1) * 2 ^ i ≤ 2 ^ m * 2 ^ i := Nat.mul_le_mul_right _ h3
  have : 2 ^ m * 2 ^ i = 2 ^ (i + m) := by rw [pim, Nat.mul_comm]
  have : (v % 2 ^ m + 1) * 2 ^ i = v % 2 ^ m * 2 ^ i + 2 ^ i := by rw [Nat.add_mul, Nat.one_mul]
  omega
end Go.Proofs.YtlkcmpamjheldaaDoor.P
