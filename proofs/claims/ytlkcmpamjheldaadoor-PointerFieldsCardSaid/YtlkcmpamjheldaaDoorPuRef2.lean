import Derived.Test.YtlkcmpamjheldaaDoorPuPtr
set_option linter.unusedVariables false
set_option linter.unusedSimpArgs false
namespace Go.Proofs.YtlkcmpamjheldaaDoor.P
open Go.RowKit Go.Proofs.YtlkcmpamjheldaaDoorW.PrintWords Go.Proofs.YtlkcmpamjheldaaDoorW.PrintLast Go.Proofs.YtlkcmpamjheldaaDoorW.PrintMore
theorem wrap_nat {n : Nat} (h : n < 2 ^ 64) : IntKind.u64.wrap (n : Int) = n := wrap_u64 ⟨Int.natCast_nonneg _, by omega⟩
theorem pow_loop (n : Nat) (hn : n ≤ 63) : ∀ (d k j : Nat), j + d = n → d < k → capnpref01_Pow.l0 k n ((2 ^ j : Nat) : Int) j = some ((2 ^ n : Nat) : Int) := by
  intro d
  induction d with
  | zero =>
    intro k j hj hk
    obtain ⟨k, rfl⟩ : ∃ m, k = m + 1 := ⟨k - 1, by omega⟩
    obtain rfl : j = n := by omega
    simp only [capnpref01_Pow.l0]
    rw [if_neg (by omega)]
  | succ d ih =>
    intro k j hj hk
    obtain ⟨k, rfl⟩ : ∃ m, k = m + 1 := ⟨k - 1, by omega⟩
    simp only [capnpref01_Pow.l0]
    rw [if_pos (by omega), wrap64_id (by omega)]
    have h2 : 2 ^ (j + 1) ≤ 2 ^ 63 := Nat.pow_le_pow_right (by decide) (by omega)
    have e : ((2 ^ j : Nat) : Int) * 2 = ((2 ^ (j + 1) : Nat) : Int) := by rw [Nat.pow_succ]; push_cast; rfl
    rw [e, wrap_nat (by omega)]
    exact ih k (j + 1) (by omega) (by omega)
theorem Pow_eq (n : Nat) (hn : n ≤ 63) (k : Nat) (hk : n < k) : capnpref01_Pow.f k n = some ((2 ^ n : Nat) : Int) := pow_loop n hn n k 0 (by omega) hk
theorem rfield_loop (a : Nat) (ha : a < 2 ^ 64) (i m : Nat) (h2 : i + m ≤ 64) : ∀ (d k j : Nat), j + d = m → d + 64 < k → capnpref01_Field.l0 k a i m ((a / 2 ^ i % 2 ^ j : Nat) : Int) j = some ((a / 2 ^ i % 2 ^ m : Nat) : Int) := by
  intro d
  induction d with
  | zero =>
    intro k j hj hk
    obtain ⟨k, rfl⟩ : ∃ q, k = q + 1 := ⟨k - 1, by omega⟩
    obtain rfl : j = m := by omega
    simp only [capnpref01_Field.l0]
    rw [if_neg (by omega)]
  | succ d ih =>
    intro k j hj hk
    obtain ⟨k, rfl⟩ : ∃ q, k = q + 1 := ⟨k - 1, by omega⟩
    simp only [capnpref01_Field.l0]
    rw [if_pos (by omega), wrap64_id (x := (i : Int) + (j : Int)) (by omega), show (i : Int) + (j : Int) = ((i + j : Nat) : Int) by push_cast; rfl, Pow_eq _ (by omega) k (by omega)]
    simp only [Option.bind_some]
    have hp : 0 < 2 ^ (i + j) := Nat.pow_pos (by decide)
    rw [if_neg (by omega)]
    have hdv : Int.tdiv (a : Int) ((2 ^ (i + j) : Nat) : Int) = ((a / 2 ^ (i + j) : Nat) : Int) := by rw [Int.tdiv_eq_ediv_of_nonneg (Int.natCast_nonneg _)]; push_cast; rfl
    have hlt : a / 2 ^ (i + j) < 2 ^ 64 := Nat.lt_of_le_of_lt (Nat.div_le_self _ _) ha
    rw [hdv, wrap_nat hlt]
    have hmd : Int.tmod ((a / 2 ^ (i + j) : Nat) : Int) 2 = ((a / 2 ^ (i + j) % 2 : Nat) : Int) := by rw [Int.tmod_eq_emod_of_nonneg (Int.natCast_nonneg _)]; push_cast; rfl
    rw [hmd]
    have hs : a / 2 ^ i % 2 ^ (j + 1) = a / 2 ^ i % 2 ^ j + 2 ^ j * (a / 2 ^ (i + j) % 2) := by
      rw [Nat.mod_pow_succ, Nat.div_div_eq_div_mul, ← Nat.pow_add]
    have hjj : (j : Int) + 1 = ((j + 1 : Nat) : Int) := by push_cast; rfl
    have hb : a / 2 ^ i % 2 ^ (j + 1) < 2 ^ 64 := Nat.lt_of_le_of_lt (Nat.mod_le _ _) (Nat.lt_of_le_of_lt (Nat.div_le_self _ _) ha)
    rw [wrap64_id (x := (j : Int) + 1) (by omega), hjj]
    rcases Nat.mod_two_eq_zero_or_one (a / 2 ^ (i + j)) with h0 | h0
    · rw [if_neg (by omega)]
      rw [h0] at hs
      rw [show a / 2 ^ i % 2 ^ j = a / 2 ^ i % 2 ^ (j + 1) by omega]
      exact ih k (j + 1) (by omega) (by omega)
    · rw [if_pos (by omega), Pow_eq _ (by omega) k (by omega)]
      simp only [Option.bind_some]
      rw [h0, Nat.mul_one] at hs
      rw [show ((a / 2 ^ i % 2 ^ j : Nat) : Int) + ((2 ^ j : Nat) : Int) = ((a / 2 ^ i % 2 ^ (j + 1) : Nat) : Int) by rw [hs]; push_cast; rfl, wrap_nat hb]
      exact ih k (j + 1) (by omega) (by omega)
theorem rField_eq {a : Int} (h : 0 ≤ a ∧ a < 18446744073709551616) (i m : Nat) (h2 : i + m ≤ 64) (k : Nat) (hk : 200 < k) : capnpref01_Field.f k a i m = some (a / 2 ^ i % 2 ^ m) := by
  obtain ⟨n, rfl⟩ := Int.eq_ofNat_of_zero_le h.1
  unfold capnpref01_Field.f
  have := rfield_loop n (by omega) i m h2 m k 0 (by omega) (by omega)
  simp only [Nat.pow_zero, Nat.mod_one] at this
  rw [show ((0 : Nat) : Int) = 0 from rfl] at this
  rw [this]
  simp
theorem rSigned_eq {a : Int} (h : 0 ≤ a ∧ a < 18446744073709551616) (k : Nat) (hk : 200 < k) : capnpref01_Signed.f k a 2 30 = some (sgn30 (a / 4 % 1073741824)) := by
  unfold capnpref01_Signed.f
  have e1 : capnpref01_Field.f k a 2 30 = some (a / 4 % 1073741824) := rField_eq h 2 30 (by decide) k hk
  have e2 : capnpref01_Pow.f k (wrap64 (30 - 1)) = some 536870912 := by rw [show wrap64 (30 - 1) = ((29 : Nat) : Int) by rw [wrap64_id (by omega)]; rfl, Pow_eq 29 (by decide) k (by omega)]; rfl
  rw [e1]
  simp only [Option.bind_some]
  rw [if_neg (by decide), e2]
  simp only [Option.bind_some]
  unfold sgn30
  by_cases hc : a / 4 % 1073741824 ≥ 536870912
  · rw [if_pos hc, if_pos hc]
    simp only [Option.some.injEq]
    rw [wrap64_id (x := a / 4 % 1073741824) (by omega), wrap64_id (x := 536870912) (by omega), wrap64_id (x := a / 4 % 1073741824 - 536870912) (by omega), wrap64_id (by omega)]
    omega
  · rw [if_neg hc, if_neg (by omega), wrap64_id (by omega)]
theorem rDecode_eq {a : Int} (h : 0 ≤ a ∧ a < 18446744073709551616) (k : Nat) (hk : 200 < k) : capnpref02_Decode.f k a = some (decI a) := by
  have k1 : capnpref01_Field.f k a 32 16 = some (a / 4294967296 % 65536) := rField_eq h 32 16 (by decide) k hk
  have k2 : capnpref01_Field.f k a 48 16 = some (a / 281474976710656 % 65536) := rField_eq h 48 16 (by decide) k hk
  have k3 : capnpref01_Field.f k a 32 3 = some (a / 4294967296 % 8) := rField_eq h 32 3 (by decide) k hk
  have k4 : capnpref01_Field.f k a 35 29 = some (a / 34359738368 % 536870912) := rField_eq h 35 29 (by decide) k hk
  have k5 : capnpref01_Field.f k a 2 1 = some (a / 4 % 2) := rField_eq h 2 1 (by decide) k hk
  have k6 : capnpref01_Field.f k a 3 29 = some (a / 8 % 536870912) := rField_eq h 3 29 (by decide) k hk
  have k8 : capnpref01_Field.f k a 2 30 = some (a / 4 % 1073741824) := rField_eq h 2 30 (by decide) k hk
  have hm : wrap64 (Int.tmod a 4) = a % 4 := by rw [Int.tmod_eq_emod_of_nonneg h.1, wrap64_id (by omega)]
  have hd : IntKind.u64.wrap (Int.tdiv a 4294967296) = a / 4294967296 := by rw [Int.tdiv_eq_ediv_of_nonneg h.1, wrap_u64 (by omega)]
  unfold capnpref02_Decode.f decI
  rw [hm, k1, k2, k3, k4, k5, k6, k8, rSigned_eq h k hk, hd]
  simp only [Option.bind_some]
  rw [wrap64_id (x := a / 4294967296 % 65536) (by omega), wrap64_id (x := a / 281474976710656 % 65536) (by omega), wrap64_id (x := a / 4294967296 % 8) (by omega), wrap64_id (x := a / 34359738368 % 536870912) (by omega), wrap64_id (x := a / 8 % 536870912) (by omega)]
  rw [show a / 4 % 1073741824 % 4294967296 = a / 4 % 1073741824 by omega]
  by_cases c0 : a % 4 = 0
  · simp [c0]
  by_cases c1 : a % 4 = 1
  · simp [c1]
  by_cases c2 : a % 4 = 2
  · simp [c2]
  · have c3 : a % 4 = 3 := by omega
    simp [c3]
theorem rValid_eq (k o d q e c : Int) (b : Bool) (pd sg lo : Int) (hs : 0 ≤ sg ∧ sg ≤ 4294967295) (hl : 0 ≤ lo ∧ lo ≤ 4294967295) : capnpref02_Valid.f k o d q e c b pd sg lo = some (decide (vldP (k, o, d, q, e, c, b, pd, sg, lo))) := by
  have beq0 : ∀ x : Int, (0 == x) = decide (x = 0) := fun x => by
    by_cases h : x = 0
    · subst h; rfl
    · rw [decide_eq_false h]; rw [beq_eq_false_iff_ne]; omega
  have ofs : ∀ x : Int, capnpref02_offset.f x = some (decide (-536870912 ≤ x ∧ x ≤ 536870911)) := fun x => by
    unfold capnpref02_offset.f
    by_cases h : x ≥ -536870912
    · rw [if_pos h]
      simp [h]
      try (intro; omega)
    · rw [if_neg h]
      simp [h]
      try omega
  unfold capnpref02_Valid.f
  simp only [beq0, ofs, Option.bind_some]
  cases b
  all_goals
    repeat' split
    all_goals
      simp only [Option.some.injEq]
      rw [Bool.eq_iff_iff]
      simp only [Bool.and_eq_true, decide_eq_true_eq, Bool.not_eq_true', Bool.false_eq_true, Bool.true_eq_false, Bool.not_true, Bool.not_false, and_true, true_and, and_false, false_and, false_iff, vldP, not_and, reduceCtorEq, or_false, false_or] at *
      try omega
theorem rEncode_eq (k o d q e c : Int) (b : Bool) (pd sg lo : Int) (hs : 0 ≤ sg ∧ sg ≤ 4294967295) (hl : 0 ≤ lo ∧ lo ≤ 4294967295) (n : Nat) (hn : 0 < n) :
    capnpref02_Encode.f n k o d q e c b pd sg lo = some (if vldP (k, o, d, q, e, c, b, pd, sg, lo) then (pakI (k, o, d, q, e, c, b, pd, sg, lo), true) else (0, false)) := by
  obtain ⟨n, rfl⟩ : ∃ m, n = m + 1 := ⟨n - 1, by omega⟩
  unfold capnpref02_Encode.f
  rw [rValid_eq k o d q e c b pd sg lo hs hl]
  simp only [Option.bind_some, decide_eq_true_eq]
  by_cases hv : vldP (k, o, d, q, e, c, b, pd, sg, lo)
  · rw [if_pos hv, if_pos hv]
    have hw : ∀ x : Int, 0 ≤ x ∧ x < 18446744073709551616 → IntKind.u64.wrap x = x := fun x h => wrap_u64 h
    have hm : ∀ x : Int, -536870912 ≤ x ∧ x ≤ 536870911 → (if x < 0 then wrap64 (x + 1073741824) else x) = x % 1073741824 := fun x h => by
      split
      · rw [wrap64_id (by omega)]; omega
      · omega
    unfold vldP at hv
    simp only at hv
    have key : ∀ x5 : Int, x5 = (if o < 0 then wrap64 (o + 1073741824) else o) → capnpref02_Encode.j0 (n + 1) (IntKind.u64.wrap k) x5 k o d q e c b pd sg lo = some (pakI (k, o, d, q, e, c, b, pd, sg, lo), true) := by
      intro x5 hx5
      simp only [capnpref02_Encode.j0]
      rcases hv with ⟨rfl, h1, h2, h3, h4, h5, h6, rfl, rfl, rfl, rfl, rfl, rfl⟩ | ⟨rfl, h1, h2, rfl, rfl, h3, h4, h5, h6, rfl, rfl, rfl, rfl⟩ | ⟨rfl, rfl, rfl, rfl, rfl, rfl, h1, h2, h3, h4, rfl⟩ | ⟨rfl, rfl, rfl, rfl, rfl, rfl, rfl, rfl, h1, h2, h3, h4⟩
      · rw [hm o ⟨h1, h2⟩] at hx5
        subst hx5
        simp only [if_true, pakI, Option.some.injEq, Prod.mk.injEq, and_true]
        rw [hw 0 (by omega), hw (o % 1073741824) (by omega), hw d (by omega), hw q (by omega), hw (4 * (o % 1073741824)) (by omega), hw (4294967296 * d) (by omega), hw (281474976710656 * q) (by omega), hw (0 + _) (by omega), hw (_ + 4294967296 * d) (by omega), hw (_ + 281474976710656 * q) (by omega)]
        omega
      · rw [hm o ⟨h1, h2⟩] at hx5
        subst hx5
        simp only [if_true, show ¬ ((1 : Int) = 0) by decide, if_false, pakI, Option.some.injEq, Prod.mk.injEq, and_true]
        rw [hw 1 (by omega), hw (o % 1073741824) (by omega), hw e (by omega), hw c (by omega), hw (4 * (o % 1073741824)) (by omega), hw (4294967296 * e) (by omega), hw (34359738368 * c) (by omega), hw (1 + _) (by omega), hw (_ + 4294967296 * e) (by omega), hw (_ + 34359738368 * c) (by omega)]
        omega
      · cases b
        · simp only [if_true, show ¬ ((2 : Int) = 0) by decide, show ¬ ((2 : Int) = 1) by decide, Bool.false_eq_true, if_false, pakI, Option.some.injEq, Prod.mk.injEq, and_true]
          rw [hw 2 (by omega), hw pd (by omega), hw sg (by omega), hw (8 * pd) (by omega), hw (4294967296 * sg) (by omega), hw (2 + _) (by omega), hw (_ + 4294967296 * sg) (by omega)]
          omega
        · simp only [if_true, show ¬ ((2 : Int) = 0) by decide, show ¬ ((2 : Int) = 1) by decide, if_false, pakI, Option.some.injEq, Prod.mk.injEq, and_true]
          rw [hw 2 (by omega), hw pd (by omega), hw sg (by omega), hw (8 * pd) (by omega), hw (4294967296 * sg) (by omega), hw (2 + 4) (by omega), hw (2 + 4 + _) (by omega), hw (_ + 4294967296 * sg) (by omega)]
          omega
      · simp only [show ¬ ((3 : Int) = 0) by decide, show ¬ ((3 : Int) = 1) by decide, show ¬ ((3 : Int) = 2) by decide, if_false, pakI, Option.some.injEq, Prod.mk.injEq, and_true]
        rw [hw 3 (by omega), hw lo (by omega), hw sg (by omega), hw (4 * lo) (by omega), hw (4294967296 * sg) (by omega), hw (3 + _) (by omega), hw (_ + 4294967296 * sg) (by omega)]
        omega
    split
    · rename_i ho
      exact key _ (by rw [if_pos ho])
    · rename_i ho
      exact key _ (by rw [if_neg ho])
  · rw [if_neg hv, if_neg hv]
end Go.Proofs.YtlkcmpamjheldaaDoor.P
