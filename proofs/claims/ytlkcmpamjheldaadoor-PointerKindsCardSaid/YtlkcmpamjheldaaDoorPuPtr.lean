import Derived.Test.YtlkcmpamjheldaaDoorPuWord
import Derived.Test.YtlkcmpamjheldaaDoorPx7
import Derived.Test.YtlkcmpamjheldaaDoorPx9
import Derived.Test.YtlkcmpamjheldaaDoorPx10
import Derived.Test.YtlkcmpamjheldaaDoorPx11
set_option linter.unusedVariables false
set_option linter.unusedSimpArgs false
namespace Go.Proofs.YtlkcmpamjheldaaDoor.P
open Go.RowKit Go.Proofs.YtlkcmpamjheldaaDoorW.PrintWords Go.Proofs.YtlkcmpamjheldaaDoorW.PrintLast Go.Proofs.YtlkcmpamjheldaaDoorW.PrintMore
abbrev PT := Int × Int × Int × Int × Int × Int × Bool × Int × Int × Int
def sgn30 (v : Int) : Int := if 536870912 ≤ v then v - 1073741824 else v
/-- What a word decodes to. -/
def decI (a : Int) : PT :=
  if a % 4 = 0 then (0, sgn30 (a / 4 % 1073741824), a / 4294967296 % 65536, a / 281474976710656 % 65536, 0, 0, false, 0, 0, 0)
  else if a % 4 = 1 then (1, sgn30 (a / 4 % 1073741824), 0, 0, a / 4294967296 % 8, a / 34359738368 % 536870912, false, 0, 0, 0)
  else if a % 4 = 2 then (2, 0, 0, 0, 0, 0, a / 4 % 2 == 1, a / 8 % 536870912, a / 4294967296 % 4294967296, 0)
  else (3, 0, 0, 0, 0, 0, false, 0, a / 4294967296 % 4294967296, a / 4 % 1073741824)
theorem fieldI {a : Int} (h : 0 ≤ a ∧ a < 18446744073709551616) (i m : Nat) (h1 : 1 ≤ m) (h2 : i + m ≤ 64) : word_Field.f a i m = some (a / 2 ^ i % 2 ^ m) := by
  obtain ⟨n, rfl⟩ := Int.eq_ofNat_of_zero_le h.1
  rw [field_eq n (by omega) i m h1 h2]
  simp
theorem signedI {a : Int} (h : 0 ≤ a ∧ a < 18446744073709551616) : word_Signed.f a 2 30 = some (sgn30 (a / 4 % 1073741824)) := by
  obtain ⟨n, rfl⟩ := Int.eq_ofNat_of_zero_le h.1
  refine (signed_eq n (by omega) 2 30 (by decide) (by decide) (by decide)).trans ?_
  unfold sgn30
  simp only [Option.some.injEq]
  rw [show (2 : Nat) ^ (30 - 1) = 536870912 from rfl, show (2 : Nat) ^ 2 = 4 from rfl, show (2 : Nat) ^ 30 = 1073741824 from rfl]
  split <;> split <;> omega
theorem Decode_eq {a : Int} (h : 0 ≤ a ∧ a < 18446744073709551616) : pointer_Decode.f a = some (decI a) := by
  have k0 : word_Field.f a 0 2 = some (a % 4) := by have := fieldI h 0 2 (by decide) (by decide); simpa using this
  have k1 : word_Field.f a 32 16 = some (a / 4294967296 % 65536) := fieldI h 32 16 (by decide) (by decide)
  have k2 : word_Field.f a 48 16 = some (a / 281474976710656 % 65536) := fieldI h 48 16 (by decide) (by decide)
  have k3 : word_Field.f a 32 3 = some (a / 4294967296 % 8) := fieldI h 32 3 (by decide) (by decide)
  have k4 : word_Field.f a 35 29 = some (a / 34359738368 % 536870912) := fieldI h 35 29 (by decide) (by decide)
  have k5 : word_Field.f a 2 1 = some (a / 4 % 2) := fieldI h 2 1 (by decide) (by decide)
  have k6 : word_Field.f a 3 29 = some (a / 8 % 536870912) := fieldI h 3 29 (by decide) (by decide)
  have k7 : word_Field.f a 32 32 = some (a / 4294967296 % 4294967296) := fieldI h 32 32 (by decide) (by decide)
  have k8 : word_Field.f a 2 30 = some (a / 4 % 1073741824) := fieldI h 2 30 (by decide) (by decide)
  unfold pointer_Decode.f pointer_decoders_1.f pointer_decoders_2.f pointer_decoders_3.f pointer_decoders_4.f decI
  rw [k0, k1, k2, k3, k4, k5, k6, k7, k8, signedI h]
  simp only [Option.bind_some]
  rw [wrap64_id (x := a / 4294967296 % 65536) (by omega), wrap64_id (x := a / 281474976710656 % 65536) (by omega), wrap64_id (x := a / 4294967296 % 8) (by omega), wrap64_id (x := a / 34359738368 % 536870912) (by omega), wrap64_id (x := a / 8 % 536870912) (by omega)]
  rw [show a / 4294967296 % 4294967296 % 4294967296 = a / 4294967296 % 4294967296 by omega, show a / 4 % 1073741824 % 4294967296 = a / 4 % 1073741824 by omega]
  by_cases c0 : a % 4 = 0
  · simp [c0]
  by_cases c1 : a % 4 = 1
  · simp [c1]
  by_cases c2 : a % 4 = 2
  · simp [c2]
  · have c3 : a % 4 = 3 := by omega
    simp [c3]
/-- The word of a pointer of one of the four kinds, its fields cut to their widths. -/
def pakI (p : PT) : Int :=
  if p.1 = 0 then p.2.1 % 1073741824 * 4 + p.2.2.1 % 65536 * 4294967296 + p.2.2.2.1 % 65536 * 281474976710656
  else if p.1 = 1 then 1 + p.2.1 % 1073741824 * 4 + p.2.2.2.2.1 % 8 * 4294967296 + p.2.2.2.2.2.1 % 536870912 * 34359738368
  else if p.1 = 2 then 2 + (if p.2.2.2.2.2.2.1 then 4 else 0) + p.2.2.2.2.2.2.2.1 % 536870912 * 8 + p.2.2.2.2.2.2.2.2.1 % 4294967296 * 4294967296
  else 3 + p.2.2.2.2.2.2.2.2.2 % 1073741824 * 4 + p.2.2.2.2.2.2.2.2.1 % 4294967296 * 4294967296
theorem pakI_range (p : PT) : 0 ≤ pakI p ∧ pakI p < 18446744073709551616 := by
  unfold pakI
  split
  · omega
  split
  · omega
  split
  · split <;> omega
  · omega
theorem insertI {a v : Int} (i m : Nat) (ha : 0 ≤ a ∧ a < 2 ^ i) (h1 : 1 ≤ m) (h2 : i + m ≤ 64) : word_Insert.f a i m (IntKind.u64.wrap v) = some (a + v % 2 ^ m * 2 ^ i) := by
  obtain ⟨n, rfl⟩ := Int.eq_ofNat_of_zero_le ha.1
  have hv : IntKind.u64.wrap v = ((v % 18446744073709551616).toNat : Int) := by rw [wrap_u64_any]; omega
  rw [hv, insert_eq n i m _ (by exact_mod_cast ha.2) h1 h2 (by omega)]
  simp only [Option.some.injEq]
  have e : (((v % 18446744073709551616).toNat % 2 ^ m : Nat) : Int) = v % 2 ^ m := by
    push_cast
    rw [Int.toNat_of_nonneg (by omega)]
    have : (2 : Int) ^ m ∣ 18446744073709551616 := by
      have := Int.natCast_dvd_natCast.2 (Nat.pow_dvd_pow 2 (show m ≤ 64 by omega))
      simpa using this
    exact Int.emod_emod_of_dvd _ this
  rw [Int.natCast_add, Int.natCast_mul, e]
  push_cast
  rfl
theorem pack_eq (p : PT) (hk : 0 ≤ p.1 ∧ p.1 ≤ 3) : pointer_pack.f p.1 p.2.1 p.2.2.1 p.2.2.2.1 p.2.2.2.2.1 p.2.2.2.2.2.1 p.2.2.2.2.2.2.1 p.2.2.2.2.2.2.2.1 p.2.2.2.2.2.2.2.2.1 p.2.2.2.2.2.2.2.2.2 = some (pakI p) := by
  obtain ⟨k, o, d, q, e, c, b, pd, sg, lo⟩ := p
  simp only at hk ⊢
  have i0 : word_Insert.f 0 0 2 (IntKind.u64.wrap k) = some k := by
    have := insertI (a := 0) (v := k) 0 2 (by decide) (by decide) (by decide)
    rw [show ((0 : Nat) : Int) = 0 from rfl, show ((2 : Nat) : Int) = 2 from rfl] at this
    rw [this]
    simp only [Option.some.injEq]
    omega
  have i1 : ∀ a, 0 ≤ a ∧ a < 4 → word_Insert.f a 2 30 (IntKind.u64.wrap o) = some (a + o % 1073741824 * 4) := fun a h => insertI (v := o) 2 30 h (by decide) (by decide)
  have i2 : ∀ a, 0 ≤ a ∧ a < 4294967296 → word_Insert.f a 32 16 (IntKind.u64.wrap d) = some (a + d % 65536 * 4294967296) := fun a h => insertI (v := d) 32 16 h (by decide) (by decide)
  have i3 : ∀ a, 0 ≤ a ∧ a < 281474976710656 → word_Insert.f a 48 16 (IntKind.u64.wrap q) = some (a + q % 65536 * 281474976710656) := fun a h => insertI (v := q) 48 16 h (by decide) (by decide)
  have i4 : ∀ a, 0 ≤ a ∧ a < 4294967296 → word_Insert.f a 32 3 (IntKind.u64.wrap e) = some (a + e % 8 * 4294967296) := fun a h => insertI (v := e) 32 3 h (by decide) (by decide)
  have i5 : ∀ a, 0 ≤ a ∧ a < 34359738368 → word_Insert.f a 35 29 (IntKind.u64.wrap c) = some (a + c % 536870912 * 34359738368) := fun a h => insertI (v := c) 35 29 h (by decide) (by decide)
  have i6 : ∀ a, 0 ≤ a ∧ a < 4 → word_Insert.f a 2 1 1 = some (a + 4) := fun a h => by
    have := insertI (v := 1) 2 1 h (by decide) (by decide)
    rw [show IntKind.u64.wrap 1 = 1 from rfl] at this
    exact this
  have i7 : ∀ a, 0 ≤ a ∧ a < 8 → word_Insert.f a 3 29 (IntKind.u64.wrap pd) = some (a + pd % 536870912 * 8) := fun a h => insertI (v := pd) 3 29 h (by decide) (by decide)
  have i8 : ∀ a, 0 ≤ a ∧ a < 4294967296 → word_Insert.f a 32 32 (IntKind.u64.wrap sg) = some (a + sg % 4294967296 * 4294967296) := fun a h => insertI (v := sg) 32 32 h (by decide) (by decide)
  have i9 : ∀ a, 0 ≤ a ∧ a < 4 → word_Insert.f a 2 30 (IntKind.u64.wrap lo) = some (a + lo % 1073741824 * 4) := fun a h => insertI (v := lo) 2 30 h (by decide) (by decide)
  unfold pointer_pack.f pakI
  rw [i0]
  simp only [Option.bind_some]
  by_cases c0 : k = 0
  · subst c0
    simp only [if_true]
    rw [i1 _ (by omega)]; simp only [Option.bind_some]
    rw [i2 _ (by omega)]; simp only [Option.bind_some]
    rw [i3 _ (by omega)]; simp
  rw [if_neg c0, if_neg c0]
  by_cases c1 : k = 1
  · subst c1
    simp only [if_true]
    rw [i1 _ (by omega)]; simp only [Option.bind_some]
    rw [i4 _ (by omega)]; simp only [Option.bind_some]
    rw [i5 _ (by omega)]; simp
  rw [if_neg c1, if_neg c1]
  by_cases c2 : k = 2
  · subst c2
    simp only [if_true]
    cases b
    · simp only [Bool.false_eq_true, if_false]
      rw [i7 _ (by omega)]; simp only [Option.bind_some]
      rw [i8 _ (by omega)]; simp
    · simp only [if_true]
      rw [i6 _ (by omega)]; simp only [Option.bind_some]
      rw [i7 _ (by omega)]; simp only [Option.bind_some]
      rw [i8 _ (by omega)]; simp
  rw [if_neg c2, if_neg c2]
  obtain rfl : k = 3 := by omega
  rw [i9 _ (by omega)]; simp only [Option.bind_some]
  rw [i8 _ (by omega)]; simp
/-- Is a pointer valid? -/
def vldP (p : PT) : Prop :=
  (p.1 = 0 ∧ -536870912 ≤ p.2.1 ∧ p.2.1 ≤ 536870911 ∧ 0 ≤ p.2.2.1 ∧ p.2.2.1 ≤ 65535 ∧ 0 ≤ p.2.2.2.1 ∧ p.2.2.2.1 ≤ 65535 ∧ p.2.2.2.2.1 = 0 ∧ p.2.2.2.2.2.1 = 0 ∧ p.2.2.2.2.2.2.1 = false ∧ p.2.2.2.2.2.2.2.1 = 0 ∧ p.2.2.2.2.2.2.2.2.1 = 0 ∧ p.2.2.2.2.2.2.2.2.2 = 0) ∨
  (p.1 = 1 ∧ -536870912 ≤ p.2.1 ∧ p.2.1 ≤ 536870911 ∧ p.2.2.1 = 0 ∧ p.2.2.2.1 = 0 ∧ 0 ≤ p.2.2.2.2.1 ∧ p.2.2.2.2.1 ≤ 7 ∧ 0 ≤ p.2.2.2.2.2.1 ∧ p.2.2.2.2.2.1 ≤ 536870911 ∧ p.2.2.2.2.2.2.1 = false ∧ p.2.2.2.2.2.2.2.1 = 0 ∧ p.2.2.2.2.2.2.2.2.1 = 0 ∧ p.2.2.2.2.2.2.2.2.2 = 0) ∨
  (p.1 = 2 ∧ p.2.1 = 0 ∧ p.2.2.1 = 0 ∧ p.2.2.2.1 = 0 ∧ p.2.2.2.2.1 = 0 ∧ p.2.2.2.2.2.1 = 0 ∧ 0 ≤ p.2.2.2.2.2.2.2.1 ∧ p.2.2.2.2.2.2.2.1 ≤ 536870911 ∧ 0 ≤ p.2.2.2.2.2.2.2.2.1 ∧ p.2.2.2.2.2.2.2.2.1 ≤ 4294967295 ∧ p.2.2.2.2.2.2.2.2.2 = 0) ∨
  (p.1 = 3 ∧ p.2.1 = 0 ∧ p.2.2.1 = 0 ∧ p.2.2.2.1 = 0 ∧ p.2.2.2.2.1 = 0 ∧ p.2.2.2.2.2.1 = 0 ∧ p.2.2.2.2.2.2.1 = false ∧ p.2.2.2.2.2.2.2.1 = 0 ∧ 0 ≤ p.2.2.2.2.2.2.2.2.1 ∧ p.2.2.2.2.2.2.2.2.1 ≤ 4294967295 ∧ 0 ≤ p.2.2.2.2.2.2.2.2.2 ∧ p.2.2.2.2.2.2.2.2.2 ≤ 1073741823)
instance (p : PT) : Decidable (vldP p) := by unfold vldP; infer_instance
theorem decI_valid {a : Int} (h : 0 ≤ a ∧ a < 18446744073709551616) : vldP (decI a) := by
  unfold decI vldP sgn30
  split
  · refine .inl ⟨rfl, ?_, ?_, by simp; omega, by simp; omega, by simp; omega, by simp; omega, rfl, rfl, rfl, rfl, rfl, rfl⟩ <;> (simp only []; split <;> omega)
  split
  · refine .inr (.inl ⟨rfl, ?_, ?_, rfl, rfl, by simp; omega, by simp; omega, by simp; omega, by simp; omega, rfl, rfl, rfl, rfl⟩) <;> (simp only []; split <;> omega)
  split
  · exact .inr (.inr (.inl ⟨rfl, rfl, rfl, rfl, rfl, rfl, by simp; omega, by simp; omega, by simp; omega, by simp; omega, rfl⟩))
  · exact .inr (.inr (.inr ⟨rfl, rfl, rfl, rfl, rfl, rfl, rfl, rfl, by simp; omega, by simp; omega, by simp; omega, by simp; omega⟩))
theorem dec_pak {p : PT} (h : vldP p) : decI (pakI p) = p := by
  obtain ⟨k, o, d, q, e, c, b, pd, sg, lo⟩ := p
  unfold vldP at h
  simp only at h
  rcases h with ⟨rfl, h1, h2, h3, h4, h5, h6, rfl, rfl, rfl, rfl, rfl, rfl⟩ | ⟨rfl, h1, h2, rfl, rfl, h3, h4, h5, h6, rfl, rfl, rfl, rfl⟩ | ⟨rfl, rfl, rfl, rfl, rfl, rfl, h1, h2, h3, h4, rfl⟩ | ⟨rfl, rfl, rfl, rfl, rfl, rfl, rfl, rfl, h1, h2, h3, h4⟩
  · simp only [pakI, decI, if_true]
    rw [if_pos (by omega)]
    simp only [Prod.mk.injEq, and_true, true_and, sgn30]
    refine ⟨?_, by omega, by omega⟩
    split <;> omega
  · simp only [pakI, decI, if_true, show ¬ ((1 : Int) = 0) by decide, if_false]
    rw [if_neg (by omega), if_pos (by omega)]
    simp only [Prod.mk.injEq, and_true, true_and, sgn30]
    refine ⟨?_, by omega, by omega⟩
    split <;> omega
  · simp only [pakI, decI, if_true, show ¬ ((2 : Int) = 0) by decide, show ¬ ((2 : Int) = 1) by decide, if_false]
    cases b
    · simp only [Bool.false_eq_true, if_false]
      rw [if_neg (by omega), if_neg (by omega), if_pos (by omega)]
      simp only [Prod.mk.injEq, and_true, true_and]
      refine ⟨by rw [beq_eq_false_iff_ne]; omega, by omega, by omega⟩
    · simp only [if_true]
      rw [if_neg (by omega), if_neg (by omega), if_pos (by omega)]
      simp only [Prod.mk.injEq, and_true, true_and]
      refine ⟨by rw [beq_iff_eq]; omega, by omega, by omega⟩
  · simp only [pakI, decI, show ¬ ((3 : Int) = 0) by decide, show ¬ ((3 : Int) = 1) by decide, show ¬ ((3 : Int) = 2) by decide, if_false]
    rw [if_neg (by omega), if_neg (by omega), if_neg (by omega)]
    simp only [Prod.mk.injEq, and_true, true_and]
    omega
theorem pak_dec {a : Int} (h : 0 ≤ a ∧ a < 18446744073709551616) : pakI (decI a) = a := by
  unfold decI sgn30
  split
  · simp only [pakI, if_true]; split <;> omega
  split
  · simp only [pakI, if_true, show ¬ ((1 : Int) = 0) by decide, if_false]; split <;> omega
  split
  · simp only [pakI, if_true, show ¬ ((2 : Int) = 0) by decide, show ¬ ((2 : Int) = 1) by decide, if_false]
    by_cases hb : a / 4 % 2 = 1
    · rw [if_pos (by rw [beq_iff_eq]; exact hb)]; omega
    · rw [if_neg (by rw [beq_iff_eq]; exact hb)]; omega
  · simp only [pakI, show ¬ ((3 : Int) = 0) by decide, show ¬ ((3 : Int) = 1) by decide, show ¬ ((3 : Int) = 2) by decide, if_false]; omega
theorem Valid_eq (p : PT) : pointer_Valid.f p.1 p.2.1 p.2.2.1 p.2.2.2.1 p.2.2.2.2.1 p.2.2.2.2.2.1 p.2.2.2.2.2.2.1 p.2.2.2.2.2.2.2.1 p.2.2.2.2.2.2.2.2.1 p.2.2.2.2.2.2.2.2.2 = some (decide (vldP p)) := by
  unfold pointer_Valid.f
  have hbad : ¬ (0 ≤ p.1 ∧ p.1 ≤ 3) → ¬ vldP p := by
    intro h hv
    unfold vldP at hv
    omega
  by_cases h0 : p.1 ≥ 0
  · by_cases h3 : p.1 ≤ 3
    · rw [if_pos h0, if_pos h3, pack_eq p ⟨h0, h3⟩]
      simp only [Option.bind_some]
      rw [Decode_eq (pakI_range p)]
      simp only [Option.bind_some, Option.some.injEq]
      by_cases hv : vldP p
      · rw [dec_pak hv, decide_eq_true hv]
        simp
      · rw [decide_eq_false hv]
        have hne : decI (pakI p) ≠ p := fun e => hv (e ▸ decI_valid (pakI_range p))
        rw [Bool.eq_false_iff]
        intro hc
        apply hne
        simp only [Bool.and_eq_true, beq_iff_eq] at hc
        obtain ⟨g0, g1, g2, g3, g4, g5, g6, g7, g8, g9⟩ := hc
        refine Prod.ext g0 (Prod.ext g1 (Prod.ext g2 (Prod.ext g3 (Prod.ext g4 (Prod.ext g5 (Prod.ext g6 (Prod.ext g7 (Prod.ext g8 g9))))))))
    · rw [if_pos h0, if_neg h3, decide_eq_false (hbad (by omega))]
  · rw [if_neg h0, decide_eq_false (hbad (by omega))]
theorem Encode_eq (p : PT) : pointer_Encode.f p.1 p.2.1 p.2.2.1 p.2.2.2.1 p.2.2.2.2.1 p.2.2.2.2.2.1 p.2.2.2.2.2.2.1 p.2.2.2.2.2.2.2.1 p.2.2.2.2.2.2.2.2.1 p.2.2.2.2.2.2.2.2.2 = some (if vldP p then (pakI p, true) else (0, false)) := by
  unfold pointer_Encode.f
  rw [Valid_eq]
  simp only [Option.bind_some, decide_eq_true_eq]
  by_cases hv : vldP p
  · rw [if_pos hv, if_pos hv, pack_eq p (by unfold vldP at hv; omega)]
    rfl
  · rw [if_neg hv, if_neg hv]
end Go.Proofs.YtlkcmpamjheldaaDoor.P
