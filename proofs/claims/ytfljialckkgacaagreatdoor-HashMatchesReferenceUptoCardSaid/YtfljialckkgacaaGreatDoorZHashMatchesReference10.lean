/- This text is one of those that prove the law HashMatchesReference of the given program, as its statement says it: true on every input that the statement covers. Its conditions are the statement's own. -/
import Derived.Test.YtfljialckkgacaaGreatDoorZHashMatchesReference1
import Derived.Test.YtfljialckkgacaaGreatDoorZHashMatchesReference2
import Derived.Test.YtfljialckkgacaaGreatDoorZHashMatchesReference3
import Derived.Test.YtfljialckkgacaaGreatDoorZHashMatchesReference4
import Derived.Test.YtfljialckkgacaaGreatDoorZHashMatchesReference5
import Derived.Test.YtfljialckkgacaaGreatDoorZHashMatchesReference6
import Derived.Test.YtfljialckkgacaaGreatDoorZHashMatchesReference7
import Derived.Test.YtfljialckkgacaaGreatDoorZHashMatchesReference8
import Derived.Test.YtfljialckkgacaaGreatDoorZHashMatchesReference9
set_option linter.unusedVariables false
set_option linter.unusedSimpArgs false
open Go.Proofs.YtfljialckkgacaaGreatDoor.E renaming callT_ret → za, callT_pan → zb, onlyPV_v → zc, pBool_v → ze, pTup_v → zf, pAgg_v → zg, aggOf_v → zh, pSl_v → zi, pInt_v → zj, cells_v → zk, cells_sl → zl, cells_agg → zm, isCell_v → zn, isCell_sl → zo, cnd_t → zq, cnd_f → zr, tt_and → zs, ff_and → zt, pI64 → zu, pU64 → zv, pU32 → zx, pU8 → zy, nt_t → zA, nt_f → zC, len1 → zD, len3 → zE, len5 → zF, len8 → zG, len10 → zH, hlen1 → zI, clen1 → zJ, clen5 → zK
open List renaming getElem?_cons_zero → zL
open List renaming getElem?_cons_succ → zM
open Option renaming bind_some → zN
set_option linter.unusedVariables false
set_option linter.unusedSimpArgs false
namespace Go.Proofs.YtfljialckkgacaaGreatDoor.E
/-! Segments. -/
/-- A range that is in bounds. -/
def inB (l : List (List Int)) (s a n : Int) : Prop := 0 ≤ s ∧ s < (l.length : Int) ∧ 0 ≤ a ∧ 0 ≤ n ∧ a + n ≤ ((rdL l s).length : Int)
instance (l : List (List Int)) (s a n : Int) : Decidable (inB l s a n) := by unfold inB; infer_instance
theorem V_InBounds {l : List (List Int)} (h : Segs l) (s a n : Int) :
    ev 139 [.pv (.sl 1 (sgs l)), .pv (.v (.int .i64 s)), .pv (.v (.int .i64 a)), .pv (.v (.int .i64 n))] [] = some (.ret (.pv (.v (.bool (decide (inB l s a n))))), []) := by
  have hw := (rdL_words h s).1
  rw [arena_InBounds_eq]
  simp only [cond_dec, sgs_len]
  by_cases h1 : 0 ≤ s ∧ s < (l.length : Int)
  · rw [if_pos h1.1, if_pos h1.2]
    simp only [sgs_rd h1.1 h1.2, h1.1, h1.2, decide_true, Bool.and_self, cond_true, zN, zl, zL, zi, ws_len]
    by_cases h2 : 0 ≤ a ∧ 0 ≤ n ∧ a ≤ ((rdL l s).length : Int)
    · rw [if_pos h2.1, if_pos h2.2.1, if_pos h2.2.2, w64 (by omega)]
      rw [show decide (n ≤ ((rdL l s).length : Int) - a) = decide (inB l s a n) from decide_eq_decide.2 (by unfold inB; omega)]
    · rw [show decide (inB l s a n) = false from decide_eq_false (by unfold inB; omega)]
      repeat' split
      all_goals first
        | rfl
        | (exfalso; omega)
  · rw [show decide (inB l s a n) = false from decide_eq_false (by unfold inB; omega)]
    repeat' split
    all_goals first
      | rfl
      | (exfalso; omega)
theorem V_Word {l : List (List Int)} (h : Segs l) (s a : Int) :
    ev 123 [.pv (.sl 1 (sgs l)), .pv (.v (.int .i64 s)), .pv (.v (.int .i64 a))] [] =
      some (.ret (.pv (.tup (if inB l s a 1 then [.v (.int .u64 (rd (rdL l s) a)), .v (.bool true)] else [.v (.int .u64 0), .v (.bool false)]))), []) := by
  rw [arena_Word_eq, V_InBounds h]
  by_cases hb : inB l s a 1
  · have hb' := hb
    obtain ⟨h1, h2, h3, h4, h5⟩ := hb'
    rw [if_pos hb]
    simp [-getElem?_pos, zL, zM, cond_dec, cond_beq, cond_bne, cond_and, hb, h1, h2, h3, sgs_rd h1 h2, ws_rd h3 (show a < (rdL l s).length by omega), show a < (rdL l s).length by omega]
  · rw [if_neg hb]
    simp [hb]
/-- The words of a range. -/
def cut (l : List (List Int)) (s a n : Int) : List Int := ((rdL l s).drop a.toNat).take n.toNat
theorem cut_len {l : List (List Int)} {s a n : Int} (h : inB l s a n) : (cut l s a n).length = n.toNat := by
  obtain ⟨h1, h2, h3, h4, h5⟩ := h
  simp [cut]; omega
theorem V_Slice {l : List (List Int)} (h : Segs l) (s a n : Int) (hn : n ≤ 17592186044416) :
    ev 141 [.pv (.sl 1 (sgs l)), .pv (.v (.int .i64 s)), .pv (.v (.int .i64 a)), .pv (.v (.int .i64 n))] [] =
      some (.ret (.pv (.tup (if inB l s a n then [.sl 1 (ws (cut l s a n)), .v (.bool true)] else [.sl 1 [], .v (.bool false)]))), []) := by
  rw [arena_Slice_eq, V_InBounds h]
  by_cases hb : inB l s a n
  · have hb' := hb
    obtain ⟨h1, h2, h3, h4, h5⟩ := hb'
    rw [if_pos hb]
    have hr : roomy n.toNat 8 = true := by simp [roomy]; omega
    have e : List.take n.toNat (List.drop a.toNat (ws (rdL l s))) = ws (cut l s a n) := by simp [ws, cut, List.map_take, List.map_drop]
    have hle : a.toNat ≤ (rdL l s).length := by omega
    have hz : n.toNat - ((rdL l s).length - a.toNat) = 0 := by omega
    simp [-getElem?_pos, zL, zM, cond_dec, cond_beq, cond_bne, cond_and, hb, h1, h2, h3, h4, sgs_rd h1 h2, hr, show a ≤ (rdL l s).length by omega, show n ≤ 140737488355328 by omega, List.take_of_length_le, e, hz]
  · rw [if_neg hb]
    simp [hb]
end Go.Proofs.YtfljialckkgacaaGreatDoor.E
set_option linter.unusedVariables false
set_option linter.unusedSimpArgs false
namespace Go.Proofs.YtfljialckkgacaaGreatDoor.E
/-! Bit fields of words; pointers. -/
theorem ofInt_toNat {a : Nat} (h : a < 2 ^ 64) : (BitVec.ofInt 64 (a : Int)).toNat = a := by
  simp; omega
theorem wu_nat {n : Nat} (h : n < 2 ^ 64) : IntKind.wrap .u64 (n : Int) = n := wu64 ⟨Int.natCast_nonneg _, by omega⟩
theorem and_low {a : Nat} (h : a < 2 ^ 64) {m : Nat} (hm : m ≤ 64) : IntKind.wrap .u64 (((BitVec.ofInt 64 (a : Int) &&& BitVec.ofInt 64 ((2 ^ m - 1 : Nat) : Int)).toNat : Nat) : Int) = ((a % 2 ^ m : Nat) : Int) := by
  have hp : 2 ^ m ≤ 2 ^ 64 := Nat.pow_le_pow_right (by decide) hm
  have hq : 0 < 2 ^ m := Nat.pow_pos (by decide)
  rw [BitVec.toNat_and, ofInt_toNat h, ofInt_toNat (show 2 ^ m - 1 < 2 ^ 64 by omega), Nat.and_two_pow_sub_one_eq_mod]
  have := Nat.mod_lt a hq
  exact wu_nat (by omega)
theorem V_mask (m : Nat) (h1 : 1 ≤ m) (h2 : m ≤ 64) : ev 137 [.pv (I m)] [] = ok (U ((2 ^ m - 1 : Nat) : Int)) := by
  rw [word_mask_eq]
  have e1 : IntKind.wrap .i64 (64 - (m : Int)) = ((64 - m : Nat) : Int) := by rw [w64 (by omega)]; omega
  rw [e1, wu_nat (by omega)]
  have hk : 2 ^ 64 = 2 ^ m * 2 ^ (64 - m) := by rw [← Nat.pow_add]; congr 1; omega
  have hp : 0 < 2 ^ (64 - m) := Nat.pow_pos (by decide)
  have hd : (18446744073709551615 : Nat) / 2 ^ (64 - m) = 2 ^ m - 1 := by
    rw [show (18446744073709551615 : Nat) = 2 ^ 64 - 1 from rfl, hk, Nat.div_eq_iff hp]
    have hq : 0 < 2 ^ m := Nat.pow_pos (by decide)
    constructor
    · rw [Nat.sub_mul]; omega
    · have : (2 ^ m - 1) * 2 ^ (64 - m) = 2 ^ m * 2 ^ (64 - m) - 2 ^ (64 - m) := by rw [Nat.sub_mul, Nat.one_mul]
      have h3 : 2 ^ (64 - m) ≤ 2 ^ m * 2 ^ (64 - m) := Nat.le_mul_of_pos_left _ hq
      omega
  have hf : Int.fdiv 18446744073709551615 (2 ^ (min ((64 - m : Nat) : Int).toNat 64)) = ((2 ^ m - 1 : Nat) : Int) := by
    rw [Int.toNat_natCast, Nat.min_eq_left (by omega), Int.fdiv_eq_ediv_of_nonneg _ (Int.le_of_lt (Int.pow_pos (by decide))), ← hd]
    simp only [Int.natCast_ediv, Int.natCast_pow]
    rfl
  rw [hf]
  simp [okBin]
theorem shr_nat (a i : Nat) (hi : i ≤ 64) : Int.fdiv (a : Int) (2 ^ (min (i : Int).toNat 64)) = ((a / 2 ^ i : Nat) : Int) := by
  rw [Int.toNat_natCast, Nat.min_eq_left hi, Int.fdiv_eq_ediv_of_nonneg _ (Int.le_of_lt (Int.pow_pos (by decide)))]
  push_cast
  rfl
theorem V_Field_nat (a : Nat) (h : a < 2 ^ 64) (i m : Nat) (h1 : 1 ≤ m) (h2 : i + m ≤ 64) : ev 136 [.pv (U a), .pv (I i), .pv (I m)] [] = ok (U ((a / 2 ^ i % 2 ^ m : Nat) : Int)) := by
  rw [word_Field_eq, wu_nat (by omega), V_mask m h1 (by omega), shr_nat a i (by omega)]
  have := and_low (a := a / 2 ^ i) (Nat.lt_of_le_of_lt (Nat.div_le_self _ _) h) (m := m) (by omega)
  simp only [za, zc, zN, pIntK_v, this]
  simp [okBin]
theorem V_Field {a : Int} (h : Word a) (i m : Nat) (h1 : 1 ≤ m) (h2 : i + m ≤ 64) : ev 136 [.pv (U a), .pv (I i), .pv (I m)] [] = ok (U (a / 2 ^ i % 2 ^ m)) := by
  obtain ⟨n, rfl⟩ := Int.eq_ofNat_of_zero_le h.1
  rw [V_Field_nat n (by have := h.2; omega) i m h1 h2]
  simp
def sgn30 (v : Int) : Int := if 536870912 ≤ v then v - 1073741824 else v
theorem V_Signed {a : Int} (h : Word a) : ev 165 [.pv (U a), .pv (I 2), .pv (I 30)] [] = ok (I (sgn30 (a / 4 % 1073741824))) := by
  obtain ⟨h1, h2⟩ := h
  rw [word_Signed_eq]
  rw [show IntKind.wrap .i64 ((IntKind.wrap .i64 (64 - 2)) - 30) = 32 by decide, show IntKind.wrap .u64 32 = 32 by decide, show IntKind.wrap .u64 (IntKind.wrap .i64 (64 - 30)) = 34 by decide]
  simp only [okBin]
  rw [show (min (32 : Int).toNat 64) = 32 by decide, show (min (34 : Int).toNat 64) = 34 by decide]
  have e : IntKind.wrap .i64 (IntKind.wrap .u64 (a * 2 ^ 32)) = sgn30 (a / 4 % 1073741824) * 17179869184 + (a % 4) * 4294967296 := by
    rw [wu64_any]
    have e2 : a * 2 ^ 32 % 18446744073709551616 = (a / 4 % 1073741824) * 17179869184 + (a % 4) * 4294967296 := by omega
    rw [e2]
    unfold sgn30
    simp only [IntKind.wrap, IntKind.bits, IntKind.signed]
    simp
    split <;> split <;> omega
  rw [e, Int.fdiv_eq_ediv_of_nonneg _ (by decide)]
  have e3 : (sgn30 (a / 4 % 1073741824) * 17179869184 + (a % 4) * 4294967296) / 2 ^ 34 = sgn30 (a / 4 % 1073741824) := by omega
  rw [e3]
  rfl
/-- Pointers. -/
abbrev PT := Int × Int × Int × Int × Int × Int × Bool × Int × Int × Int
def ptc (p : PT) : List PV := [I p.1, I p.2.1, I p.2.2.1, I p.2.2.2.1, I p.2.2.2.2.1, I p.2.2.2.2.2.1, Bo p.2.2.2.2.2.2.1, I p.2.2.2.2.2.2.2.1, U32 p.2.2.2.2.2.2.2.2.1, U32 p.2.2.2.2.2.2.2.2.2]
def decI (a : Int) : PT :=
  if a % 4 = 0 then (0, sgn30 (a / 4 % 1073741824), a / 4294967296 % 65536, a / 281474976710656 % 65536, 0, 0, false, 0, 0, 0)
  else if a % 4 = 1 then (1, sgn30 (a / 4 % 1073741824), 0, 0, a / 4294967296 % 8, a / 34359738368 % 536870912, false, 0, 0, 0)
  else if a % 4 = 2 then (2, 0, 0, 0, 0, 0, a / 4 % 2 == 1, a / 8 % 536870912, a / 4294967296 % 4294967296, 0)
  else (3, 0, 0, 0, 0, 0, false, 0, a / 4294967296 % 4294967296, a / 4 % 1073741824)
theorem V_Decode {a : Int} (h : Word a) : ev 118 [.pv (U a)] [] = ok (.agg (ptc (decI a))) := by
  have k0 : ev 136 [.pv (U a), .pv (I 0), .pv (I 2)] [] = ok (U (a % 4)) := by have := V_Field h 0 2 (by decide) (by decide); simpa using this
  have k1 : ev 136 [.pv (U a), .pv (I 32), .pv (I 16)] [] = ok (U (a / 4294967296 % 65536)) := V_Field h 32 16 (by decide) (by decide)
  have k2 : ev 136 [.pv (U a), .pv (I 48), .pv (I 16)] [] = ok (U (a / 281474976710656 % 65536)) := V_Field h 48 16 (by decide) (by decide)
  have k3 : ev 136 [.pv (U a), .pv (I 32), .pv (I 3)] [] = ok (U (a / 4294967296 % 8)) := V_Field h 32 3 (by decide) (by decide)
  have k4 : ev 136 [.pv (U a), .pv (I 35), .pv (I 29)] [] = ok (U (a / 34359738368 % 536870912)) := V_Field h 35 29 (by decide) (by decide)
  have k5 : ev 136 [.pv (U a), .pv (I 2), .pv (I 1)] [] = ok (U (a / 4 % 2)) := V_Field h 2 1 (by decide) (by decide)
  have k6 : ev 136 [.pv (U a), .pv (I 3), .pv (I 29)] [] = ok (U (a / 8 % 536870912)) := V_Field h 3 29 (by decide) (by decide)
  have k7 : ev 136 [.pv (U a), .pv (I 32), .pv (I 32)] [] = ok (U (a / 4294967296 % 4294967296)) := V_Field h 32 32 (by decide) (by decide)
  have k8 : ev 136 [.pv (U a), .pv (I 2), .pv (I 30)] [] = ok (U (a / 4 % 1073741824)) := V_Field h 2 30 (by decide) (by decide)
  rw [pointer_Decode_eq, pointer_decoders_1_eq, pointer_decoders_2_eq, pointer_decoders_3_eq, pointer_decoders_4_eq, k0, k1, k2, k3, k4, k5, k6, k7, k8, V_Signed h]
  simp only [za, zc, zN, zj, pIntK_v]
  rw [w64 (x := a / 4294967296 % 65536) (by omega), w64 (x := a / 281474976710656 % 65536) (by omega), w64 (x := a / 4294967296 % 8) (by omega), w64 (x := a / 34359738368 % 536870912) (by omega), w64 (x := a / 8 % 536870912) (by omega), w64 (x := a % 4) (by omega)]
  rw [wu32_any, wu32_any, show a / 4294967296 % 4294967296 % 4294967296 = a / 4294967296 % 4294967296 by omega, show a / 4 % 1073741824 % 4294967296 = a / 4 % 1073741824 by omega]
  unfold decI
  by_cases c0 : a % 4 = 0
  · simp [-getElem?_pos, zL, zM, cond_dec, cond_beq, cond_bne, cond_and, c0, ptc]
  by_cases c1 : a % 4 = 1
  · simp [-getElem?_pos, zL, zM, cond_dec, cond_beq, cond_bne, cond_and, c1, ptc]
  by_cases c2 : a % 4 = 2
  · simp [-getElem?_pos, zL, zM, cond_dec, cond_beq, cond_bne, cond_and, c2, ptc]
  · have c3 : a % 4 = 3 := by omega
    simp [-getElem?_pos, zL, zM, cond_dec, cond_beq, cond_bne, cond_and, c3, ptc]
-- the reference's
theorem pow_loop (n : Nat) (hn : n ≤ 63) : ∀ (d j : Nat), j + d = n → capnpref01_Pow_L0 n ((2 ^ j : Nat) : Int) j = ok (U ((2 ^ n : Nat) : Int)) := by
  intro d
  induction d with
  | zero =>
    intro j hj
    obtain rfl : j = n := by omega
    rw [capnpref01_Pow_L0_eq]
    simp
  | succ d ih =>
    intro j hj
    rw [capnpref01_Pow_L0_eq]
    have h2 : 2 ^ (j + 1) ≤ 2 ^ 63 := Nat.pow_le_pow_right (by decide) (by omega)
    have e : ((2 ^ j : Nat) : Int) * 2 = ((2 ^ (j + 1) : Nat) : Int) := by rw [Nat.pow_succ]; push_cast; rfl
    rw [e, wu_nat (by omega), w64 (by omega), show (j : Int) + 1 = ((j + 1 : Nat) : Int) by push_cast; rfl, ih (j + 1) (by omega)]
    simp only [cond_dec]
    rw [if_pos (by omega)]
theorem V_Pow (n : Nat) (hn : n ≤ 63) : ev 72 [.pv (I n)] [] = ok (U ((2 ^ n : Nat) : Int)) := by
  rw [capnpref01_Pow_eq]
  exact pow_loop n hn n 0 (by omega)
theorem rfield_loop (a : Nat) (ha : a < 2 ^ 64) (i m : Nat) (h2 : i + m ≤ 64) : ∀ (d j : Nat), j + d = m → capnpref01_Field_L0 a i m ((a / 2 ^ i % 2 ^ j : Nat) : Int) j = ok (U ((a / 2 ^ i % 2 ^ m : Nat) : Int)) := by
  intro d
  induction d with
  | zero =>
    intro j hj
    obtain rfl : j = m := by omega
    rw [capnpref01_Field_L0_eq]
    simp
  | succ d ih =>
    intro j hj
    rw [capnpref01_Field_L0_eq]
    simp only [cond_dec]
    rw [if_pos (by omega), w64 (x := (i : Int) + (j : Int)) (by omega), show (i : Int) + (j : Int) = ((i + j : Nat) : Int) by push_cast; rfl, V_Pow _ (by omega)]
    simp only [za, zc, zN, pIntK_v]
    have hp : 0 < 2 ^ (i + j) := Nat.pow_pos (by decide)
    have hok : okBin .quo ((2 ^ (i + j) : Nat) : Int) = true := by simp only [okBin, bne_iff_ne]; omega
    rw [hok, cond_true]
    have hdv : Int.tdiv (a : Int) ((2 ^ (i + j) : Nat) : Int) = ((a / 2 ^ (i + j) : Nat) : Int) := by rw [Int.tdiv_eq_ediv_of_nonneg (Int.natCast_nonneg _)]; push_cast; rfl
    have hlt : a / 2 ^ (i + j) < 2 ^ 64 := Nat.lt_of_le_of_lt (Nat.div_le_self _ _) ha
    rw [hdv, wu_nat hlt]
    have hmd : Int.tmod ((a / 2 ^ (i + j) : Nat) : Int) 2 = ((a / 2 ^ (i + j) % 2 : Nat) : Int) := by rw [Int.tmod_eq_emod_of_nonneg (Int.natCast_nonneg _)]; push_cast; rfl
    rw [hmd]
    have hs : a / 2 ^ i % 2 ^ (j + 1) = a / 2 ^ i % 2 ^ j + 2 ^ j * (a / 2 ^ (i + j) % 2) := by
      rw [Nat.mod_pow_succ, Nat.div_div_eq_div_mul, ← Nat.pow_add]
    have hjj : (j : Int) + 1 = ((j + 1 : Nat) : Int) := by push_cast; rfl
    have hb : a / 2 ^ i % 2 ^ (j + 1) < 2 ^ 64 := Nat.lt_of_le_of_lt (Nat.mod_le _ _) (Nat.lt_of_le_of_lt (Nat.div_le_self _ _) ha)
    rw [w64 (x := (j : Int) + 1) (by omega), hjj]
    rcases Nat.mod_two_eq_zero_or_one (a / 2 ^ (i + j)) with h0 | h0
    · rw [h0] at hs ⊢
      rw [show a / 2 ^ i % 2 ^ j = a / 2 ^ i % 2 ^ (j + 1) by omega]
      exact ih (j + 1) (by omega)
    · rw [h0]
      rw [h0, Nat.mul_one] at hs
      have := ih (j + 1) (by omega)
      simp only [Int.natCast_one, beq_self_eq_true, cond_true]
      rw [V_Pow _ (by omega)]
      simp only [za, zc, zN, pIntK_v]
      rw [show ((a / 2 ^ i % 2 ^ j : Nat) : Int) + ((2 ^ j : Nat) : Int) = ((a / 2 ^ i % 2 ^ (j + 1) : Nat) : Int) by rw [hs]; push_cast; rfl, wu_nat hb]
      exact this
theorem V_rField {a : Int} (h : Word a) (i m : Nat) (h2 : i + m ≤ 64) : ev 103 [.pv (U a), .pv (I i), .pv (I m)] [] = ok (U (a / 2 ^ i % 2 ^ m)) := by
  obtain ⟨n, rfl⟩ := Int.eq_ofNat_of_zero_le h.1
  rw [capnpref01_Field_eq]
  have := rfield_loop n (by have := h.2; omega) i m h2 m 0 (by omega)
  simp only [Nat.pow_zero, Nat.mod_one] at this
  rw [show ((0 : Nat) : Int) = 0 from rfl] at this
  rw [this]
  simp
theorem V_rSigned {a : Int} (h : Word a) : ev 102 [.pv (U a), .pv (I 2), .pv (I 30)] [] = ok (I (sgn30 (a / 4 % 1073741824))) := by
  have e1 : ev 103 [.pv (U a), .pv (I 2), .pv (I 30)] [] = ok (U (a / 4 % 1073741824)) := V_rField h 2 30 (by decide)
  have e2 : ev 72 [.pv (I 29)] [] = ok (U 536870912) := V_Pow 29 (by decide)
  rw [capnpref01_Signed_eq, e1]
  simp only [za, zc, zN, pIntK_v, zj]
  rw [show IntKind.wrap .i64 (30 - 1) = 29 by decide, e2]
  simp only [za, zc, zN, pIntK_v, zj, cond_dec]
  unfold sgn30
  have hx := h.1
  rw [w64 (x := a / 4 % 1073741824) (by omega), w64 (x := 536870912) (by omega), w64 (x := a / 4 % 1073741824 - 536870912) (by omega)]
  by_cases hc : 536870912 ≤ a / 4 % 1073741824
  · rw [w64 (x := a / 4 % 1073741824 - 536870912 - 536870912) (by omega)]
    simp [hc]
    omega
  · simp [hc]
theorem V_rDecode {a : Int} (h : Word a) : ev 85 [.pv (U a)] [] = ok (.agg (ptc (decI a))) := by
  have k1 : ev 103 [.pv (U a), .pv (I 32), .pv (I 16)] [] = ok (U (a / 4294967296 % 65536)) := V_rField h 32 16 (by decide)
  have k2 : ev 103 [.pv (U a), .pv (I 48), .pv (I 16)] [] = ok (U (a / 281474976710656 % 65536)) := V_rField h 48 16 (by decide)
  have k3 : ev 103 [.pv (U a), .pv (I 32), .pv (I 3)] [] = ok (U (a / 4294967296 % 8)) := V_rField h 32 3 (by decide)
  have k4 : ev 103 [.pv (U a), .pv (I 35), .pv (I 29)] [] = ok (U (a / 34359738368 % 536870912)) := V_rField h 35 29 (by decide)
  have k5 : ev 103 [.pv (U a), .pv (I 2), .pv (I 1)] [] = ok (U (a / 4 % 2)) := V_rField h 2 1 (by decide)
  have k6 : ev 103 [.pv (U a), .pv (I 3), .pv (I 29)] [] = ok (U (a / 8 % 536870912)) := V_rField h 3 29 (by decide)
  have k8 : ev 103 [.pv (U a), .pv (I 2), .pv (I 30)] [] = ok (U (a / 4 % 1073741824)) := V_rField h 2 30 (by decide)
  obtain ⟨g1, g2⟩ := h
  have hm : IntKind.wrap .i64 (Int.tmod a 4) = a % 4 := by rw [Int.tmod_eq_emod_of_nonneg g1, w64 (by omega)]
  have hd : IntKind.wrap .u64 (Int.tdiv a 4294967296) = a / 4294967296 := by rw [Int.tdiv_eq_ediv_of_nonneg g1, wu64 (by omega)]
  rw [capnpref02_Decode_eq, hm, k1, k2, k3, k4, k5, k6, k8, V_rSigned ⟨g1, g2⟩, hd]
  simp only [za, zc, zN, zj, pIntK_v]
  rw [w64 (x := a / 4294967296 % 65536) (by omega), w64 (x := a / 281474976710656 % 65536) (by omega), w64 (x := a / 4294967296 % 8) (by omega), w64 (x := a / 34359738368 % 536870912) (by omega), w64 (x := a / 8 % 536870912) (by omega)]
  rw [wu32_any, wu32_any, show a / 4 % 1073741824 % 4294967296 = a / 4 % 1073741824 by omega]
  unfold decI
  by_cases c0 : a % 4 = 0
  · simp [-getElem?_pos, zL, zM, cond_dec, cond_beq, cond_bne, cond_and, c0, ptc]
  by_cases c1 : a % 4 = 1
  · simp [-getElem?_pos, zL, zM, cond_dec, cond_beq, cond_bne, cond_and, c1, ptc]
  by_cases c2 : a % 4 = 2
  · simp [-getElem?_pos, zL, zM, cond_dec, cond_beq, cond_bne, cond_and, c2, ptc]
  · have c3 : a % 4 = 3 := by omega
    simp [-getElem?_pos, zL, zM, cond_dec, cond_beq, cond_bne, cond_and, c3, ptc]
end Go.Proofs.YtfljialckkgacaaGreatDoor.E
set_option linter.unusedVariables false
set_option linter.unusedSimpArgs false
namespace Go.Proofs.YtfljialckkgacaaGreatDoor.E
/-! Far pointers; the reference's words. -/
theorem V_rInBounds {l : List (List Int)} (h : Segs l) (s a n : Int) :
    ev 86 [.pv (.sl 1 (sgs l)), .pv (I s), .pv (I a), .pv (I n)] [] = ok (Bo (decide (inB l s a n))) := by
  have hw := (rdL_words h s).1
  rw [capnpref05_InBounds_eq]
  simp only [cond_dec, sgs_len]
  by_cases h1 : 0 ≤ s ∧ s < (l.length : Int)
  · rw [if_neg (by omega), if_neg (by omega)]
    simp only [sgs_rd h1.1 h1.2, h1.1, h1.2, decide_true, Bool.and_self, cond_true, zN, zl, zL, zi, ws_len]
    by_cases h2 : 0 ≤ a ∧ 0 ≤ n ∧ a ≤ ((rdL l s).length : Int)
    · rw [if_neg (by omega), if_neg (by omega), if_pos h2.2.2, w64 (by omega)]
      rw [show decide (n ≤ ((rdL l s).length : Int) - a) = decide (inB l s a n) from decide_eq_decide.2 (by unfold inB; omega)]
    · rw [show decide (inB l s a n) = false from decide_eq_false (by unfold inB; omega)]
      repeat' split
      all_goals first
        | rfl
        | (exfalso; omega)
  · rw [show decide (inB l s a n) = false from decide_eq_false (by unfold inB; omega)]
    repeat' split
    all_goals first
      | rfl
      | (exfalso; omega)
theorem rdL_nat {l : List (List Int)} {j : Nat} (h : j < l.length) : rdL l (j : Int) = l[j] := by
  simp [rdL, List.getD_eq_getElem?_getD, h]
theorem rd_nat {l : List Int} {j : Nat} (h : j < l.length) : rd l (j : Int) = l[j] := by
  simp [rd, List.getD_eq_getElem?_getD, h]
def wordR (l : List (List Int)) (s a : Int) : Option (Out × Heap) := ok (.tup (if inB l s a 1 then [U (rd (rdL l s) a), Bo true] else [U 0, Bo false]))
theorem rWord_skip {l : List (List Int)} (h : Segs l) (s a : Int) {i : Nat} (hi : i < l.length) : ∀ (d j : Nat), j + d = l[i].length → ¬ ((i : Int) = s ∧ (j : Int) ≤ a ∧ a < l[i].length) → capnpref05_Word_L2 (sgs l) s a i j = capnpref05_Word_L0 (sgs l) s a ((i + 1 : Nat) : Int) := by
  have hlen := (h.2 _ (List.getElem_mem hi)).1
  have hll := h.1
  intro d
  induction d with
  | zero =>
    intro j hj hn
    rw [capnpref05_Word_L2_eq]
    simp [-getElem?_pos, zL, zM, cond_dec, cond_beq, cond_bne, cond_and, sgs_get hi, hi, show ¬ j < l[i].length by omega, w64 (x := (i : Int) + 1) (by omega)]
  | succ d ih =>
    intro j hj hn
    have hjl : j < l[i].length := by omega
    rw [capnpref05_Word_L2_eq]
    have ih' := ih (j + 1) (by omega) (by omega)
    have e : (j : Int) + 1 = ((j + 1 : Nat) : Int) := by push_cast; rfl
    rw [w64 (x := (j : Int) + 1) (by omega), e, ih']
    have hc : ¬ ((i : Int) = s ∧ (j : Int) = a) := by omega
    by_cases h1 : (i : Int) = s
    · have h2 : ¬ (j : Int) = a := fun e => hc ⟨h1, e⟩
      subst h1
      simp [-getElem?_pos, zL, zM, cond_dec, cond_beq, cond_bne, cond_and, sgs_get hi, hi, hjl, h2]
    · simp [-getElem?_pos, zL, zM, cond_dec, cond_beq, cond_bne, cond_and, sgs_get hi, hi, hjl, h1]
theorem rWord_hit {l : List (List Int)} (h : Segs l) {i t : Nat} (hi : i < l.length) (ht : t < l[i].length) : ∀ (d j : Nat), j + d = t → capnpref05_Word_L2 (sgs l) i t i j = ok (.tup [U (rd (rdL l i) t), Bo true]) := by
  have hlen := (h.2 _ (List.getElem_mem hi)).1
  intro d
  induction d with
  | zero =>
    intro j hj
    obtain rfl : j = t := by omega
    rw [capnpref05_Word_L2_eq, rdL_nat hi, rd_nat ht]
    simp [-getElem?_pos, zL, zM, cond_dec, cond_beq, cond_bne, cond_and, sgs_get hi, hi, ws_get ht, ht]
  | succ d ih =>
    intro j hj
    have hjl : j < l[i].length := by omega
    rw [capnpref05_Word_L2_eq]
    have e : (j : Int) + 1 = ((j + 1 : Nat) : Int) := by push_cast; rfl
    rw [w64 (x := (j : Int) + 1) (by omega), e, ih (j + 1) (by omega)]
    simp [-getElem?_pos, zL, zM, cond_dec, cond_beq, cond_bne, cond_and, sgs_get hi, hi, hjl, show ¬ (j : Int) = t by omega]
theorem rWord_loop {l : List (List Int)} (h : Segs l) (s a : Int) : ∀ (d i : Nat), i + d = l.length → (s < (i : Int) → ¬ inB l s a 1) → capnpref05_Word_L0 (sgs l) s a i = wordR l s a := by
  intro d
  induction d with
  | zero =>
    intro i hi hs
    rw [capnpref05_Word_L0_eq]
    have hn : ¬ inB l s a 1 := fun hb => hs (by have := hb.2.1; omega) hb
    simp [-getElem?_pos, zL, zM, cond_dec, cond_beq, cond_bne, cond_and, show ¬ (i : Int) < l.length by omega, wordR, hn]
  | succ d ih =>
    intro i hi hs
    have hil : i < l.length := by omega
    rw [capnpref05_Word_L0_eq]
    have hlt : decide ((i : Int) < ((sgs l).length : Int)) = true := by simp; omega
    rw [hlt, cond_true]
    by_cases hc : (i : Int) = s ∧ (0 : Int) ≤ a ∧ a < l[i].length
    · obtain ⟨rfl, h0, h1⟩ := hc
      have := rWord_hit h (t := a.toNat) hil (by omega) a.toNat 0 (by omega)
      rw [Int.toNat_of_nonneg h0] at this
      rw [show (0 : Int) = ((0 : Nat) : Int) from rfl, this]
      have hb : inB l i a 1 := ⟨by omega, by omega, h0, by omega, by rw [rdL_nat hil]; omega⟩
      simp [wordR, hb]
    · rw [show (0 : Int) = ((0 : Nat) : Int) from rfl, rWord_skip h s a hil l[i].length 0 (by omega) (by simpa using hc)]
      refine ih (i + 1) (by omega) fun hlt2 hb => ?_
      by_cases he : (i : Int) = s
      · refine hc ⟨he, hb.2.2.1, ?_⟩
        have := hb.2.2.2.2
        rw [← he, rdL_nat hil] at this
        omega
      · exact hs (by omega) hb
theorem V_rWord {l : List (List Int)} (h : Segs l) (s a : Int) : ev 82 [.pv (.sl 1 (sgs l)), .pv (I s), .pv (I a)] [] = wordR l s a := by
  rw [capnpref05_Word_eq]
  by_cases hs : 0 ≤ s
  · exact rWord_loop h s a l.length 0 (by omega) (fun h' => by simp at h'; omega)
  · exact rWord_loop h s a l.length 0 (by omega) (fun _ hb => by have := hb.1; omega)
theorem V_Word' {l : List (List Int)} (h : Segs l) (s a : Int) : ev 123 [.pv (.sl 1 (sgs l)), .pv (I s), .pv (I a)] [] = wordR l s a := V_Word h s a
def wd (l : List (List Int)) (s a : Int) : Int := rd (rdL l s) a
theorem wd_word {l : List (List Int)} (h : Segs l) (s a : Int) : Word (wd l s a) := rd_word (rdL_words h s) a
theorem dec_kind {a : Int} (h : Word a) : (decI a).1 = a % 4 := by
  obtain ⟨h1, h2⟩ := h
  unfold decI
  repeat' split
  all_goals (simp; omega)
theorem dec_far {a : Int} (hr : Word a) (h : a % 4 = 2) : decI a = (2, 0, 0, 0, 0, 0, a / 4 % 2 == 1, a / 8 % 536870912, a / 4294967296, 0) := by
  obtain ⟨h1, h2⟩ := hr
  unfold decI
  rw [if_neg (by omega), if_neg (by omega), if_pos h, Int.emod_eq_of_lt (a := a / 4294967296) (by omega) (by omega)]
def sgl (l : List (List Int)) (a : Int) : Int × Int × Int × Int :=
  if inB l (a / 4294967296) (a / 8 % 536870912) 1 then (if wd l (a / 4294967296) (a / 8 % 536870912) % 4 = 2 then (0, 0, 0, 3) else (wd l (a / 4294967296) (a / 8 % 536870912), a / 4294967296, a / 8 % 536870912 + 1, 0)) else (0, 0, 0, 2)
def dbl (l : List (List Int)) (a : Int) : Int × Int × Int × Int :=
  if inB l (a / 4294967296) (a / 8 % 536870912) 2 then
    (if wd l (a / 4294967296) (a / 8 % 536870912) % 4 = 2 ∧ wd l (a / 4294967296) (a / 8 % 536870912) / 4 % 2 = 0 ∧ wd l (a / 4294967296) (a / 8 % 536870912 + 1) % 4 ≤ 1 ∧ (decI (wd l (a / 4294967296) (a / 8 % 536870912 + 1))).2.1 = 0
      then (wd l (a / 4294967296) (a / 8 % 536870912 + 1), wd l (a / 4294967296) (a / 8 % 536870912) / 4294967296, wd l (a / 4294967296) (a / 8 % 536870912) / 8 % 536870912, 0) else (0, 0, 0, 3)) else (0, 0, 0, 2)
/-- What Follow answers. -/
def fol (l : List (List Int)) (s a : Int) : Int × Int × Int × Int :=
  if inB l s a 1 then (if wd l s a % 4 = 2 then (if wd l s a / 4 % 2 = 1 then dbl l (wd l s a) else sgl l (wd l s a)) else (wd l s a, s, a + 1, 0)) else (0, 0, 0, 2)
def folc (t : Int × Int × Int × Int) : List PV := [U t.1, I t.2.1, I t.2.2.1, I t.2.2.2]
def plc (t : Int × Int × Int × Int) : List PV := [.agg [U t.1, I t.2.1, I t.2.2.1], I t.2.2.2]
theorem V_IsFar {a : Int} (h : Word a) : ev 124 [.pv (U a)] [] = ok (Bo (a % 4 == 2)) := by
  rw [far_IsFar_eq, V_Decode h]
  simp [-getElem?_pos, zL, zM, cond_dec, cond_beq, cond_bne, cond_and, ptc, dec_kind h]
theorem V_Landing {a : Int} (h : Word a) (hf : a % 4 = 2) : ev 140 [.pv (U a)] [] = ok (.tup [I (a / 4294967296), I (a / 8 % 536870912)]) := by
  rw [far_Landing_eq, V_Decode h, dec_far h hf]
  obtain ⟨h1, h2⟩ := h
  simp [-getElem?_pos, zL, zM, cond_dec, cond_beq, cond_bne, cond_and, ptc, w64 (x := a / 4294967296) (by omega)]
theorem V_single {l : List (List Int)} (hl : Segs l) {a : Int} (h : Word a) (hf : a % 4 = 2) : ev 125 [.pv (.sl 1 (sgs l)), .pv (U a)] [] = ok (.tup (plc (sgl l a))) := by
  rw [far_single_eq, V_Landing h hf]
  have hw := wd_word hl (a / 4294967296) (a / 8 % 536870912)
  have hx := V_IsFar hw
  unfold wd at hx
  unfold sgl plc
  by_cases hb : inB l (a / 4294967296) (a / 8 % 536870912) 1
  · by_cases hc : wd l (a / 4294967296) (a / 8 % 536870912) % 4 = 2
    · unfold wd at hc
      simp [-getElem?_pos, zL, zM, cond_dec, cond_beq, cond_bne, cond_and, V_Word' hl, wordR, hb, hx, hc, wd]
    · unfold wd at hc
      simp [-getElem?_pos, zL, zM, cond_dec, cond_beq, cond_bne, cond_and, V_Word' hl, wordR, hb, hx, hc, wd, w64 (x := a / 8 % 536870912 + 1) (by omega)]
  · simp [-getElem?_pos, zL, zM, cond_dec, cond_beq, cond_bne, cond_and, V_Word' hl, wordR, hb]
theorem two_of (L : List Int) (n : Nat) (h : n + 2 ≤ L.length) : (L.drop n).take 2 = [L.getD n 0, L.getD (n + 1) 0] := by
  rw [List.drop_eq_getElem_cons (by omega), List.drop_eq_getElem_cons (i := n + 1) (by omega), List.getD_eq_getElem?_getD, List.getD_eq_getElem?_getD, List.getElem?_eq_getElem (by omega), List.getElem?_eq_getElem (by omega)]
  rfl
theorem cut_two {l : List (List Int)} {s a : Int} (h : inB l s a 2) : cut l s a 2 = [wd l s a, wd l s (a + 1)] := by
  obtain ⟨h1, h2, h3, h4, h5⟩ := h
  unfold cut wd rd
  rw [show (2 : Int).toNat = 2 from rfl, two_of _ _ (by omega), show (a + 1).toNat = a.toNat + 1 by omega]
theorem V_double {l : List (List Int)} (hl : Segs l) {a : Int} (h : Word a) (hf : a % 4 = 2) : ev 126 [.pv (.sl 1 (sgs l)), .pv (U a)] [] = ok (.tup (plc (dbl l a))) := by
  rw [far_double_eq, V_Landing h hf]
  unfold dbl plc
  by_cases hb : inB l (a / 4294967296) (a / 8 % 536870912) 2
  case neg => simp [-getElem?_pos, zL, zM, cond_dec, cond_beq, cond_bne, cond_and, V_Slice hl, hb]
  have h1 := wd_word hl (a / 4294967296) (a / 8 % 536870912)
  have h2 := wd_word hl (a / 4294967296) (a / 8 % 536870912 + 1)
  simp only [za, zc, zN, zf, zL, zM, V_Slice hl _ _ 2 (by decide), hb, if_true, cut_two hb]
  generalize wd l (a / 4294967296) (a / 8 % 536870912) = y at h1
  generalize wd l (a / 4294967296) (a / 8 % 536870912 + 1) = z at h2
  have k1 := dec_kind h1
  have k2 := dec_kind h2
  by_cases c1 : y % 4 = 2
  case neg => simp [-getElem?_pos, zL, zM, cond_dec, cond_beq, cond_bne, cond_and, ws, V_Decode h1, V_Decode h2, ptc, k1, c1]
  have k3 := dec_far h1 c1
  by_cases c2 : y / 4 % 2 = 1
  case pos => simp [-getElem?_pos, zL, zM, cond_dec, cond_beq, cond_bne, cond_and, ws, V_Decode h1, V_Decode h2, ptc, k3, c1, c2]
  by_cases c3 : z % 4 ≤ 1
  case neg => simp [-getElem?_pos, zL, zM, cond_dec, cond_beq, cond_bne, cond_and, ws, V_Decode h1, V_Decode h2, ptc, k2, k3, c1, c2, c3, show 1 < z % 4 by omega]
  by_cases c4 : (decI z).2.1 = 0
  case neg => simp [-getElem?_pos, zL, zM, cond_dec, cond_beq, cond_bne, cond_and, ws, V_Decode h1, V_Decode h2, ptc, k2, k3, c1, c2, c3, c4, show ¬ 1 < z % 4 by omega]
  obtain ⟨g1, g2⟩ := h1
  simp [-getElem?_pos, zL, zM, cond_dec, cond_beq, cond_bne, cond_and, ws, V_Decode ⟨g1, g2⟩, V_Decode h2, ptc, k2, k3, c1, c2, c3, c4, show ¬ 1 < z % 4 by omega, show y / 4 % 2 = 0 by omega, w64 (x := y / 4294967296) (by omega)]
theorem V_Follow {l : List (List Int)} (hl : Segs l) (s a : Int) : ev 105 [.pv (.sl 1 (sgs l)), .pv (I s), .pv (I a)] [] = ok (.tup (folc (fol l s a))) := by
  rw [far_Follow_eq, V_Word' hl]
  unfold fol folc
  by_cases hb : inB l s a 1
  case neg => simp [-getElem?_pos, zL, zM, cond_dec, cond_beq, cond_bne, cond_and, wordR, hb]
  have h0 := wd_word hl s a
  have hlen := (rdL_words hl s).1
  have ha : a + 1 ≤ 9223372036854775807 ∧ 0 ≤ a := by have := hb.2.2; omega
  simp only [wordR, hb, if_true, za, zc, zN, zf, zL, zM, ze, show rd (rdL l s) a = wd l s a from rfl]
  by_cases hf : wd l s a % 4 = 2
  case neg => simp [-getElem?_pos, zL, zM, cond_dec, cond_beq, cond_bne, cond_and, V_IsFar h0, hf, w64 (x := a + 1) (by omega), eqCells]
  generalize wd l s a = x at h0 hf
  by_cases h4 : x / 4 % 2 = 1
  · simp only [hf, h4, if_true, V_IsFar h0, V_Decode h0, V_double hl h0 hf]
    unfold dbl
    repeat' split
    all_goals (simp [-getElem?_pos, zL, zM, cond_dec, cond_beq, cond_bne, cond_and, ptc, dec_far h0 hf, plc, hf, h4, eqCells]; try (split <;> rfl))
  · simp only [hf, h4, if_true, if_false, V_IsFar h0, V_Decode h0, V_single hl h0 hf]
    unfold sgl
    repeat' split
    all_goals (simp [-getElem?_pos, zL, zM, cond_dec, cond_beq, cond_bne, cond_and, ptc, dec_far h0 hf, plc, hf, h4, eqCells]; try (split <;> rfl))
-- the reference's
theorem V_rIsFar {a : Int} (h : Word a) : ev 83 [.pv (U a)] [] = ok (Bo (a % 4 == 2)) := by
  rw [capnpref07_IsFar_eq, Int.tmod_eq_emod_of_nonneg h.1]
theorem V_rLanding {a : Int} (h : Word a) : ev 84 [.pv (U a)] [] = ok (.tup [I (a / 4294967296), I (a / 8 % 536870912)]) := by
  obtain ⟨h1, h2⟩ := h
  rw [capnpref07_Landing_eq, Int.tdiv_eq_ediv_of_nonneg h1, Int.tmod_eq_emod_of_nonneg h1, Int.tdiv_eq_ediv_of_nonneg (by omega), wu64 (x := a / 4294967296) (by omega), wu64 (by omega), w64 (x := a / 4294967296) (by omega), w64 (by omega)]
  simp
  omega
theorem inB_two {l : List (List Int)} {s a : Int} : inB l s a 2 ↔ inB l s a 1 ∧ inB l s (a + 1) 1 := by
  unfold inB
  omega
theorem V_rFollow {l : List (List Int)} (hl : Segs l) (s a : Int) : ev 56 [.pv (.sl 1 (sgs l)), .pv (I s), .pv (I a)] [] = ok (.tup (folc (fol l s a))) := by
  rw [capnpref07_Follow_eq, V_rWord hl]
  unfold fol folc
  by_cases hb : inB l s a 1
  case neg => simp [-getElem?_pos, zL, zM, cond_dec, cond_beq, cond_bne, cond_and, wordR, hb]
  have h0 := wd_word hl s a
  have hlen := (rdL_words hl s).1
  have ha : a + 1 ≤ 9223372036854775807 ∧ 0 ≤ a := by have := hb.2.2; omega
  simp only [wordR, hb, if_true, za, zc, zN, zf, zL, zM, ze, show rd (rdL l s) a = wd l s a from rfl]
  by_cases hf : wd l s a % 4 = 2
  case neg => simp [-getElem?_pos, zL, zM, cond_dec, cond_beq, cond_bne, cond_and, V_rIsFar h0, hf, w64 (x := a + 1) (by omega)]
  generalize wd l s a = x at h0 hf
  have hbit : Int.tmod (IntKind.wrap .u64 (Int.tdiv x 4)) 2 = x / 4 % 2 := by
    obtain ⟨g1, g2⟩ := h0
    rw [Int.tdiv_eq_ediv_of_nonneg g1, wu64 (by omega), Int.tmod_eq_emod_of_nonneg (by omega)]
  have h1 := wd_word hl (x / 4294967296) (x / 8 % 536870912)
  have h2 := wd_word hl (x / 4294967296) (x / 8 % 536870912 + 1)
  have hv1 := V_rWord hl (x / 4294967296) (x / 8 % 536870912)
  have hv2 := V_rWord hl (x / 4294967296) (x / 8 % 536870912 + 1)
  simp only [V_rIsFar h0, V_rLanding h0, hf, beq_self_eq_true, Bool.not_true, cond_false, if_true, za, zc, zN, zf, zL, zM, ze, pIntK_v, hbit, hv1, w64 (x := x / 8 % 536870912 + 1) (by omega), hv2]
  by_cases hb1 : inB l (x / 4294967296) (x / 8 % 536870912) 1
  case neg =>
    have hb2 : ¬ inB l (x / 4294967296) (x / 8 % 536870912) 2 := fun h => hb1 (inB_two.1 h).1
    by_cases h4 : x / 4 % 2 = 1
    · simp [-getElem?_pos, zL, zM, cond_dec, cond_beq, cond_bne, cond_and, wordR, hb1, h4, dbl, hb2]
    · simp [-getElem?_pos, zL, zM, cond_dec, cond_beq, cond_bne, cond_and, wordR, hb1, h4, sgl]
  by_cases h4 : x / 4 % 2 = 1
  case neg =>
    have h40 : x / 4 % 2 = 0 := by omega
    have e : rd (rdL l (x / 4294967296)) (x / 8 % 536870912) = wd l (x / 4294967296) (x / 8 % 536870912) := rfl
    simp only [wordR, hb1, if_true, e, h4, if_false, sgl, h40, za, zc, zN, zf, zL, zM, ze, V_rIsFar h1]
    by_cases c1 : wd l (x / 4294967296) (x / 8 % 536870912) % 4 = 2
    · simp [-getElem?_pos, zL, zM, cond_dec, cond_beq, cond_bne, cond_and, c1]
    · simp [-getElem?_pos, zL, zM, cond_dec, cond_beq, cond_bne, cond_and, c1]
  have h40 : ¬ x / 4 % 2 = 0 := by omega
  have e : rd (rdL l (x / 4294967296)) (x / 8 % 536870912) = wd l (x / 4294967296) (x / 8 % 536870912) := rfl
  have e' : rd (rdL l (x / 4294967296)) (x / 8 % 536870912 + 1) = wd l (x / 4294967296) (x / 8 % 536870912 + 1) := rfl
  by_cases hb2 : inB l (x / 4294967296) (x / 8 % 536870912 + 1) 1
  case neg =>
    have hb3 : ¬ inB l (x / 4294967296) (x / 8 % 536870912) 2 := fun h => hb2 (inB_two.1 h).2
    simp [-getElem?_pos, zL, zM, cond_dec, cond_beq, cond_bne, cond_and, wordR, hb1, hb2, h4, dbl, hb3]
  have hb3 : inB l (x / 4294967296) (x / 8 % 536870912) 2 := inB_two.2 ⟨hb1, hb2⟩
  simp only [wordR, hb1, hb2, hb3, if_true, e, e', h4, dbl, za, zc, zN, zf, zL, zM, ze]
  generalize wd l (x / 4294967296) (x / 8 % 536870912) = y at h1
  generalize wd l (x / 4294967296) (x / 8 % 536870912 + 1) = z at h2
  have k2 := dec_kind h2
  have hbit1 : Int.tmod (IntKind.wrap .u64 (Int.tdiv y 4)) 2 = y / 4 % 2 := by
    obtain ⟨g1, g2⟩ := h1
    rw [Int.tdiv_eq_ediv_of_nonneg g1, wu64 (by omega), Int.tmod_eq_emod_of_nonneg (by omega)]
  have kl := V_rLanding h1
  by_cases c1 : y % 4 = 2
  case neg => simp [-getElem?_pos, zL, zM, cond_dec, cond_beq, cond_bne, cond_and, V_rDecode h2, V_rIsFar h1, ptc, k2, c1]
  by_cases c2 : y / 4 % 2 = 1
  case pos => simp [-getElem?_pos, zL, zM, cond_dec, cond_beq, cond_bne, cond_and, V_rDecode h2, V_rIsFar h1, ptc, k2, c1, c2, hbit1]
  by_cases c3 : z % 4 ≤ 1
  case neg => simp [-getElem?_pos, zL, zM, cond_dec, cond_beq, cond_bne, cond_and, V_rDecode h2, V_rIsFar h1, ptc, k2, c1, c2, c3, hbit1, show 1 < z % 4 by omega]
  by_cases c4 : (decI z).2.1 = 0
  case neg => simp [-getElem?_pos, zL, zM, cond_dec, cond_beq, cond_bne, cond_and, V_rDecode h2, V_rIsFar h1, ptc, k2, c1, c2, c3, c4, hbit1, show ¬ 1 < z % 4 by omega]
  simp [-getElem?_pos, zL, zM, cond_dec, cond_beq, cond_bne, cond_and, V_rDecode h2, V_rIsFar h1, ptc, k2, c1, c2, c3, c4, hbit1, show ¬ 1 < z % 4 by omega, show y / 4 % 2 = 0 by omega, kl]
end Go.Proofs.YtfljialckkgacaaGreatDoor.E
set_option linter.unusedVariables false
set_option linter.unusedSimpArgs false
namespace Go.Proofs.YtfljialckkgacaaGreatDoor.E
/-! Objects. -/
/-- A located object: kind, segment, place, data words, pointers, element kind, number, cost. -/
structure Ob where
  kind : Int
  seg : Int
  at_ : Int
  data : Int
  ptrs : Int
  elem : Int
  n : Int
  cost : Int
  deriving DecidableEq
def Ob.c (o : Ob) : List PV := [I o.kind, I o.seg, I o.at_, I o.data, I o.ptrs, I o.elem, I o.n, I o.cost]
def ob0 : Ob := ⟨0, 0, 0, 0, 0, 0, 0, 0⟩
def obR (t : Ob × Int) : List PV := [.agg t.1.c, I t.2]
def bitsOf (e : Int) : Int := if e = 1 then 1 else if e = 2 then 8 else if e = 3 then 16 else if e = 4 then 32 else if e = 5 then 64 else if e = 6 then 64 else 0
theorem bitsOf_range (e : Int) : 0 ≤ bitsOf e ∧ bitsOf e ≤ 64 := by
  unfold bitsOf
  repeat' split
  all_goals omega
/-- Words of a list. -/
def wordsOf (e c : Int) : Int := if e = 7 then c + 1 else (bitsOf e * c + 63) / 64
theorem bits_mul {e c : Int} (hc : 0 ≤ c ∧ c ≤ 536870911) : 0 ≤ bitsOf e * c ∧ bitsOf e * c ≤ 64 * 536870911 := by
  have hb := bitsOf_range e
  exact ⟨Int.mul_nonneg hb.1 hc.1, Int.mul_le_mul hb.2 hc.2 hc.1 (by omega)⟩
theorem wordsOf_range {e c : Int} (hc : 0 ≤ c ∧ c ≤ 536870911) : 0 ≤ wordsOf e c ∧ wordsOf e c ≤ 536870912 := by
  have h := bits_mul (e := e) hc
  unfold wordsOf
  split <;> omega
theorem bits_tab {e : Int} (he : 0 ≤ e ∧ e ≤ 7) : ([I 0, I 1, I 8, I 16, I 32, I 64, I 64, I 0] : List PV)[e.toNat]? = some (I (bitsOf e)) := by
  obtain ⟨h1, h2⟩ := he
  have : e = 0 ∨ e = 1 ∨ e = 2 ∨ e = 3 ∨ e = 4 ∨ e = 5 ∨ e = 6 ∨ e = 7 := by omega
  rcases this with rfl | rfl | rfl | rfl | rfl | rfl | rfl | rfl <;> rfl
theorem V_Words {e c : Int} (he : 0 ≤ e ∧ e ≤ 7) (hc : 0 ≤ c ∧ c ≤ 536870911) : ev 104 [.pv (I e), .pv (I c)] [] = ok (I (wordsOf e c)) := by
  have h := bits_mul (e := e) hc
  rw [listsize_Words_eq]
  unfold wordsOf
  by_cases h7 : e = 7
  · simp [-getElem?_pos, zL, zM, cond_dec, cond_beq, cond_bne, cond_and, h7, w64 (x := c + 1) (by omega)]
  · have hb := bits_tab he
    simp only [I] at hb
    rw [show (0 + e.toNat * 1) = e.toNat by omega]
    simp only [hb, listsize_up_eq]
    rw [if_neg h7]
    simp [-getElem?_pos, zL, zM, cond_dec, cond_beq, cond_bne, cond_and, h7, he.1, show e < 8 by omega, okBin, w64 (x := bitsOf e * c) (by omega), w64 (x := bitsOf e * c + 64) (by omega), w64 (x := bitsOf e * c + 64 - 1) (by omega)]
    rw [Int.tdiv_eq_ediv_of_nonneg (by omega), w64 (by omega), show bitsOf e * c + 64 - 1 = bitsOf e * c + 63 by omega]
theorem V_rBits (e : Int) : ev 87 [.pv (I e)] [] = ok (I (bitsOf e)) := by
  rw [capnpref06_Bits_eq]
  unfold bitsOf
  simp only [cond_beq]
  repeat' split
  all_goals rfl
theorem V_rWords {e c : Int} (hc : 0 ≤ c ∧ c ≤ 536870911) : ev 66 [.pv (I e), .pv (I c)] [] = ok (I (wordsOf e c)) := by
  have h := bits_mul (e := e) hc
  rw [capnpref06_Words_eq, V_rBits]
  unfold wordsOf
  by_cases h7 : e = 7
  · simp [-getElem?_pos, zL, zM, cond_dec, cond_beq, cond_bne, cond_and, h7, w64 (x := c + 1) (by omega)]
  · simp only [za, zc, zN, pIntK_v, cond_beq, cond_dec, if_neg h7]
    rw [w64 (x := bitsOf e * c) (by omega), Int.tdiv_eq_ediv_of_nonneg (by omega), w64 (x := bitsOf e * c / 64) (by omega), w64 (x := bitsOf e * c / 64 * 64) (by omega), w64 (x := bitsOf e * c / 64 + 1) (by omega)]
    split
    · rw [show bitsOf e * c / 64 + 1 = (bitsOf e * c + 63) / 64 by omega]
    · rw [show bitsOf e * c / 64 = (bitsOf e * c + 63) / 64 by omega]
def bad (e : Int) : Ob × Int := (ob0, e)
def objS (l : List (List Int)) (s st d q : Int) : Ob × Int := if inB l s st (d + q) then (⟨1, s, st, d, q, 0, 0, d + q⟩, 0) else bad 2
def objC (l : List (List Int)) (s st c : Int) : Ob × Int :=
  if inB l s st (c + 1) then
    (if (decI (wd l s st)).1 = 0 ∧ 0 ≤ (decI (wd l s st)).2.1 ∧ (decI (wd l s st)).2.1 * ((decI (wd l s st)).2.2.1 + (decI (wd l s st)).2.2.2.1) ≤ c then (⟨2, s, st + 1, (decI (wd l s st)).2.2.1, (decI (wd l s st)).2.2.2.1, 7, (decI (wd l s st)).2.1, c + 1 + (if (decI (wd l s st)).2.2.1 + (decI (wd l s st)).2.2.2.1 = 0 then (decI (wd l s st)).2.1 else 0)⟩, 0) else bad 5) else bad 2
def objL (l : List (List Int)) (s st e c : Int) : Ob × Int := if e = 7 then objC l s st c else if inB l s st (wordsOf e c) then (⟨2, s, st, 0, 0, e, c, wordsOf e c⟩, 0) else bad 2
def objP (l : List (List Int)) (s b : Int) (p : PT) : Ob × Int :=
  if p.1 = 0 then objS l s (b + p.2.1) p.2.2.1 p.2.2.2.1 else if p.1 = 1 then objL l s (b + p.2.1) p.2.2.2.2.1 p.2.2.2.2.2.1 else if p.2.2.2.2.2.2.2.2.2 = 0 then bad 6 else bad 4
/-- What Object answers. -/
def obj (l : List (List Int)) (s a : Int) : Ob × Int :=
  if (fol l s a).2.2.2 = 0 then (if (fol l s a).1 = 0 then bad 0 else objP l (fol l s a).2.1 (fol l s a).2.2.1 (decI (fol l s a).1)) else bad (fol l s a).2.2.2
/-- The parts of a decoded word are small. -/
theorem dec_small {x : Int} (h : Word x) : -536870912 ≤ (decI x).2.1 ∧ (decI x).2.1 ≤ 536870911 ∧ 0 ≤ (decI x).2.2.1 ∧ (decI x).2.2.1 ≤ 65535 ∧ 0 ≤ (decI x).2.2.2.1 ∧ (decI x).2.2.2.1 ≤ 65535 ∧ 0 ≤ (decI x).2.2.2.2.1 ∧ (decI x).2.2.2.2.1 ≤ 7 ∧ 0 ≤ (decI x).2.2.2.2.2.1 ∧ (decI x).2.2.2.2.2.1 ≤ 536870911 ∧ 0 ≤ (decI x).1 ∧ (decI x).1 ≤ 3 := by
  obtain ⟨h1, h2⟩ := h
  unfold decI sgn30
  repeat' split
  all_goals (simp only []; try split)
  all_goals (simp; try omega)
/-- The segments are not long. -/
def Sm (l : List (List Int)) : Prop := ∀ s, ((rdL l s).length : Int) ≤ 1099511627776
theorem fol_base {l : List (List Int)} (hl : Segs l) (hs : Sm l) (s a : Int) (h : (fol l s a).2.2.2 = 0) : 0 ≤ (fol l s a).2.2.1 ∧ (fol l s a).2.2.1 ≤ 1099511627777 := by
  obtain ⟨h0, h0'⟩ := wd_word hl s a
  have hs' := hs s
  unfold fol at h ⊢
  by_cases hb : inB l s a 1
  case neg => rw [if_neg hb] at h; simp at h
  rw [if_pos hb] at h ⊢
  by_cases hf : wd l s a % 4 = 2
  case neg =>
    rw [if_neg hf] at h ⊢
    unfold inB at hb
    simp only
    omega
  rw [if_pos hf] at h ⊢
  generalize wd l s a = x at *
  by_cases h4 : x / 4 % 2 = 1
  · rw [if_pos h4] at h ⊢
    unfold dbl at h ⊢
    by_cases c1 : inB l (x / 4294967296) (x / 8 % 536870912) 2
    case neg => rw [if_neg c1] at h; simp at h
    rw [if_pos c1] at h ⊢
    split at h
    · rename_i c2
      rw [if_pos c2]
      simp only
      omega
    · simp at h
  · rw [if_neg h4] at h ⊢
    unfold sgl at h ⊢
    by_cases c1 : inB l (x / 4294967296) (x / 8 % 536870912) 1
    case neg => rw [if_neg c1] at h; simp at h
    rw [if_pos c1] at h ⊢
    split at h
    · simp at h
    · rename_i c2
      rw [if_neg c2]
      simp only
      omega
theorem fol_word {l : List (List Int)} (hl : Segs l) (s a : Int) : Word (fol l s a).1 := by
  have w0 : Word 0 := ⟨by decide, by decide⟩
  unfold fol
  split
  · split
    · split
      · unfold dbl
        split
        · split
          · exact wd_word hl _ _
          · exact w0
        · exact w0
      · unfold sgl
        split
        · split
          · exact w0
          · exact wd_word hl _ _
        · exact w0
    · exact wd_word hl _ _
  · exact w0
theorem V_within {l : List (List Int)} (hl : Segs l) (o : Ob) (st n : Int) : ev 142 [.pv (.sl 1 (sgs l)), .pv (.agg o.c), .pv (I st), .pv (I n)] [] = ok (.tup (obR (if inB l o.seg st n then (o, 0) else bad 2))) := by
  rw [Ob.c, resolve_within_eq, V_InBounds hl]
  split <;> simp [-getElem?_pos, zL, zM, cond_dec, cond_beq, cond_bne, cond_and, *, obR, Ob.c, bad, ob0]
theorem V_structure {l : List (List Int)} (hl : Segs l) (p : PT) (s st : Int) (hp : 0 ≤ p.2.2.1 ∧ p.2.2.1 ≤ 65535 ∧ 0 ≤ p.2.2.2.1 ∧ p.2.2.2.1 ≤ 65535) : ev 127 [.pv (.sl 1 (sgs l)), .pv (.agg (ptc p)), .pv (I s), .pv (I st)] [] = ok (.tup (obR (objS l s st p.2.2.1 p.2.2.2.1))) := by
  rw [ptc, resolve_structure_eq, w64 (x := p.2.2.1 + p.2.2.2.1) (by omega)]
  have := V_within hl ⟨1, s, st, p.2.2.1, p.2.2.2.1, 0, 0, p.2.2.1 + p.2.2.2.1⟩ st (p.2.2.1 + p.2.2.2.1)
  simp only [Ob.c] at this
  rw [this]
  unfold objS
  split <;> simp [-getElem?_pos, zL, zM, cond_dec, cond_beq, cond_bne, cond_and, obR, Ob.c, bad, ob0]
theorem inB_one {l : List (List Int)} {s st n : Int} (h : inB l s st n) (hn : 1 ≤ n) : inB l s st 1 := by unfold inB at h ⊢; omega
theorem size_small {o n : Int} (ho : 0 ≤ o ∧ o ≤ 536870911) (hn : 0 ≤ n ∧ n ≤ 131070) : 0 ≤ o * n ∧ o * n ≤ 536870911 * 131070 := ⟨Int.mul_nonneg ho.1 hn.1, Int.mul_le_mul ho.2 hn.2 hn.1 (by omega)⟩
theorem V_composite {l : List (List Int)} (hl : Segs l) (hs : Sm l) (p : PT) (s st : Int) (hc : 0 ≤ p.2.2.2.2.2.1 ∧ p.2.2.2.2.2.1 ≤ 536870911) : ev 143 [.pv (.sl 1 (sgs l)), .pv (.agg (ptc p)), .pv (I s), .pv (I st)] [] = ok (.tup (obR (objC l s st p.2.2.2.2.2.1))) := by
  have hs' := hs s
  rw [ptc, resolve_composite_eq]
  generalize p.2.2.2.2.2.1 = c at hc
  unfold objC
  rw [w64 (x := c + 1) (by omega), V_InBounds hl]
  by_cases hb : inB l s st (c + 1)
  case neg => simp [-getElem?_pos, zL, zM, cond_dec, cond_beq, cond_bne, cond_and, hb, obR, bad, ob0, Ob.c]
  have hst : 0 ≤ st ∧ st ≤ 1099511627776 := by unfold inB at hb; omega
  have hw : ev 123 [.pv (.sl 1 (sgs l)), .pv (I s), .pv (I st)] [] = ok (.tup [U (wd l s st), Bo true]) := by
    rw [V_Word' hl, wordR, if_pos (inB_one hb (by omega))]
    rfl
  have h0 := wd_word hl s st
  have hd := dec_small h0
  rw [hw]
  simp only [hb, decide_true, Bool.not_true, cond_false, za, zc, zN, ze, zf, zL, zM, V_Decode h0, if_true]
  generalize decI (wd l s st) = q at hd
  obtain ⟨k, o, d, m, e, c', b, pd, sg, lo⟩ := q
  simp only at hd ⊢
  by_cases hk : k = 0
  case neg => simp [-getElem?_pos, zL, zM, cond_dec, cond_beq, cond_bne, cond_and, hk, ptc, obR, bad, ob0, Ob.c]
  by_cases ho : o < 0
  case pos => simp [-getElem?_pos, zL, zM, cond_dec, cond_beq, cond_bne, cond_and, hk, ho, ptc, obR, bad, ob0, Ob.c, show ¬ 0 ≤ o by omega]
  have hm := size_small (o := o) (n := d + m) (by omega) (by omega)
  by_cases hg : o * (d + m) ≤ c
  case neg => simp [-getElem?_pos, zL, zM, cond_dec, cond_beq, cond_bne, cond_and, hk, ho, ptc, obR, bad, ob0, Ob.c, hg, w64 (x := d + m) (by omega), w64 (x := o * (d + m)) (by omega), show c < o * (d + m) by omega]
  by_cases hz : d + m = 0
  · simp [-getElem?_pos, zL, zM, cond_dec, cond_beq, cond_bne, cond_and, hk, ho, ptc, obR, bad, ob0, Ob.c, hg, w64 (x := d + m) (by omega), w64 (x := o * (d + m)) (by omega), show ¬ c < o * (d + m) by omega, show 0 ≤ o by omega, hz, w64 (x := 0) (by omega), show ¬ c < 0 by omega, hc.1, w64 (x := st + 1) (by omega), w64 (x := c + 1 + o) (by omega)]
  · simp [-getElem?_pos, zL, zM, cond_dec, cond_beq, cond_bne, cond_and, hk, ho, ptc, obR, bad, ob0, Ob.c, hg, w64 (x := d + m) (by omega), w64 (x := o * (d + m)) (by omega), show ¬ c < o * (d + m) by omega, show 0 ≤ o by omega, hz, w64 (x := st + 1) (by omega)]
theorem V_list {l : List (List Int)} (hl : Segs l) (hs : Sm l) (p : PT) (s st : Int) (he : 0 ≤ p.2.2.2.2.1 ∧ p.2.2.2.2.1 ≤ 7) (hc : 0 ≤ p.2.2.2.2.2.1 ∧ p.2.2.2.2.2.1 ≤ 536870911) : ev 128 [.pv (.sl 1 (sgs l)), .pv (.agg (ptc p)), .pv (I s), .pv (I st)] [] = ok (.tup (obR (objL l s st p.2.2.2.2.1 p.2.2.2.2.2.1))) := by
  have hco := V_composite hl hs p s st hc
  rw [ptc, resolve_list_eq, V_Words he hc]
  have hco' := hco
  rw [ptc] at hco'
  unfold objL
  by_cases h7 : p.2.2.2.2.1 = 7
  · simp only [cond_beq, if_pos h7]
    rw [hco']
    simp [-getElem?_pos, zL, zM, cond_dec, cond_beq, cond_bne, cond_and, obR, Ob.c]
  · have := V_within hl ⟨2, s, st, 0, 0, p.2.2.2.2.1, p.2.2.2.2.2.1, wordsOf p.2.2.2.2.1 p.2.2.2.2.2.1⟩ st (wordsOf p.2.2.2.2.1 p.2.2.2.2.2.1)
    simp only [Ob.c] at this
    simp only [cond_beq, if_neg h7]
    simp only [za, zc, zN, zn, Bool.and_self, cond_true, this]
    split <;> simp [-getElem?_pos, zL, zM, cond_dec, cond_beq, cond_bne, cond_and, obR, Ob.c, bad, ob0]
theorem V_other {l : List (List Int)} (p : PT) (s st : Int) (h3 : p.1 = 3) : ev 129 [.pv (.sl 1 (sgs l)), .pv (.agg (ptc p)), .pv (I s), .pv (I st)] [] = ok (.tup (obR (if p.2.2.2.2.2.2.2.2.2 = 0 then bad 6 else bad 4))) := by
  rw [ptc, resolve_other_eq, pointer_IsCapability_eq]
  by_cases h : p.2.2.2.2.2.2.2.2.2 = 0
  · simp [-getElem?_pos, zL, zM, cond_dec, cond_beq, cond_bne, cond_and, h3, h, obR, bad, ob0, Ob.c]
  · simp [-getElem?_pos, zL, zM, cond_dec, cond_beq, cond_bne, cond_and, h3, h, obR, bad, ob0, Ob.c]
theorem fol_kind {l : List (List Int)} (hl : Segs l) (s a : Int) (h : (fol l s a).2.2.2 = 0) : (fol l s a).1 % 4 ≠ 2 := by
  unfold fol at h ⊢
  split at h
  case isFalse => simp at h
  rename_i hb
  rw [if_pos hb]
  split at h
  case isFalse => rename_i hf; rw [if_neg hf]; exact hf
  rename_i hf
  rw [if_pos hf]
  split at h
  · rename_i h4
    rw [if_pos h4]
    unfold dbl at h ⊢
    split at h
    case isFalse => simp at h
    rename_i c1
    rw [if_pos c1]
    split at h
    case isFalse => simp at h
    rename_i c2
    rw [if_pos c2]
    simp only
    omega
  · rename_i h4
    rw [if_neg h4]
    unfold sgl at h ⊢
    split at h
    case isFalse => simp at h
    rename_i c1
    rw [if_pos c1]
    split at h
    case isTrue => simp at h
    rename_i c2
    rw [if_neg c2]
    exact c2
theorem V_Object {l : List (List Int)} (hl : Segs l) (hs : Sm l) (s a : Int) : ev 109 [.pv (.sl 1 (sgs l)), .pv (I s), .pv (I a)] [] = ok (.tup (obR (obj l s a))) := by
  rw [resolve_Object_eq, V_Follow hl]
  unfold obj
  have hb := fol_base hl hs s a
  have hw := fol_word hl s a
  have hk := fol_kind hl s a
  generalize fol l s a = t at hb hw hk
  obtain ⟨w, s', b, e⟩ := t
  dsimp only at hb hw hk
  dsimp only [folc, za, zb, zc, zN, ze, zf, zg, zh, zi, zj, zu, zv, zx, zy, zL, zM, zk, zl, zm, zn, zo, zq, zr, zs, zt, zA, zC, zD, zE, zF, zG, zH, zI, zJ, zK]
  by_cases he : e = 0
  case neg =>
    rw [if_neg he, bne_iff_ne.2 he]
    rfl
  subst he
  rw [if_pos rfl, show ((0 : Int) != 0) = false from rfl]
  dsimp only [za, zb, zc, zN, ze, zf, zg, zh, zi, zj, zu, zv, zx, zy, zL, zM, zk, zl, zm, zn, zo, zq, zr, zs, zt, zA, zC, zD, zE, zF, zG, zH, zI, zJ, zK]
  rw [pointer_IsNull_eq]
  dsimp only [za, zb, zc, zN, ze, zf, zg, zh, zi, zj, zu, zv, zx, zy, zL, zM, zk, zl, zm, zn, zo, zq, zr, zs, zt, zA, zC, zD, zE, zF, zG, zH, zI, zJ, zK]
  by_cases hz : w = 0
  case pos =>
    rw [if_pos hz, beq_iff_eq.2 hz]
    rfl
  have hd := dec_small hw
  have hk' := hk rfl
  have hb' := hb rfl
  rw [← dec_kind hw] at hk'
  rw [if_neg hz, beq_eq_false_iff_ne.2 hz]
  dsimp only [za, zb, zc, zN, ze, zf, zg, zh, zi, zj, zu, zv, zx, zy, zL, zM, zk, zl, zm, zn, zo, zq, zr, zs, zt, zA, zC, zD, zE, zF, zG, zH, zI, zJ, zK]
  rw [V_Decode hw]
  generalize decI w = p at hd hk'
  have h1 := V_structure hl p s' (b + p.2.1) (by omega)
  have h2 := V_list hl hs p s' (b + p.2.1) (by omega) (by omega)
  have h3 := V_other (l := l) p s' (b + p.2.1)
  have hwp := w64 (x := b + p.2.1) (by omega)
  unfold objP
  rw [ptc] at h1 h2 h3 ⊢
  dsimp only [za, zb, zc, zN, ze, zf, zg, zh, zi, zj, zu, zv, zx, zy, zL, zM, zk, zl, zm, zn, zo, zq, zr, zs, zt, zA, zC, zD, zE, zF, zG, zH, zI, zJ, zK]
  have h4 : p.1 = 0 ∨ p.1 = 1 ∨ p.1 = 3 := by omega
  rcases h4 with h | h | h
  · rw [h] at h1 ⊢
    rw [show (decide ((0 : Int) ≤ 0) && decide ((0 : Int) < 4)) = true from rfl, show ((0 : Int) == 0) = true from rfl]
    dsimp only [za, zb, zc, zN, ze, zf, zg, zh, zi, zj, zu, zv, zx, zy, zL, zM, zk, zl, zm, zn, zo, zq, zr, zs, zt, zA, zC, zD, zE, zF, zG, zH, zI, zJ, zK]
    rw [hwp, h1, if_pos rfl]
    rfl
  · rw [h] at h2 ⊢
    rw [show (decide ((0 : Int) ≤ 1) && decide ((1 : Int) < 4)) = true from rfl, show ((0 : Int) == 1) = false from rfl, show ((1 : Int) == 1) = true from rfl]
    dsimp only [za, zb, zc, zN, ze, zf, zg, zh, zi, zj, zu, zv, zx, zy, zL, zM, zk, zl, zm, zn, zo, zq, zr, zs, zt, zA, zC, zD, zE, zF, zG, zH, zI, zJ, zK]
    rw [hwp, h2, if_neg (by decide), if_pos rfl]
    rfl
  · have h3' := h3 h
    rw [h] at h3' ⊢
    rw [show (decide ((0 : Int) ≤ 3) && decide ((3 : Int) < 4)) = true from rfl, show ((0 : Int) == 3) = false from rfl, show ((1 : Int) == 3) = false from rfl, show ((2 : Int) == 3) = false from rfl, show ((3 : Int) == 3) = true from rfl]
    dsimp only [za, zb, zc, zN, ze, zf, zg, zh, zi, zj, zu, zv, zx, zy, zL, zM, zk, zl, zm, zn, zo, zq, zr, zs, zt, zA, zC, zD, zE, zF, zG, zH, zI, zJ, zK]
    rw [hwp, h3', if_neg (show ¬ (3 : Int) = 0 by decide), if_neg (show ¬ (3 : Int) = 1 by decide)]
    split <;> rfl
theorem V_rObject {l : List (List Int)} (hl : Segs l) (hs : Sm l) (s a : Int) : ev 57 [.pv (.sl 1 (sgs l)), .pv (I s), .pv (I a)] [] = ok (.tup (obR (obj l s a))) := by
  rw [capnpref08_Object_eq, V_rFollow hl]
  unfold obj
  have hb := fol_base hl hs s a
  have hw := fol_word hl s a
  have hk := fol_kind hl s a
  generalize fol l s a = t at hb hw hk
  obtain ⟨w, s', b, e⟩ := t
  dsimp only at hb hw hk
  dsimp only [folc, za, zb, zc, zN, ze, zf, zg, zh, zi, zj, zu, zv, zx, zy, zL, zM, zk, zl, zm, zn, zo, zq, zr, zs, zt, zA, zC, zD, zE, zF, zG, zH, zI, zJ, zK]
  by_cases he : e = 0
  case neg =>
    rw [if_neg he, bne_iff_ne.2 he]
    rfl
  subst he
  rw [if_pos rfl, show ((0 : Int) != 0) = false from rfl]
  dsimp only [za, zb, zc, zN, ze, zf, zg, zh, zi, zj, zu, zv, zx, zy, zL, zM, zk, zl, zm, zn, zo, zq, zr, zs, zt, zA, zC, zD, zE, zF, zG, zH, zI, zJ, zK]
  by_cases hz : w = 0
  case pos =>
    rw [if_pos hz, beq_iff_eq.2 hz]
    rfl
  have hd := dec_small hw
  have hk' := hk rfl
  have hb' := hb rfl
  rw [← dec_kind hw] at hk'
  rw [if_neg hz, beq_eq_false_iff_ne.2 hz]
  dsimp only [za, zb, zc, zN, ze, zf, zg, zh, zi, zj, zu, zv, zx, zy, zL, zM, zk, zl, zm, zn, zo, zq, zr, zs, zt, zA, zC, zD, zE, zF, zG, zH, zI, zJ, zK]
  rw [V_rDecode hw]
  generalize decI w = p at hd hk'
  obtain ⟨k, of_, d, q, e, c, db, pd, sg, lo⟩ := p
  dsimp only at hd hk'
  have hwp := w64 (x := b + of_) (by omega)
  unfold objP
  dsimp only [ptc, za, zb, zc, zN, ze, zf, zg, zh, zi, zj, zu, zv, zx, zy, zL, zM, zk, zl, zm, zn, zo, zq, zr, zs, zt, zA, zC, zD, zE, zF, zG, zH, zI, zJ, zK]
  have h4 : k = 0 ∨ k = 1 ∨ k = 3 := by omega
  rcases h4 with rfl | rfl | rfl
  · rw [show ((0 : Int) == 3) = false from rfl, show ((0 : Int) == 0) = true from rfl]
    dsimp only [za, zb, zc, zN, ze, zf, zg, zh, zi, zj, zu, zv, zx, zy, zL, zM, zk, zl, zm, zn, zo, zq, zr, zs, zt, zA, zC, zD, zE, zF, zG, zH, zI, zJ, zK]
    rw [hwp, w64 (x := d + q) (by omega), V_rInBounds hl, if_pos rfl]
    unfold objS
    by_cases hb1 : inB l s' (b + of_) (d + q)
    · rw [decide_eq_true hb1, if_pos hb1]; rfl
    · rw [decide_eq_false hb1, if_neg hb1]; rfl
  · rw [show ((1 : Int) == 3) = false from rfl, show ((1 : Int) == 0) = false from rfl]
    dsimp only [za, zb, zc, zN, ze, zf, zg, zh, zi, zj, zu, zv, zx, zy, zL, zM, zk, zl, zm, zn, zo, zq, zr, zs, zt, zA, zC, zD, zE, zF, zG, zH, zI, zJ, zK]
    rw [V_rWords (e := e) (c := c) (by omega), if_neg (by decide), if_pos rfl]
    dsimp only [za, zb, zc, zN, ze, zf, zg, zh, zi, zj, zu, zv, zx, zy, zL, zM, zk, zl, zm, zn, zo, zq, zr, zs, zt, zA, zC, zD, zE, zF, zG, zH, zI, zJ, zK]
    rw [hwp, V_rInBounds hl]
    dsimp only [za, zb, zc, zN, ze, zf, zg, zh, zi, zj, zu, zv, zx, zy, zL, zM, zk, zl, zm, zn, zo, zq, zr, zs, zt, zA, zC, zD, zE, zF, zG, zH, zI, zJ, zK]
    unfold objL
    have hwr := wordsOf_range (e := e) (c := c) (by omega)
    by_cases h7 : e = 7
    case neg =>
      rw [if_neg h7]
      by_cases hb1 : inB l s' (b + of_) (wordsOf e c)
      · rw [decide_eq_true hb1, if_pos hb1, bne_iff_ne.2 h7]; rfl
      · rw [decide_eq_false hb1, if_neg hb1]; rfl
    subst h7
    have hwo : wordsOf 7 c = c + 1 := by simp [wordsOf]
    rw [hwo, if_pos rfl]
    unfold objC
    by_cases hb1 : inB l s' (b + of_) (c + 1)
    case neg => rw [decide_eq_false hb1, if_neg hb1]; rfl
    have hst : 0 ≤ b + of_ ∧ b + of_ ≤ 1099511627776 := by have := hs s'; unfold inB at hb1; omega
    have hww : ev 82 [.pv (.sl 1 (sgs l)), .pv (I s'), .pv (I (b + of_))] [] = ok (.tup [U (wd l s' (b + of_)), Bo true]) := by
      rw [V_rWord hl, wordR, if_pos (inB_one hb1 (by omega))]
      rfl
    have h0 := wd_word hl s' (b + of_)
    have hd2 := dec_small h0
    rw [decide_eq_true hb1, if_pos hb1, show ((7 : Int) != 7) = false from rfl]
    dsimp only [za, zb, zc, zN, ze, zf, zg, zh, zi, zj, zu, zv, zx, zy, zL, zM, zk, zl, zm, zn, zo, zq, zr, zs, zt, zA, zC, zD, zE, zF, zG, zH, zI, zJ, zK]
    rw [hww]
    dsimp only [za, zb, zc, zN, ze, zf, zg, zh, zi, zj, zu, zv, zx, zy, zL, zM, zk, zl, zm, zn, zo, zq, zr, zs, zt, zA, zC, zD, zE, zF, zG, zH, zI, zJ, zK]
    rw [V_rDecode h0]
    generalize decI (wd l s' (b + of_)) = y at hd2
    obtain ⟨k, o, d2, m, e2, c', b2, pd2, sg2, lo2⟩ := y
    dsimp only at hd2
    dsimp only [ptc, za, zb, zc, zN, ze, zf, zg, zh, zi, zj, zu, zv, zx, zy, zL, zM, zk, zl, zm, zn, zo, zq, zr, zs, zt, zA, zC, zD, zE, zF, zG, zH, zI, zJ, zK]
    by_cases hk : k = 0
    case neg => rw [bne_iff_ne.2 hk, if_neg (fun h => hk h.1)]; rfl
    subst hk
    rw [show ((0 : Int) != 0) = false from rfl]
    dsimp only [za, zb, zc, zN, ze, zf, zg, zh, zi, zj, zu, zv, zx, zy, zL, zM, zk, zl, zm, zn, zo, zq, zr, zs, zt, zA, zC, zD, zE, zF, zG, zH, zI, zJ, zK]
    by_cases ho : o < 0
    case pos => rw [decide_eq_true ho, if_neg (fun h => by omega)]; rfl
    rw [decide_eq_false ho]
    dsimp only [za, zb, zc, zN, ze, zf, zg, zh, zi, zj, zu, zv, zx, zy, zL, zM, zk, zl, zm, zn, zo, zq, zr, zs, zt, zA, zC, zD, zE, zF, zG, zH, zI, zJ, zK]
    have hm := size_small (o := o) (n := d2 + m) (by omega) (by omega)
    rw [w64 (x := d2 + m) (by omega), w64 (x := o * (d2 + m)) (by omega), w64 (x := b + of_ + 1) (by omega), w64 (x := c + 1 + o) (by omega)]
    by_cases hg : o * (d2 + m) ≤ c
    case neg => rw [decide_eq_true (show o * (d2 + m) > c by omega), if_neg (fun h => hg h.2.2)]; rfl
    rw [decide_eq_false (show ¬ o * (d2 + m) > c by omega), if_pos ⟨rfl, by omega, hg⟩]
    dsimp only [za, zb, zc, zN, ze, zf, zg, zh, zi, zj, zu, zv, zx, zy, zL, zM, zk, zl, zm, zn, zo, zq, zr, zs, zt, zA, zC, zD, zE, zF, zG, zH, zI, zJ, zK]
    by_cases hz2 : d2 + m = 0
    · rw [beq_iff_eq.2 hz2, if_pos hz2]; rfl
    · rw [beq_eq_false_iff_ne.2 hz2, if_neg hz2, Int.add_zero]; rfl
  · rw [show ((3 : Int) == 3) = true from rfl, if_neg (show ¬ (3 : Int) = 0 by decide), if_neg (show ¬ (3 : Int) = 1 by decide)]
    dsimp only [za, zb, zc, zN, ze, zf, zg, zh, zi, zj, zu, zv, zx, zy, zL, zM, zk, zl, zm, zn, zo, zq, zr, zs, zt, zA, zC, zD, zE, zF, zG, zH, zI, zJ, zK]
    by_cases hlo : lo = 0
    · rw [beq_iff_eq.2 hlo, if_pos hlo]; rfl
    · rw [beq_eq_false_iff_ne.2 hlo, if_neg hlo]; rfl
end Go.Proofs.YtfljialckkgacaaGreatDoor.E
set_option linter.unusedVariables false
set_option linter.unusedSimpArgs false
namespace Go.Proofs.YtfljialckkgacaaGreatDoor.E
/-! Words as bytes; the bytes of lists; budgets. -/
theorem roomy_ok {n b : Nat} (h : n * b ≤ 140737488355328) (h1 : n ≤ 140737488355328) : roomy n b = true := by simp [roomy, h, h1]
def w8 (w : Int) : List Int := (List.range 8).map fun k => w / 256 ^ k % 256
def byt (l : List Int) : List Int := l.flatMap w8
theorem w8_len (w : Int) : (w8 w).length = 8 := by simp [w8]
theorem byt_len (l : List Int) : (byt l).length = 8 * l.length := by
  induction l with
  | nil => rfl
  | cons w l ih => simp only [byt, List.flatMap_cons, List.length_append, w8_len, List.length_cons] at ih ⊢; omega
theorem byt_byte (l : List Int) : ∀ b ∈ byt l, Byte b := by
  intro b hb
  obtain ⟨w, _, hw⟩ := List.mem_flatMap.1 hb
  obtain ⟨k, _, rfl⟩ := List.mem_map.1 hw
  exact ⟨by omega, by omega⟩
theorem w8_take {w : Int} {k : Nat} (h : k < 8) : (w8 w).take (k + 1) = (w8 w).take k ++ [w / 256 ^ k % 256] := by
  rw [List.take_succ_eq_append_getElem (by simp [w8_len, h])]
  simp [w8]
theorem bs_app (a b : List Int) : bs (a ++ b) = bs a ++ bs b := by simp [bs]
theorem p256 (w : Int) (k : Nat) (hk : k < 8) : Int.fdiv w (2 ^ (min ((8 * k : Nat) : Int).toNat 64)) = w / 256 ^ k := by
  rw [Int.toNat_natCast, Nat.min_eq_left (by omega), Int.fdiv_eq_ediv_of_nonneg _ (Int.le_of_lt (Int.pow_pos (by decide))), Int.pow_mul]
  rfl
theorem wbytes_in {l : List Int} (w : Int) (n i : Int) (hi : 0 ≤ i ∧ i ≤ 9000000000000000000) (acc : List Int) (ha : acc.length + 8 ≤ 140737488355328) : ∀ (d k : Nat), k + d = 8 → word_Bytes_L2 (bs (acc ++ (w8 w).take k)) (U w) (ws l) n i k = word_Bytes_L0 (bs (acc ++ w8 w)) (ws l) n (i + 1) := by
  intro d
  induction d with
  | zero =>
    intro k hk
    obtain rfl : k = 8 := by omega
    rw [word_Bytes_L2_eq, List.take_of_length_le (by simp [w8_len])]
    rw [show decide (((8 : Nat) : Int) < 8) = false from rfl, w64 (x := i + 1) (by omega)]
    rfl
  | succ d ih =>
    intro k hk
    rw [word_Bytes_L2_eq, decide_eq_true (show (k : Int) < 8 by omega)]
    dsimp only [za, zb, zc, zN, ze, zf, zg, zh, zi, zj, zu, zv, zx, zy, zL, zM, zk, zl, zm, zn, zo, zq, zr, zs, zt, zA, zC, zD, zE, zF, zG, zH, zI, zJ, zK]
    have e : IntKind.wrap .u64 (IntKind.wrap .i64 (8 * (k : Int))) = ((8 * k : Nat) : Int) := by rw [w64 (by omega), wu64 (by omega)]; push_cast; rfl
    have hr : roomy ((bs (acc ++ (w8 w).take k)).length + 1) 1 = true := roomy_ok (by simp [w8_len]; omega) (by simp [w8_len]; omega)
    rw [e, p256 w k (by omega), wu8_any, hr, w64 (x := (k : Int) + 1) (by omega)]
    have := ih (k + 1) (by omega)
    rw [w8_take (by omega), ← List.append_assoc, bs_app] at this
    simp only [okBin, Int.natCast_nonneg, decide_true, cond_true]
    exact this
theorem wbytes_loop (l : List Int) (hl : l.length ≤ 17592186044416) : ∀ (d i : Nat), i + d = l.length → word_Bytes_L0 (bs (byt (l.take i))) (ws l) l.length i = ok (.sl 1 (bs (byt l))) := by
  intro d
  induction d with
  | zero =>
    intro i hi
    obtain rfl : i = l.length := by omega
    rw [word_Bytes_L0_eq, decide_eq_false (by omega), List.take_length]
    rfl
  | succ d ih =>
    intro i hi
    have hil : i < l.length := by omega
    rw [word_Bytes_L0_eq, decide_eq_true (by omega)]
    have hg : (ws l)[(i : Int).toNat]? = some (U l[i]) := by rw [Int.toNat_natCast, ws_get hil]
    rw [hg]
    have := ih (i + 1) (by omega)
    have h2 := wbytes_in (l := l) l[i] l.length i (by omega) (byt (l.take i)) (by rw [byt_len]; simp; omega) 8 0 rfl
    rw [List.take_zero, List.append_nil] at h2
    have e : byt (l.take i) ++ w8 l[i] = byt (l.take (i + 1)) := by rw [List.take_succ_eq_append_getElem hil]; simp only [byt, List.flatMap_append, List.flatMap_cons, List.flatMap_nil, List.append_nil]
    rw [e] at h2
    simp only [ws_len, Int.natCast_nonneg, decide_true, Bool.true_and, decide_eq_true (show (i : Int) < l.length by omega), cond_true, zN, zk, zL]
    exact h2.trans this
theorem V_Bytes (l : List Int) (hl : l.length ≤ 17592186044416) : ev 71 [.pv (.sl 1 (ws l))] [] = ok (.sl 1 (bs (byt l))) := by
  rw [word_Bytes_eq, ws_len, w64 (x := 8 * (l.length : Int)) (by omega), roomy_ok (by omega) (by omega)]
  simp only [decide_eq_true (show (0 : Int) ≤ 8 * (l.length : Int) by omega), decide_eq_true (show 8 * (l.length : Int) ≤ 140737488355328 by omega), Bool.and_self, cond_true]
  exact wbytes_loop l hl l.length 0 (by omega)
theorem rbytes_in {l : List Int} {w : Int} (hw : Word w) (i : Int) (hi : 0 ≤ i ∧ i ≤ 9000000000000000000) (acc : List Int) (ha : acc.length + 8 ≤ 140737488355328) : ∀ (d k : Nat), k + d = 8 → capnpref01_Bytes_L2 (ws l) (bs (acc ++ (w8 w).take k)) i (U (w / 256 ^ k)) k = capnpref01_Bytes_L0 (ws l) (bs (acc ++ w8 w)) (i + 1) := by
  intro d
  induction d with
  | zero =>
    intro k hk
    obtain rfl : k = 8 := by omega
    rw [capnpref01_Bytes_L2_eq, List.take_of_length_le (by simp [w8_len])]
    rw [show decide (((8 : Nat) : Int) < 8) = false from rfl, w64 (x := i + 1) (by omega)]
    rfl
  | succ d ih =>
    intro k hk
    obtain ⟨g1, g2⟩ := hw
    have hp : (0 : Int) < 256 ^ k := Int.pow_pos (by decide)
    have h0 : 0 ≤ w / 256 ^ k := Int.ediv_nonneg g1 (Int.le_of_lt hp)
    have h1 : w / 256 ^ k ≤ w := Int.ediv_le_self _ g1
    rw [capnpref01_Bytes_L2_eq, decide_eq_true (show (k : Int) < 8 by omega)]
    dsimp only [za, zb, zc, zN, ze, zf, zg, zh, zi, zj, zu, zv, zx, zy, zL, zM, zk, zl, zm, zn, zo, zq, zr, zs, zt, zA, zC, zD, zE, zF, zG, zH, zI, zJ, zK]
    have hr : roomy ((bs (acc ++ (w8 w).take k)).length + 1) 1 = true := roomy_ok (by simp [w8_len]; omega) (by simp [w8_len]; omega)
    rw [Int.tmod_eq_emod_of_nonneg h0, Int.tdiv_eq_ediv_of_nonneg h0, wu8_any, hr, wu64 (x := w / 256 ^ k / 256) (by omega), w64 (x := (k : Int) + 1) (by omega)]
    have := ih (k + 1) (by omega)
    rw [w8_take (by omega), ← List.append_assoc, bs_app, Int.pow_succ, ← Int.ediv_ediv_of_nonneg (Int.le_of_lt hp)] at this
    rw [show w / 256 ^ k % 256 % 256 = w / 256 ^ k % 256 by omega]
    exact this
theorem rbytes_loop (l : List Int) (hw : Words l) (hl : l.length ≤ 17592186044416) : ∀ (d i : Nat), i + d = l.length → capnpref01_Bytes_L0 (ws l) (bs (byt (l.take i))) i = ok (.sl 1 (bs (byt l))) := by
  intro d
  induction d with
  | zero =>
    intro i hi
    obtain rfl : i = l.length := by omega
    rw [capnpref01_Bytes_L0_eq, decide_eq_false (by simp), List.take_length]
    rfl
  | succ d ih =>
    intro i hi
    have hil : i < l.length := by omega
    rw [capnpref01_Bytes_L0_eq, decide_eq_true (by simp; omega)]
    have hg : (ws l)[(i : Int).toNat]? = some (U l[i]) := by rw [Int.toNat_natCast, ws_get hil]
    rw [hg]
    have := ih (i + 1) (by omega)
    have h2 := rbytes_in (l := l) (hw.2 _ (List.getElem_mem hil)) i (by omega) (byt (l.take i)) (by rw [byt_len]; simp; omega) 8 0 rfl
    rw [List.take_zero, List.append_nil, Int.pow_zero, Int.ediv_one] at h2
    have e : byt (l.take i) ++ w8 l[i] = byt (l.take (i + 1)) := by rw [List.take_succ_eq_append_getElem hil]; simp only [byt, List.flatMap_append, List.flatMap_cons, List.flatMap_nil, List.append_nil]
    rw [e] at h2
    simp only [Int.natCast_nonneg, decide_true, Bool.true_and, cond_true, zN, zk, zL]
    exact h2.trans this
theorem V_rBytes (l : List Int) (hw : Words l) (hl : l.length ≤ 17592186044416) : ev 30 [.pv (.sl 1 (ws l))] [] = ok (.sl 1 (bs (byt l))) := by
  rw [capnpref01_Bytes_eq]
  exact rbytes_loop l hw hl l.length 0 (by omega)
/-- Bytes of a list. -/
def bytesN (e c : Int) : Int := (bitsOf e * c + 7) / 8
theorem bytesN_range {e c : Int} (hc : 0 ≤ c ∧ c ≤ 536870911) : 0 ≤ bytesN e c ∧ bytesN e c ≤ 4294967296 := by
  have h := bits_mul (e := e) hc
  unfold bytesN
  omega
theorem V_BytesN {e c : Int} (he : 0 ≤ e ∧ e ≤ 7) (hc : 0 ≤ c ∧ c ≤ 536870911) : ev 147 [.pv (I e), .pv (I c)] [] = ok (I (bytesN e c)) := by
  have h := bits_mul (e := e) hc
  rw [listsize_Bytes_eq]
  have hb := bits_tab he
  simp only [I] at hb
  rw [show (0 + e.toNat * 1) = e.toNat by omega, hb, decide_eq_true he.1, decide_eq_true (show e < 8 by omega)]
  dsimp only [za, zb, zc, zN, ze, zf, zg, zh, zi, zj, zu, zv, zx, zy, zL, zM, zk, zl, zm, zn, zo, zq, zr, zs, zt, zA, zC, zD, zE, zF, zG, zH, zI, zJ, zK]
  rw [listsize_up_eq, w64 (x := bitsOf e * c) (by omega), w64 (x := bitsOf e * c + 8) (by omega), w64 (x := bitsOf e * c + 8 - 1) (by omega), Int.tdiv_eq_ediv_of_nonneg (by omega), w64 (by omega), show bitsOf e * c + 8 - 1 = bitsOf e * c + 7 by omega]
  rfl
theorem V_rBytesN {e c : Int} (hc : 0 ≤ c ∧ c ≤ 536870911) : ev 68 [.pv (I e), .pv (I c)] [] = ok (I (bytesN e c)) := by
  have h := bits_mul (e := e) hc
  rw [capnpref06_Bytes_eq, V_rBits]
  dsimp only [za, zb, zc, zN, ze, zf, zg, zh, zi, zj, zu, zv, zx, zy, zL, zM, zk, zl, zm, zn, zo, zq, zr, zs, zt, zA, zC, zD, zE, zF, zG, zH, zI, zJ, zK]
  rw [w64 (x := bitsOf e * c) (by omega), Int.tdiv_eq_ediv_of_nonneg (by omega), w64 (x := bitsOf e * c / 8) (by omega), w64 (x := bitsOf e * c / 8 * 8) (by omega), w64 (x := bitsOf e * c / 8 + 1) (by omega), cond_dec]
  unfold bytesN
  split
  · rw [show bitsOf e * c / 8 + 1 = (bitsOf e * c + 7) / 8 by omega]
  · rw [show bitsOf e * c / 8 = (bitsOf e * c + 7) / 8 by omega]
/-- The bytes of a list's elements: of bits, the last is cut. -/
def trimB (e c : Int) (b : List Int) : List Int :=
  if e = 1 ∧ 0 < c % 8 then b.take (bytesN e c - 1).toNat ++ [rd b (bytesN e c - 1) % 2 ^ (c % 8).toNat] else b.take (bytesN e c).toNat
theorem and8 {a : Int} (h : Byte a) {r : Nat} (hr : r ≤ 7) : IntKind.wrap .u8 (((BitVec.ofInt 8 a &&& BitVec.ofInt 8 ((2 ^ r - 1 : Nat) : Int)).toNat : Nat) : Int) = a % 2 ^ r := by
  obtain ⟨n, rfl⟩ := Int.eq_ofNat_of_zero_le h.1
  have hn : n < 256 := by have := h.2; omega
  have e1 : ∀ m : Nat, m < 256 → (BitVec.ofInt 8 (m : Int)).toNat = m := fun m hm => by simp; omega
  have hp : 2 ^ r ≤ 2 ^ 7 := Nat.pow_le_pow_right (by decide) hr
  rw [BitVec.toNat_and, e1 n hn, e1 _ (by omega), Nat.and_two_pow_sub_one_eq_mod, wu8_any]
  have : n % 2 ^ r ≤ n := Nat.mod_le _ _
  rw [Int.emod_eq_of_lt (Int.natCast_nonneg _) (by omega)]
  push_cast
  rfl
theorem V_Trim {e c : Int} {b : List Int} (he : 0 ≤ e ∧ e ≤ 7) (hc : 0 ≤ c ∧ c ≤ 536870911) (hb : ∀ x ∈ b, Byte x) (hn : bytesN e c ≤ b.length) : ev 134 [.pv (I e), .pv (I c), .pv (.sl 1 (bs b))] [] = ok (.sl 1 (bs (trimB e c b))) := by
  have hr := bytesN_range (e := e) hc
  rw [listsize_Trim_eq, V_BytesN he hc]
  dsimp only [za, zb, zc, zN, ze, zf, zg, zh, zi, zj, zu, zv, zx, zy, zL, zM, zk, zl, zm, zn, zo, zq, zr, zs, zt, zA, zC, zD, zE, zF, zG, zH, zI, zJ, zK]
  rw [decide_eq_true hr.1, decide_eq_true (show bytesN e c ≤ ((bs b).length : Int) by simpa using hn)]
  dsimp only [za, zb, zc, zN, ze, zf, zg, zh, zi, zj, zu, zv, zx, zy, zL, zM, zk, zl, zm, zn, zo, zq, zr, zs, zt, zA, zC, zD, zE, zF, zG, zH, zI, zJ, zK]
  have et : List.drop 0 (List.take (bytesN e c).toNat (bs b)) = bs (b.take (bytesN e c).toNat) := by simp [bs]
  rw [et, slices_Clone_byte_byte_eq, roomy_ok (by simp; omega) (by simp; omega)]
  dsimp only [za, zb, zc, zN, ze, zf, zg, zh, zi, zj, zu, zv, zx, zy, zL, zM, zk, zl, zm, zn, zo, zq, zr, zs, zt, zA, zC, zD, zE, zF, zG, zH, zI, zJ, zK]
  rw [show pSlu 5 1 (.slu 5 1 (bs (b.take (bytesN e c).toNat))) = some (bs (b.take (bytesN e c).toNat)) from pSlu_v _ _ _]
  dsimp only [za, zb, zc, zN, ze, zf, zg, zh, zi, zj, zu, zv, zx, zy, zL, zM, zk, zl, zm, zn, zo, zq, zr, zs, zt, zA, zC, zD, zE, zF, zG, zH, zI, zJ, zK]
  unfold trimB
  by_cases h1 : e = 1
  case neg => rw [beq_eq_false_iff_ne.2 h1, if_neg (fun h => h1 h.1)]; rfl
  subst h1
  rw [show ((1 : Int) == 1) = true from rfl, Int.tmod_eq_emod_of_nonneg hc.1]
  dsimp only [za, zb, zc, zN, ze, zf, zg, zh, zi, zj, zu, zv, zx, zy, zL, zM, zk, zl, zm, zn, zo, zq, zr, zs, zt, zA, zC, zD, zE, zF, zG, zH, zI, zJ, zK]
  by_cases h8 : 0 < c % 8
  case neg => rw [decide_eq_false (show ¬ c % 8 > 0 by omega), if_neg (fun h => h8 h.2)]; rfl
  rw [decide_eq_true (show c % 8 > 0 by omega), if_pos ⟨rfl, h8⟩]
  have hpos : 1 ≤ bytesN 1 c := by unfold bytesN bitsOf; simp; omega
  have hlen : ((bs (b.take (bytesN 1 c).toNat)).length : Int) = bytesN 1 c := by simp; omega
  rw [hlen, w64 (x := bytesN 1 c - 1) (by omega), decide_eq_true (show 0 ≤ bytesN 1 c - 1 by omega), decide_eq_true (show bytesN 1 c - 1 < bytesN 1 c by omega)]
  have hg : (bs (b.take (bytesN 1 c).toNat))[(bytesN 1 c - 1).toNat]? = some (U8 (rd b (bytesN 1 c - 1))) := by
    rw [bs_get (by simp; omega)]
    simp only [rd, List.getD_eq_getElem?_getD, List.getElem_take]
    rw [List.getElem?_eq_getElem (show (bytesN 1 c - 1).toNat < b.length by omega)]
    rfl
  have hby : Byte (rd b (bytesN 1 c - 1)) := by
    unfold rd
    rw [List.getD_eq_getElem?_getD, List.getElem?_eq_getElem (by omega)]
    exact hb _ (List.getElem_mem _)
  dsimp only [za, zb, zc, zN, ze, zf, zg, zh, zi, zj, zu, zv, zx, zy, zL, zM, zk, zl, zm, zn, zo, zq, zr, zs, zt, zA, zC, zD, zE, zF, zG, zH, zI, zJ, zK]
  rw [hg]
  dsimp only [za, zb, zc, zN, ze, zf, zg, zh, zi, zj, zu, zv, zx, zy, zL, zM, zk, zl, zm, zn, zo, zq, zr, zs, zt, zA, zC, zD, zE, zF, zG, zH, zI, zJ, zK]
  have hs : IntKind.wrap .u64 (c % 8) = c % 8 := wu64 (by omega)
  have hk : (c % 8).toNat ≤ 7 := by omega
  have hmask : IntKind.wrap .u8 (IntKind.wrap .u8 (1 * 2 ^ (min (c % 8).toNat 8)) - 1) = ((2 ^ (c % 8).toNat - 1 : Nat) : Int) := by
    generalize (c % 8).toNat = r at hk
    have : r = 0 ∨ r = 1 ∨ r = 2 ∨ r = 3 ∨ r = 4 ∨ r = 5 ∨ r = 6 ∨ r = 7 := by omega
    rcases this with rfl | rfl | rfl | rfl | rfl | rfl | rfl | rfl <;> rfl
  rw [hs, hmask, and8 hby hk, show okBin .shl (c % 8) = true by simp [okBin]; omega]
  have hset : (bs (b.take (bytesN 1 c).toNat)).set (bytesN 1 c - 1).toNat (U8 (rd b (bytesN 1 c - 1) % 2 ^ (c % 8).toNat)) = bs (b.take (bytesN 1 c - 1).toNat ++ [rd b (bytesN 1 c - 1) % 2 ^ (c % 8).toNat]) := by
    have e1 : (bytesN 1 c).toNat = (bytesN 1 c - 1).toNat + 1 := by omega
    rw [e1, List.take_succ_eq_append_getElem (by omega), bs_app, bs_app]
    have hl : (bs (b.take (bytesN 1 c - 1).toNat)).length = (bytesN 1 c - 1).toNat := by simp; omega
    rw [List.set_append_right _ _ (by omega), hl, Nat.sub_self]
    rfl
  have hcell : setCells (U8 (rd b (bytesN 1 c - 1))) 0 [U8 (rd b (bytesN 1 c - 1) % 2 ^ (c % 8).toNat)] = some (U8 (rd b (bytesN 1 c - 1) % 2 ^ (c % 8).toNat)) := rfl
  dsimp only [za, zb, zc, zN, ze, zf, zg, zh, zi, zj, zu, zv, zx, zy, zL, zM, zk, zl, zm, zn, zo, zq, zr, zs, zt, zA, zC, zD, zE, zF, zG, zH, zI, zJ, zK]
  rw [hcell]
  dsimp only [za, zb, zc, zN, ze, zf, zg, zh, zi, zj, zu, zv, zx, zy, zL, zM, zk, zl, zm, zn, zo, zq, zr, zs, zt, zA, zC, zD, zE, zF, zG, zH, zI, zJ, zK]
  rw [hset]
  rfl
theorem rtrim_pow (e c : Int) (l acc : List PV) (i x : Int) (keep : Nat) (hk : keep ≤ 7) (hx : Byte x) (hr : roomy (acc.length + 1) 1 = true) (hi : 0 ≤ i ∧ i ≤ 4294967296) : ∀ (d k : Nat), k + d = keep → capnpref06_Trim_L2 e c l acc i (U8 x) keep ((2 ^ k : Nat) : Int) k = capnpref06_Trim_L0 e c l (acc ++ [U8 (x % 2 ^ keep)]) (i + 1) := by
  intro d
  induction d with
  | zero =>
    intro k hkd
    obtain rfl : k = keep := by omega
    rw [capnpref06_Trim_L2_eq, decide_eq_false (by omega)]
    dsimp only [za, zb, zc, zN, ze, zf, zg, zh, zi, zj, zu, zv, zx, zy, zL, zM, zk, zl, zm, zn, zo, zq, zr, zs, zt, zA, zC, zD, zE, zF, zG, zH, zI, zJ, zK]
    obtain ⟨x1, x2⟩ := hx
    have hp : 0 < 2 ^ k := Nat.pow_pos (by decide)
    rw [hr, show okBin .rem ((2 ^ k : Nat) : Int) = true by simp only [okBin, bne_iff_ne]; omega, w64 (x := x) (by omega), w64 (x := i + 1) (by omega), Int.tmod_eq_emod_of_nonneg x1, wu8_any]
    have h1 : 0 ≤ x % ((2 ^ k : Nat) : Int) := Int.emod_nonneg _ (by omega)
    have h3 : 2 ^ k ≤ 2 ^ 7 := Nat.pow_le_pow_right (by decide) hk
    have h2 : x % ((2 ^ k : Nat) : Int) < ((2 ^ k : Nat) : Int) := Int.emod_lt_of_pos _ (by omega)
    rw [Int.emod_eq_of_lt (b := 256) h1 (by omega)]
    push_cast
    rfl
  | succ d ih =>
    intro k hkd
    rw [capnpref06_Trim_L2_eq, decide_eq_true (by omega)]
    have h2 : 2 ^ (k + 1) ≤ 2 ^ 7 := Nat.pow_le_pow_right (by decide) (by omega)
    have e1 : ((2 ^ k : Nat) : Int) * 2 = ((2 ^ (k + 1) : Nat) : Int) := by rw [Nat.pow_succ]; push_cast; rfl
    rw [e1, w64_nat (n := 2 ^ (k + 1)) (by omega), w64 (x := (k : Int) + 1) (by omega)]
    exact ih (k + 1) (by omega)
theorem rtrim_loop {e c : Int} {b : List Int} (hc : 0 ≤ c ∧ c ≤ 536870911) (hb : ∀ x ∈ b, Byte x) (hn : bytesN e c ≤ b.length) : ∀ (d i : Nat), i + d = (bytesN e c).toNat → (d = 0 → e = 1 ∧ 0 < c % 8 → False) → capnpref06_Trim_L0 e c (bs b) (bs (b.take i)) i = ok (.sl 1 (bs (trimB e c b))) := by
  have hr := bytesN_range (e := e) hc
  intro d
  induction d with
  | zero =>
    intro i hi h0
    rw [capnpref06_Trim_L0_eq, V_rBytesN hc]
    dsimp only [za, zb, zc, zN, ze, zf, zg, zh, zi, zj, zu, zv, zx, zy, zL, zM, zk, zl, zm, zn, zo, zq, zr, zs, zt, zA, zC, zD, zE, zF, zG, zH, zI, zJ, zK]
    rw [decide_eq_false (by omega)]
    unfold trimB
    rw [if_neg (h0 rfl)]
    obtain rfl : i = (bytesN e c).toNat := by omega
    rfl
  | succ d ih =>
    intro i hi h0
    have hil : i < b.length := by omega
    rw [capnpref06_Trim_L0_eq, V_rBytesN hc]
    dsimp only [za, zb, zc, zN, ze, zf, zg, zh, zi, zj, zu, zv, zx, zy, zL, zM, zk, zl, zm, zn, zo, zq, zr, zs, zt, zA, zC, zD, zE, zF, zG, zH, zI, zJ, zK]
    rw [decide_eq_true (by omega), decide_eq_true (by omega), decide_eq_true (show (i : Int) < ((bs b).length : Int) by simp; omega)]
    have hg : (bs b)[(i : Int).toNat]? = some (U8 b[i]) := by rw [Int.toNat_natCast, bs_get hil]
    have hroom : roomy ((bs (b.take i)).length + 1) 1 = true := roomy_ok (by simp; omega) (by simp; omega)
    have hnext : bs (b.take i) ++ [U8 b[i]] = bs (b.take (i + 1)) := by rw [List.take_succ_eq_append_getElem hil, bs_app]; rfl
    dsimp only [za, zb, zc, zN, ze, zf, zg, zh, zi, zj, zu, zv, zx, zy, zL, zM, zk, zl, zm, zn, zo, zq, zr, zs, zt, zA, zC, zD, zE, zF, zG, zH, zI, zJ, zK]
    rw [hg]
    dsimp only [za, zb, zc, zN, ze, zf, zg, zh, zi, zj, zu, zv, zx, zy, zL, zM, zk, zl, zm, zn, zo, zq, zr, zs, zt, zA, zC, zD, zE, zF, zG, zH, zI, zJ, zK]
    rw [hroom, hnext, w64 (x := (i : Int) + 1) (by omega), w64 (x := 8 * (i : Int)) (by omega), w64 (x := 8 * (i : Int) + 8) (by omega), w64 (x := c - 8 * (i : Int)) (by omega)]
    by_cases hlast : e = 1 ∧ 8 * (i : Int) + 8 > c
    · obtain ⟨rfl, hgt⟩ := hlast
      have hbn : bytesN 1 c = (c + 7) / 8 := by unfold bytesN bitsOf; simp
      have hin : (i : Int) = bytesN 1 c - 1 := by omega
      have h8 : 0 < c % 8 := by omega
      have hkeep : c - 8 * (i : Int) = ((c % 8).toNat : Int) := by omega
      rw [show ((1 : Int) == 1) = true from rfl, decide_eq_true hgt]
      dsimp only [za, zb, zc, zN, ze, zf, zg, zh, zi, zj, zu, zv, zx, zy, zL, zM, zk, zl, zm, zn, zo, zq, zr, zs, zt, zA, zC, zD, zE, zF, zG, zH, zI, zJ, zK]
      rw [hkeep]
      have hp := rtrim_pow 1 c (bs b) (bs (b.take i)) i b[i] (c % 8).toNat (by omega) (hb _ (List.getElem_mem hil)) hroom (by omega) (c % 8).toNat 0 (by omega)
      rw [show ((2 ^ 0 : Nat) : Int) = 1 from rfl, show ((0 : Nat) : Int) = 0 from rfl] at hp
      refine hp.trans ?_
      rw [capnpref06_Trim_L0_eq, V_rBytesN hc]
      dsimp only [za, zb, zc, zN, ze, zf, zg, zh, zi, zj, zu, zv, zx, zy, zL, zM, zk, zl, zm, zn, zo, zq, zr, zs, zt, zA, zC, zD, zE, zF, zG, zH, zI, zJ, zK]
      rw [decide_eq_false (by omega)]
      unfold trimB
      rw [if_pos ⟨rfl, h8⟩]
      have hrd : rd b (bytesN 1 c - 1) = b[i] := by rw [← hin, rd_nat hil]
      rw [hrd, show (bytesN 1 c - 1).toNat = i by omega, bs_app]
      rfl
    · have hgo : ok (.sl 1 (bs (trimB e c b))) = capnpref06_Trim_L0 e c (bs b) (bs (b.take (i + 1))) ((i : Int) + 1) := (ih (i + 1) (by omega) (fun hd h1 => hlast ⟨h1.1, by
        obtain ⟨rfl, h8⟩ := h1
        have hbn : bytesN 1 c = (c + 7) / 8 := by unfold bytesN bitsOf; simp
        omega⟩)).symm
      rw [hgo]
      by_cases h1 : e = 1
      · have hle : ¬ 8 * (i : Int) + 8 > c := fun h => hlast ⟨h1, h⟩
        rw [beq_iff_eq.2 h1, decide_eq_false hle]
        rfl
      · rw [beq_eq_false_iff_ne.2 h1]
        rfl
theorem V_rTrim {e c : Int} {b : List Int} (hc : 0 ≤ c ∧ c ≤ 536870911) (hb : ∀ x ∈ b, Byte x) (hn : bytesN e c ≤ b.length) : ev 61 [.pv (I e), .pv (I c), .pv (.sl 1 (bs b))] [] = ok (.sl 1 (bs (trimB e c b))) := by
  rw [capnpref06_Trim_eq]
  have hr := bytesN_range (e := e) hc
  refine rtrim_loop hc hb hn (bytesN e c).toNat 0 (by omega) (fun h0 h1 => ?_)
  obtain ⟨rfl, h8⟩ := h1
  have hbn : bytesN 1 c = (c + 7) / 8 := by unfold bytesN bitsOf; simp
  omega
/-- An element of a composite list. -/
def elt (o : Ob) (i : Int) : Ob := ⟨1, o.seg, o.at_ + i * (o.data + o.ptrs), o.data, o.ptrs, 0, 0, 0⟩
/-- Where an object's pointers begin, and how many there are. -/
def ptsA (o : Ob) : Int := if o.kind = 1 ∧ 0 < o.ptrs then o.at_ + o.data else if o.kind = 2 ∧ o.elem = 6 ∧ 0 < o.n then o.at_ else 0
def ptsN (o : Ob) : Int := if o.kind = 1 ∧ 0 < o.ptrs then o.ptrs else if o.kind = 2 ∧ o.elem = 6 ∧ 0 < o.n then o.n else 0
theorem V_Element (o : Ob) (i : Int) (h1 : -4611686018427387904 ≤ o.data + o.ptrs ∧ o.data + o.ptrs ≤ 4611686018427387904) (h2 : -4611686018427387904 ≤ i * (o.data + o.ptrs) ∧ i * (o.data + o.ptrs) ≤ 4611686018427387904) (h3 : -4611686018427387904 ≤ o.at_ ∧ o.at_ ≤ 4611686018427387903) : ev 133 [.pv (.agg o.c), .pv (I i)] [] = ok (.agg (elt o i).c) := by
  rw [Ob.c, resolve_Element_eq, w64 (x := o.data + o.ptrs) (by omega), w64 (x := i * (o.data + o.ptrs)) (by omega), w64 (by omega)]
  rfl
theorem V_rElement (o : Ob) (i : Int) (h1 : -4611686018427387904 ≤ o.data + o.ptrs ∧ o.data + o.ptrs ≤ 4611686018427387904) (h2 : -4611686018427387904 ≤ i * (o.data + o.ptrs) ∧ i * (o.data + o.ptrs) ≤ 4611686018427387904) (h3 : -4611686018427387904 ≤ o.at_ ∧ o.at_ ≤ 4611686018427387903) : ev 62 [.pv (.agg o.c), .pv (I i)] [] = ok (.agg (elt o i).c) := by
  rw [Ob.c, capnpref08_Element_eq, w64 (x := o.data + o.ptrs) (by omega), w64 (x := i * (o.data + o.ptrs)) (by omega), w64 (by omega)]
  rfl
theorem V_Pointers (o : Ob) (h1 : -4611686018427387904 ≤ o.at_ + o.data ∧ o.at_ + o.data ≤ 4611686018427387904) : ev 145 [.pv (.agg o.c)] [] = ok (.tup [I (ptsA o), I (ptsN o)]) := by
  rw [Ob.c, resolve_Pointers_eq, w64 (x := o.at_ + o.data) (by omega)]
  unfold ptsA ptsN
  simp only [cond_beq, cond_dec]
  by_cases k1 : o.kind = 1
  · by_cases k2 : 0 < o.ptrs
    · simp [k1, k2]
    · simp [k1, k2]
  · by_cases k3 : o.kind = 2
    · by_cases k4 : o.elem = 6
      · by_cases k5 : 0 < o.n
        · simp [k3, k4, k5]
        · simp [k3, k4, k5]
      · simp [k3, k4]
    · simp [k1, k3]
-- budgets
theorem V_Start (d w o : Int) : ev 91 [.pv (.agg [I d, I w, I o])] [] = ok (.agg [I (max w 0)]) := by
  rw [budget_Start_eq]
  have : (if 0 > w then 0 else w) = max w 0 := by omega
  rw [this]
theorem V_rStart (d w o : Int) : ev 38 [.pv (.agg [I d, I w, I o])] [] = ok (.agg [I (max w 0)]) := by
  rw [capnpref09_Start_eq, cond_dec]
  split
  · rw [show max w 0 = 0 by omega]
  · rw [show max w 0 = w by omega]
theorem V_Enter (d w o x : Int) : ev 108 [.pv (.agg [I d, I w, I o]), .pv (I x)] [] = ok (I (if x > d then 7 else 0)) := by
  rw [budget_Enter_eq, cond_dec]
  split <;> rfl
theorem V_Charge (m c : Int) (hm : -4611686018427387904 ≤ m - c ∧ m - c ≤ 4611686018427387904) : ev 110 [.pv (.agg [I m]), .pv (I c)] [] = ok (.tup [.agg [I (if c > m then m else m - c)], I (if c > m then 8 else 0)]) := by
  rw [budget_Charge_eq, budget_counter_take_eq, w64 (x := m - c) (by omega)]
  by_cases h : c > m
  · rw [decide_eq_true h, if_pos h, if_pos h]; rfl
  · rw [decide_eq_false h, if_neg h, if_neg h]; rfl
theorem V_rCharge (m c : Int) (hm : -4611686018427387904 ≤ m - c ∧ m - c ≤ 4611686018427387904) : ev 58 [.pv (.agg [I m]), .pv (I c)] [] = ok (.tup [.agg [I (if c > m then m else m - c)], I (if c > m then 8 else 0)]) := by
  rw [capnpref09_Charge_eq, w64 (x := m - c) (by omega), cond_dec]
  by_cases h : c > m
  · rw [if_pos h, if_pos h, if_pos h]
  · rw [if_neg h, if_neg h, if_neg h]
end Go.Proofs.YtfljialckkgacaaGreatDoor.E
set_option linter.unusedVariables false
set_option linter.unusedSimpArgs false
namespace Go.Proofs.YtfljialckkgacaaGreatDoor.E
/-! Nodes: their trimmed forms. -/
inductive Nd where
  | mk (kind elem n : Int) (data : List Int) (kids : List Nd)
def Nd.kind : Nd → Int | .mk k _ _ _ _ => k
def Nd.elem : Nd → Int | .mk _ e _ _ _ => e
def Nd.n : Nd → Int | .mk _ _ n _ _ => n
def Nd.data : Nd → List Int | .mk _ _ _ d _ => d
def Nd.kids : Nd → List Nd | .mk _ _ _ _ ks => ks
def nd0 : Nd := .mk 0 0 0 [] []
theorem Nd.ind {P : Nd → Prop} (h : ∀ k e n d ks, (∀ x ∈ ks, P x) → P (.mk k e n d ks)) : ∀ x, P x
  | .mk k e n d ks => h k e n d ks fun x hx => Nd.ind h x
termination_by x => SizeOf.sizeOf x
decreasing_by
  have := List.sizeOf_lt_of_mem hx
  simp
  omega
mutual
def Nd.pv : Nd → PV
  | .mk k e n d ks => .agg [I k, I e, I n, .sl 1 (bs d), .sl 5 (pvs ks)]
def pvs : List Nd → List PV
  | [] => []
  | x :: l => x.pv :: pvs l
end
theorem pvs_eq : ∀ l : List Nd, pvs l = l.map Nd.pv
  | [] => rfl
  | x :: l => by rw [pvs, pvs_eq l]; rfl
def Nd.c (x : Nd) : List PV := [I x.kind, I x.elem, I x.n, .sl 1 (bs x.data), .sl 5 (pvs x.kids)]
theorem Nd.pv_c (x : Nd) : x.pv = .agg x.c := by cases x; rfl
theorem nd_cells (x : Nd) : x.pv.cells = x.c := by rw [Nd.pv_c]; rfl
@[simp] theorem pvs_len (l : List Nd) : (pvs l).length = l.length := by rw [pvs_eq]; simp
theorem pvs_get {l : List Nd} {i : Nat} (h : i < l.length) : (pvs l)[i]? = some l[i].pv := by rw [pvs_eq]; simp [h]
theorem pvs_take (l : List Nd) (n : Nat) : (pvs l).take n = pvs (l.take n) := by rw [pvs_eq, pvs_eq, List.map_take]
theorem pvs_app (a b : List Nd) : pvs (a ++ b) = pvs a ++ pvs b := by rw [pvs_eq, pvs_eq, pvs_eq, List.map_append]
theorem bs_take (l : List Int) (n : Nat) : (bs l).take n = bs (l.take n) := by simp [bs]
/-- What a cell of a node may be. -/
theorem nd_all (x : Nd) : ((decide (x.pv.cells.length = 5) && x.pv.cells.all PV.isCell) && true) = true := by cases x; rfl
mutual
def good : Nd → Prop
  | .mk k e n d ks => (d.length ≤ 17592186044416 ∧ (∀ b ∈ d, Byte b) ∧ ks.length ≤ 1073741824 ∧ (k = 1 → d.length % 8 = 0)) ∧ goods ks
def goods : List Nd → Prop
  | [] => True
  | x :: l => good x ∧ goods l
end
theorem goods_iff : ∀ {l : List Nd}, goods l ↔ ∀ x ∈ l, good x
  | [] => by simp [goods]
  | x :: l => by simp [goods, goods_iff (l := l)]
/-- How much of a list is left without what ends it. -/
def keptN {α : Type} (p : α → Bool) (l : List α) : Nat := (l.reverse.dropWhile p).length
theorem keptN_le {α : Type} (p : α → Bool) (l : List α) : keptN p l ≤ l.length := by
  unfold keptN
  have := (List.dropWhile_sublist p (l := l.reverse)).length_le
  simpa using this
theorem keptN_snoc {α : Type} (p : α → Bool) (l : List α) (x : α) : keptN p (l ++ [x]) = if p x then keptN p l else l.length + 1 := by
  unfold keptN
  rw [List.reverse_append]
  simp only [List.reverse_cons, List.reverse_nil, List.nil_append, List.singleton_append, List.dropWhile_cons]
  split <;> simp
def wordsT (d : List Int) : Nat := (keptN (· == 0) d + 7) / 8
def ptrsT (ks : List Nd) : Nat := keptN (fun x => x.kind == 0) ks
mutual
def trimN : Nd → Nd
  | .mk k e n d ks => if k = 1 then .mk k e n (d.take (8 * wordsT d)) ((trimNs ks).take (ptrsT ks)) else .mk k e n d (trimNs ks)
def trimNs : List Nd → List Nd
  | [] => []
  | x :: l => trimN x :: trimNs l
end
theorem trimNs_eq : ∀ l : List Nd, trimNs l = l.map trimN
  | [] => rfl
  | x :: l => by rw [trimNs, trimNs_eq l]; rfl
theorem take_snoc {α : Type} {l : List α} {i : Nat} (h : i < l.length) : l.take (i + 1) = l.take i ++ [l[i]] := List.take_succ_eq_append_getElem h
-- the program's
theorem kept_bytes {d : List Int} (hd : d.length ≤ 17592186044416) : ∀ i : Nat, i ≤ d.length → trim_kept_byte_L0 (bs d) i = ok (I (keptN (· == 0) (d.take i) : Nat)) := by
  intro i
  induction i with
  | zero =>
    intro _
    rw [trim_kept_byte_L0_eq]
    rfl
  | succ i ih =>
    intro hi
    rw [trim_kept_byte_L0_eq, decide_eq_true (by omega), w64 (x := ((i + 1 : Nat) : Int) - 1) (by omega), show ((i + 1 : Nat) : Int) - 1 = (i : Int) by omega, decide_eq_true (by omega), decide_eq_true (by simp; omega)]
    dsimp only [za, zb, zc, zN, ze, zf, zg, zh, zi, zj, zu, zv, zx, zy, zL, zM, zk, zl, zm, zn, zo, zq, zr, zs, zt, zA, zC, zD, zE, zF, zG, zH, zI, zJ, zK]
    rw [Int.toNat_natCast, bs_get (by omega)]
    dsimp only [za, zb, zc, zN, ze, zf, zg, zh, zi, zj, zu, zv, zx, zy, zL, zM, zk, zl, zm, zn, zo, zq, zr, zs, zt, zA, zC, zD, zE, zF, zG, zH, zI, zJ, zK]
    rw [trim_Words_1_eq, ih (by omega), take_snoc (by omega), keptN_snoc]
    dsimp only [za, zb, zc, zN, ze, zf, zg, zh, zi, zj, zu, zv, zx, zy, zL, zM, zk, zl, zm, zn, zo, zq, zr, zs, zt, zA, zC, zD, zE, zF, zG, zH, zI, zJ, zK]
    by_cases h0 : d[i] = 0
    · rw [beq_iff_eq.2 h0]; rfl
    · rw [beq_eq_false_iff_ne.2 h0]
      simp [show i ≤ d.length by omega]
theorem V_twords {d : List Int} (hd : d.length ≤ 17592186044416) : ev 93 [.pv (.sl 1 (bs d))] [] = ok (I (wordsT d : Nat)) := by
  have hk := keptN_le (· == 0) d
  rw [trim_Words_eq, trim_kept_byte_eq]
  have := kept_bytes hd d.length (by omega)
  rw [List.take_length] at this
  rw [bs_len, this]
  dsimp only [za, zb, zc, zN, ze, zf, zg, zh, zi, zj, zu, zv, zx, zy, zL, zM, zk, zl, zm, zn, zo, zq, zr, zs, zt, zA, zC, zD, zE, zF, zG, zH, zI, zJ, zK]
  rw [w64 (x := (keptN (· == 0) d : Nat) + 8) (by omega), w64 (x := ((keptN (· == 0) d : Nat) : Int) + 8 - 1) (by omega), Int.tdiv_eq_ediv_of_nonneg (by omega), w64 (by omega)]
  have e : (((keptN (· == 0) d : Nat) : Int) + 8 - 1) / 8 = ((wordsT d : Nat) : Int) := by unfold wordsT; omega
  rw [e]
theorem nd_take5 (x : Nd) : PV.agg ((x.pv.cells.drop 0).take 5) = x.pv := by cases x; rfl
theorem nd_five (x : Nd) : decide (5 ≤ x.pv.cells.length) = true := by cases x; rfl
theorem kept_nodes {l : List Nd} (hl : l.length ≤ 1073741824) : ∀ i : Nat, i ≤ l.length → trim_kept_api_Node_L0 (pvs l) i = ok (I (ptrsT (l.take i) : Nat)) := by
  intro i
  induction i with
  | zero =>
    intro _
    rw [trim_kept_api_Node_L0_eq]
    rfl
  | succ i ih =>
    intro hi
    rw [trim_kept_api_Node_L0_eq, decide_eq_true (by omega), w64 (x := ((i + 1 : Nat) : Int) - 1) (by omega), show ((i + 1 : Nat) : Int) - 1 = (i : Int) by omega, decide_eq_true (by omega), decide_eq_true (by simp; omega)]
    dsimp only [za, zb, zc, zN, ze, zf, zg, zh, zi, zj, zu, zv, zx, zy, zL, zM, zk, zl, zm, zn, zo, zq, zr, zs, zt, zA, zC, zD, zE, zF, zG, zH, zI, zJ, zK]
    rw [Int.toNat_natCast, pvs_get (by omega)]
    dsimp only [za, zb, zc, zN, ze, zf, zg, zh, zi, zj, zu, zv, zx, zy, zL, zM, zk, zl, zm, zn, zo, zq, zr, zs, zt, zA, zC, zD, zE, zF, zG, zH, zI, zJ, zK]
    rw [nd_five, nd_take5, Nd.pv_c, Nd.c, trim_Pointers_1_eq, ih (by omega), take_snoc (by omega)]
    unfold ptrsT
    rw [keptN_snoc]
    dsimp only [za, zb, zc, zN, ze, zf, zg, zh, zi, zj, zu, zv, zx, zy, zL, zM, zk, zl, zm, zn, zo, zq, zr, zs, zt, zA, zC, zD, zE, zF, zG, zH, zI, zJ, zK]
    by_cases h0 : l[i].kind = 0
    · rw [beq_iff_eq.2 h0]; rfl
    · rw [beq_eq_false_iff_ne.2 h0]
      simp [show i ≤ l.length by omega]
theorem V_tptrs {l : List Nd} (hl : l.length ≤ 1073741824) : ev 94 [.pv (.sl 5 (pvs l))] [] = ok (I (ptrsT l : Nat)) := by
  rw [trim_Pointers_eq, trim_kept_api_Node_eq]
  have := kept_nodes hl l.length (by omega)
  rw [List.take_length] at this
  rw [pvs_len, this]
  rfl
theorem nd_back (x : Nd) : ∃ c0 c1 c2 c3 c4, x.pv.cells = [c0, c1, c2, c3, c4] ∧ x.pv = .agg [c0, c1, c2, c3, c4] ∧ c0.isCell = true ∧ c1.isCell = true ∧ c2.isCell = true ∧ c3.isCell = true ∧ c4.isCell = true := by
  cases x; exact ⟨_, _, _, _, _, rfl, rfl, rfl, rfl, rfl, rfl, rfl⟩
theorem trim_loop {l : List Nd} (hl : l.length ≤ 1073741824) (hv : ∀ x ∈ l, ev 74 [.pv x.pv] [] = ok (trimN x).pv) (i3 i4 i5 : Int) (xs6 xs7 : List PV) (i8 i9 i10 : Int) (xs11 xs12 : List PV) (k e n : Int) (d : List Int) : ∀ (m i : Nat), i + m = l.length →
    trim_Trim_L0 (pvs l) l.length i i3 i4 i5 xs6 xs7 i8 i9 i10 xs11 xs12 k e n (bs d) (pvs (trimNs (l.take i))) = ok (Nd.mk k e n d (trimNs l)).pv := by
  intro m
  induction m with
  | zero =>
    intro i hi
    obtain rfl : i = l.length := by omega
    rw [trim_Trim_L0_eq, decide_eq_false (by omega), List.take_length]
    rfl
  | succ m ih =>
    intro i hi
    have hil : i < l.length := by omega
    rw [trim_Trim_L0_eq, decide_eq_true (by omega), decide_eq_true (by omega), decide_eq_true (by simp; omega)]
    dsimp only [za, zb, zc, zN, ze, zf, zg, zh, zi, zj, zu, zv, zx, zy, zL, zM, zk, zl, zm, zn, zo, zq, zr, zs, zt, zA, zC, zD, zE, zF, zG, zH, zI, zJ, zK]
    rw [Int.toNat_natCast, pvs_get hil]
    obtain ⟨c0, c1, c2, c3, c4, h1, h2, h3, h4, h5, h6, h7⟩ := nd_back l[i]
    have hvi := hv _ (List.getElem_mem hil)
    rw [h2] at hvi
    dsimp only [za, zb, zc, zN, ze, zf, zg, zh, zi, zj, zu, zv, zx, zy, zL, zM, zk, zl, zm, zn, zo, zq, zr, zs, zt, zA, zC, zD, zE, zF, zG, zH, zI, zJ, zK]
    rw [h1]
    rw [show decide (5 ≤ [c0, c1, c2, c3, c4].length) = true from rfl, show List.take 5 (List.drop 0 [c0, c1, c2, c3, c4]) = [c0, c1, c2, c3, c4] from rfl]
    dsimp only [za, zb, zc, zN, ze, zf, zg, zh, zi, zj, zu, zv, zx, zy, zL, zM, zk, zl, zm, zn, zo, zq, zr, zs, zt, zA, zC, zD, zE, zF, zG, zH, zI, zJ, zK]
    rw [h3, h4, h5, h6, h7]
    dsimp only [za, zb, zc, zN, ze, zf, zg, zh, zi, zj, zu, zv, zx, zy, zL, zM, zk, zl, zm, zn, zo, zq, zr, zs, zt, zA, zC, zD, zE, zF, zG, zH, zI, zJ, zK]
    rw [hvi]
    dsimp only [za, zb, zc, zN, ze, zf, zg, zh, zi, zj, zu, zv, zx, zy, zL, zM, zk, zl, zm, zn, zo, zq, zr, zs, zt, zA, zC, zD, zE, zF, zG, zH, zI, zJ, zK]
    have hroom : roomy ((pvs (trimNs (l.take i))).length + 1) 72 = true := roomy_ok (by rw [pvs_len, trimNs_eq]; simp; omega) (by rw [pvs_len, trimNs_eq]; simp; omega)
    have hnext : pvs (trimNs (l.take i)) ++ [(trimN l[i]).pv] = pvs (trimNs (l.take (i + 1))) := by
      rw [take_snoc hil, trimNs_eq, trimNs_eq, List.map_append, pvs_app]
      rfl
    rw [nd_all, hroom, hnext, w64 (x := (i : Int) + 1) (by omega)]
    exact ih (i + 1) (by omega)
theorem drop0 {α : Type} (l : List α) : l.drop 0 = l := rfl
theorem V_tTrim (x : Nd) : good x → ev 74 [.pv x.pv] [] = ok (trimN x).pv := by
  induction x using Nd.ind with
  | h k e n d ks ih =>
    intro hg
    rw [good, goods_iff] at hg
    obtain ⟨⟨hd, hb, hk, h8⟩, hks⟩ := hg
    have hv : ∀ x ∈ ks, ev 74 [.pv x.pv] [] = ok (trimN x).pv := fun x hx => ih x hx (hks x hx)
    rw [Nd.pv, trim_Trim_eq, trimN]
    by_cases h1 : k = 1
    · subst h1
      have hkw := keptN_le (· == 0) d
      have h88 := h8 rfl
      have hw : 8 * wordsT d ≤ d.length := by unfold wordsT; omega
      have hp : ptrsT ks ≤ ks.length := keptN_le _ _
      rw [show ((1 : Int) == 1) = true from rfl, V_twords hd, V_tptrs hk, if_pos rfl]
      dsimp only [za, zb, zc, zN, ze, zf, zg, zh, zi, zj, zu, zv, zx, zy, zL, zM, zk, zl, zm, zn, zo, zq, zr, zs, zt, zA, zC, zD, zE, zF, zG, zH, zI, zJ, zK]
      rw [w64 (x := 8 * ((wordsT d : Nat) : Int)) (by omega), decide_eq_true (by omega), decide_eq_true (by simp; omega), decide_eq_true (by omega), decide_eq_true (by simp; omega)]
      dsimp only [za, zb, zc, zN, ze, zf, zg, zh, zi, zj, zu, zv, zx, zy, zL, zM, zk, zl, zm, zn, zo, zq, zr, zs, zt, zA, zC, zD, zE, zF, zG, zH, zI, zJ, zK]
      have e1 : (8 * ((wordsT d : Nat) : Int)).toNat = 8 * wordsT d := by omega
      rw [e1, Int.toNat_natCast, drop0, drop0, bs_take, pvs_take, roomy_ok (by simp; omega) (by simp; omega), pvs_len]
      dsimp only [za, zb, zc, zN, ze, zf, zg, zh, zi, zj, zu, zv, zx, zy, zL, zM, zk, zl, zm, zn, zo, zq, zr, zs, zt, zA, zC, zD, zE, zF, zG, zH, zI, zJ, zK]
      have := trim_loop (l := ks.take (ptrsT ks)) (by simp; omega) (fun x hx => hv x (List.mem_of_mem_take hx)) 1 e n (bs d) (pvs ks) 0 0 0 [] [] 1 e n (d.take (8 * wordsT d)) (ks.take (ptrsT ks)).length 0 (by omega)
      refine this.trans ?_
      rw [trimNs_eq, trimNs_eq, List.map_take]
    · rw [beq_eq_false_iff_ne.2 h1, if_neg h1, roomy_ok (by simp; omega) (by simp; omega), pvs_len]
      exact trim_loop hk hv k e n (bs d) (pvs ks) 0 0 0 [] [] k e n d ks.length 0 (by omega)
-- the reference's
theorem rwords_loop {d : List Int} (hd : d.length ≤ 17592186044416) : ∀ (m i : Nat), i + m = d.length → capnpref11_Words_L0 (bs d) (wordsT (d.take i) : Nat) i = ok (I (wordsT d : Nat)) := by
  intro m
  induction m with
  | zero =>
    intro i hi
    obtain rfl : i = d.length := by omega
    rw [capnpref11_Words_L0_eq, decide_eq_false (by simp), List.take_length]
    rfl
  | succ m ih =>
    intro i hi
    have hil : i < d.length := by omega
    rw [capnpref11_Words_L0_eq, decide_eq_true (by simp; omega), decide_eq_true (by omega)]
    dsimp only [za, zb, zc, zN, ze, zf, zg, zh, zi, zj, zu, zv, zx, zy, zL, zM, zk, zl, zm, zn, zo, zq, zr, zs, zt, zA, zC, zD, zE, zF, zG, zH, zI, zJ, zK]
    rw [Int.toNat_natCast, bs_get hil]
    dsimp only [za, zb, zc, zN, ze, zf, zg, zh, zi, zj, zu, zv, zx, zy, zL, zM, zk, zl, zm, zn, zo, zq, zr, zs, zt, zA, zC, zD, zE, zF, zG, zH, zI, zJ, zK]
    have := ih (i + 1) (by omega)
    rw [Int.tdiv_eq_ediv_of_nonneg (by omega), w64 (x := (i : Int) / 8) (by omega), w64 (x := (i : Int) / 8 + 1) (by omega), w64 (x := (i : Int) + 1) (by omega), cond_bne]
    have hs : wordsT (d.take (i + 1)) = if d[i] = 0 then wordsT (d.take i) else i / 8 + 1 := by
      unfold wordsT
      rw [take_snoc hil, keptN_snoc]
      by_cases h0 : d[i] = 0
      · simp [h0]
      · simp [h0, show i ≤ d.length by omega]; omega
    rw [hs] at this
    split
    · rename_i h0
      rw [if_pos h0] at this
      exact this
    · rename_i h0
      rw [if_neg h0] at this
      rw [show (i : Int) / 8 + 1 = ((i / 8 + 1 : Nat) : Int) by push_cast; rfl]
      exact this
theorem V_rwords {d : List Int} (hd : d.length ≤ 17592186044416) : ev 63 [.pv (.sl 1 (bs d))] [] = ok (I (wordsT d : Nat)) := by
  rw [capnpref11_Words_eq]
  have := rwords_loop hd d.length 0 (by omega)
  rw [List.take_zero] at this
  exact this
theorem nd_cell0 (x : Nd) : x.pv.cells[0]? = some (I x.kind) := by cases x; rfl
theorem rptrs_loop {l : List Nd} (hl : l.length ≤ 1073741824) : ∀ (m i : Nat), i + m = l.length → capnpref11_Pointers_L0 (pvs l) (ptrsT (l.take i) : Nat) i = ok (I (ptrsT l : Nat)) := by
  intro m
  induction m with
  | zero =>
    intro i hi
    obtain rfl : i = l.length := by omega
    rw [capnpref11_Pointers_L0_eq, decide_eq_false (by simp), List.take_length]
    rfl
  | succ m ih =>
    intro i hi
    have hil : i < l.length := by omega
    rw [capnpref11_Pointers_L0_eq, decide_eq_true (by simp; omega), decide_eq_true (by omega)]
    dsimp only [za, zb, zc, zN, ze, zf, zg, zh, zi, zj, zu, zv, zx, zy, zL, zM, zk, zl, zm, zn, zo, zq, zr, zs, zt, zA, zC, zD, zE, zF, zG, zH, zI, zJ, zK]
    rw [Int.toNat_natCast, pvs_get hil]
    dsimp only [za, zb, zc, zN, ze, zf, zg, zh, zi, zj, zu, zv, zx, zy, zL, zM, zk, zl, zm, zn, zo, zq, zr, zs, zt, zA, zC, zD, zE, zF, zG, zH, zI, zJ, zK]
    rw [nd_cell0]
    dsimp only [za, zb, zc, zN, ze, zf, zg, zh, zi, zj, zu, zv, zx, zy, zL, zM, zk, zl, zm, zn, zo, zq, zr, zs, zt, zA, zC, zD, zE, zF, zG, zH, zI, zJ, zK]
    have := ih (i + 1) (by omega)
    rw [w64 (x := (i : Int) + 1) (by omega), cond_bne]
    have hs : ptrsT (l.take (i + 1)) = if l[i].kind = 0 then ptrsT (l.take i) else i + 1 := by
      unfold ptrsT
      rw [take_snoc hil, keptN_snoc]
      by_cases h0 : l[i].kind = 0
      · simp [h0]
      · simp [h0, show i ≤ l.length by omega]
    rw [hs] at this
    split
    · rename_i h0
      rw [if_pos h0] at this
      exact this
    · rename_i h0
      rw [if_neg h0] at this
      exact this
theorem V_rptrs {l : List Nd} (hl : l.length ≤ 1073741824) : ev 64 [.pv (.sl 5 (pvs l))] [] = ok (I (ptrsT l : Nat)) := by
  rw [capnpref11_Pointers_eq]
  have := rptrs_loop hl l.length 0 (by omega)
  rw [List.take_zero] at this
  exact this
theorem rtrimk_loop {l : List Nd} (hl : l.length ≤ 1073741824) (q : Nat) (hq : q ≤ l.length) (hv : ∀ x ∈ l, ev 39 [.pv x.pv] [] = ok (trimN x).pv) (i3 i4 i5 : Int) (xs6 : List PV) (i8 i9 i10 : Int) (xs11 xs12 : List PV) (k e n : Int) (d : List Int) : ∀ (m i : Nat), i + m = q →
    capnpref11_Trim_L2 (I q) i i3 i4 i5 xs6 (pvs l) i8 i9 i10 xs11 xs12 k e n (bs d) (pvs (trimNs (l.take i))) = ok (Nd.mk k e n d (trimNs (l.take q))).pv := by
  intro m
  induction m with
  | zero =>
    intro i hi
    obtain rfl : i = q := by omega
    rw [capnpref11_Trim_L2_eq]
    dsimp only [za, zb, zc, zN, ze, zf, zg, zh, zi, zj, zu, zv, zx, zy, zL, zM, zk, zl, zm, zn, zo, zq, zr, zs, zt, zA, zC, zD, zE, zF, zG, zH, zI, zJ, zK]
    rw [decide_eq_false (by omega)]
    rfl
  | succ m ih =>
    intro i hi
    have hil : i < l.length := by omega
    rw [capnpref11_Trim_L2_eq]
    dsimp only [za, zb, zc, zN, ze, zf, zg, zh, zi, zj, zu, zv, zx, zy, zL, zM, zk, zl, zm, zn, zo, zq, zr, zs, zt, zA, zC, zD, zE, zF, zG, zH, zI, zJ, zK]
    rw [decide_eq_true (show (i : Int) < (q : Int) by omega), decide_eq_true (show (0 : Int) ≤ (i : Int) by omega), decide_eq_true (show (i : Int) < ((pvs l).length : Int) by simp; omega)]
    dsimp only [za, zb, zc, zN, ze, zf, zg, zh, zi, zj, zu, zv, zx, zy, zL, zM, zk, zl, zm, zn, zo, zq, zr, zs, zt, zA, zC, zD, zE, zF, zG, zH, zI, zJ, zK]
    rw [Int.toNat_natCast, pvs_get hil]
    dsimp only [za, zb, zc, zN, ze, zf, zg, zh, zi, zj, zu, zv, zx, zy, zL, zM, zk, zl, zm, zn, zo, zq, zr, zs, zt, zA, zC, zD, zE, zF, zG, zH, zI, zJ, zK]
    rw [nd_five, nd_take5, hv _ (List.getElem_mem hil)]
    dsimp only [za, zb, zc, zN, ze, zf, zg, zh, zi, zj, zu, zv, zx, zy, zL, zM, zk, zl, zm, zn, zo, zq, zr, zs, zt, zA, zC, zD, zE, zF, zG, zH, zI, zJ, zK]
    have hroom : roomy ((pvs (trimNs (l.take i))).length + 1) 72 = true := roomy_ok (by rw [pvs_len, trimNs_eq]; simp; omega) (by rw [pvs_len, trimNs_eq]; simp; omega)
    have hnext : pvs (trimNs (l.take i)) ++ [(trimN l[i]).pv] = pvs (trimNs (l.take (i + 1))) := by
      rw [take_snoc hil, trimNs_eq, trimNs_eq, List.map_append, pvs_app]
      rfl
    rw [nd_all, hroom, hnext, w64 (x := (i : Int) + 1) (by omega)]
    exact ih (i + 1) (by omega)
theorem rtrimd_loop {d : List Int} (hd : d.length ≤ 17592186044416) (q : Nat) (hq : q ≤ d.length) (p1 : PV) (i3 i4 i5 : Int) (xs7 : List PV) (i8 i9 i10 : Int) (xs11 xs12 : List PV) (k e n : Int) (ks : List PV) : ∀ (m i : Nat), i + m = q →
    capnpref11_Trim_L0 q p1 i i3 i4 i5 (bs d) xs7 i8 i9 i10 xs11 xs12 k e n (bs (d.take i)) ks = capnpref11_Trim_L2 p1 0 i3 i4 i5 (bs d) xs7 i8 i9 i10 xs11 xs12 k e n (bs (d.take q)) ks := by
  intro m
  induction m with
  | zero =>
    intro i hi
    obtain rfl : i = q := by omega
    rw [capnpref11_Trim_L0_eq, decide_eq_false (by omega)]
    rfl
  | succ m ih =>
    intro i hi
    have hil : i < d.length := by omega
    rw [capnpref11_Trim_L0_eq, decide_eq_true (show (i : Int) < (q : Int) by omega), decide_eq_true (show (0 : Int) ≤ (i : Int) by omega), decide_eq_true (show (i : Int) < ((bs d).length : Int) by simp; omega)]
    dsimp only [za, zb, zc, zN, ze, zf, zg, zh, zi, zj, zu, zv, zx, zy, zL, zM, zk, zl, zm, zn, zo, zq, zr, zs, zt, zA, zC, zD, zE, zF, zG, zH, zI, zJ, zK]
    rw [Int.toNat_natCast, bs_get hil]
    dsimp only [za, zb, zc, zN, ze, zf, zg, zh, zi, zj, zu, zv, zx, zy, zL, zM, zk, zl, zm, zn, zo, zq, zr, zs, zt, zA, zC, zD, zE, zF, zG, zH, zI, zJ, zK]
    have hroom : roomy ((bs (d.take i)).length + 1) 1 = true := roomy_ok (by simp; omega) (by simp; omega)
    have hnext : bs (d.take i) ++ [U8 d[i]] = bs (d.take (i + 1)) := by rw [take_snoc hil, bs_app]; rfl
    rw [hroom, hnext, w64 (x := (i : Int) + 1) (by omega)]
    exact ih (i + 1) (by omega)
theorem V_rTrimN (x : Nd) : good x → ev 39 [.pv x.pv] [] = ok (trimN x).pv := by
  induction x using Nd.ind with
  | h k e n d ks ih =>
    intro hg
    rw [good, goods_iff] at hg
    obtain ⟨⟨hd, hb, hk, h8⟩, hks⟩ := hg
    have hv : ∀ x ∈ ks, ev 39 [.pv x.pv] [] = ok (trimN x).pv := fun x hx => ih x hx (hks x hx)
    rw [Nd.pv, capnpref11_Trim_eq, trimN]
    by_cases h1 : k = 1
    · subst h1
      have hkw := keptN_le (· == 0) d
      have h88 := h8 rfl
      have hw : 8 * wordsT d ≤ d.length := by unfold wordsT; omega
      have hp : ptrsT ks ≤ ks.length := keptN_le _ _
      rw [show ((1 : Int) == 1) = true from rfl, V_rwords hd, V_rptrs hk, if_pos rfl]
      dsimp only [za, zb, zc, zN, ze, zf, zg, zh, zi, zj, zu, zv, zx, zy, zL, zM, zk, zl, zm, zn, zo, zq, zr, zs, zt, zA, zC, zD, zE, zF, zG, zH, zI, zJ, zK]
      rw [w64 (x := 8 * ((wordsT d : Nat) : Int)) (by omega), show 8 * ((wordsT d : Nat) : Int) = ((8 * wordsT d : Nat) : Int) by push_cast; rfl]
      have a1 := rtrimd_loop hd (8 * wordsT d) hw (I (ptrsT ks : Nat)) 1 e n (pvs ks) 0 0 0 [] [] 1 e n [] (8 * wordsT d) 0 (by omega)
      have a2 := rtrimk_loop hk (ptrsT ks) hp hv 1 e n (bs d) 0 0 0 [] [] 1 e n (d.take (8 * wordsT d)) (ptrsT ks) 0 (by omega)
      refine (a1.trans a2).trans ?_
      rw [trimNs_eq, trimNs_eq, List.map_take]
    · rw [beq_eq_false_iff_ne.2 h1, if_neg h1, pvs_len, bs_len]
      have a1 := rtrimd_loop hd d.length (by omega) (I (ks.length : Nat)) k e n (pvs ks) 0 0 0 [] [] k e n [] d.length 0 (by omega)
      have a2 := rtrimk_loop hk ks.length (by omega) hv k e n (bs d) 0 0 0 [] [] k e n d ks.length 0 (by omega)
      rw [List.take_length] at a1 a2
      exact a1.trans a2
end Go.Proofs.YtfljialckkgacaaGreatDoor.E
set_option linter.unusedVariables false
set_option linter.unusedSimpArgs false
namespace Go.Proofs.YtfljialckkgacaaGreatDoor.E
/-! What a traversal computes. -/
def cutB (l : List (List Int)) (s a n : Int) : List Int := if inB l s a n then cut l s a n else []
theorem cutB_words {l : List (List Int)} (h : Segs l) (s a n : Int) : Words (cutB l s a n) := by
  unfold cutB
  split
  · have hw := rdL_words h s
    refine ⟨?_, fun x hx => hw.2 x (List.mem_of_mem_drop (List.mem_of_mem_take hx))⟩
    have := hw.1
    unfold cut
    rw [List.length_take, List.length_drop]
    omega
  · exact ⟨by simp, by simp⟩
theorem cutB_len (l : List (List Int)) (s a n : Int) : (cutB l s a n).length ≤ n.toNat := by
  unfold cutB
  split
  · unfold cut
    rw [List.length_take]
    omega
  · simp
theorem V_SliceB {l : List (List Int)} (h : Segs l) (s a n : Int) (hn : n ≤ 17592186044416) : ev 141 [.pv (.sl 1 (sgs l)), .pv (I s), .pv (I a), .pv (I n)] [] = ok (.tup [.sl 1 (ws (cutB l s a n)), Bo (decide (inB l s a n))]) := by
  rw [V_Slice h s a n hn]
  unfold cutB
  by_cases hb : inB l s a n
  · rw [if_pos hb, if_pos hb, decide_eq_true hb]
  · rw [if_neg hb, if_neg hb, decide_eq_false hb]; rfl
theorem ws_snoc (a : List Int) (x : Int) : ws a ++ [U x] = ws (a ++ [x]) := by simp [ws]
theorem rslice_loop {l : List (List Int)} (h : Segs l) {s a n : Int} (hb : inB l s a n) (hn : n ≤ 17592186044416) (ha : a ≤ 17592186044416) : ∀ (c i : Nat), i + c = n.toNat → capnpref05_Slice_L0 (sgs l) s a n (ws ((cut l s a n).take i)) i = ok (.tup [.sl 1 (ws (cut l s a n)), Bo true]) := by
  have hl := cut_len hb
  have hb' := hb
  obtain ⟨h1, h2, h3, h4, h5⟩ := hb'
  intro c
  induction c with
  | zero =>
    intro i hi
    rw [capnpref05_Slice_L0_eq, decide_eq_false (by omega), List.take_of_length_le (by omega)]
    rfl
  | succ c ih =>
    intro i hi
    have hil : i < (cut l s a n).length := by omega
    rw [capnpref05_Slice_L0_eq, decide_eq_true (show (i : Int) < n by omega), decide_eq_true h1, decide_eq_true (show s < ((sgs l).length : Int) by simp; omega), sgs_rd h1 h2, w64 (x := a + i) (by omega)]
    dsimp only [za, zb, zc, zN, ze, zf, zg, zh, zi, zj, zu, zv, zx, zy, zL, zM, zk, zl, zm, zn, zo, zq, zr, zs, zt, zA, zC, zD, zE, zF, zG, zH, zI, zJ, zK]
    rw [decide_eq_true (show 0 ≤ a + (i : Int) by omega), decide_eq_true (show a + (i : Int) < ((ws (rdL l s)).length : Int) by simp; omega), ws_rd (by omega) (by omega)]
    dsimp only [za, zb, zc, zN, ze, zf, zg, zh, zi, zj, zu, zv, zx, zy, zL, zM, zk, zl, zm, zn, zo, zq, zr, zs, zt, zA, zC, zD, zE, zF, zG, zH, zI, zJ, zK]
    rw [roomy_ok (by simp; omega) (by simp; omega), ws_snoc, w64 (x := (i : Int) + 1) (by omega)]
    have e : rd (rdL l s) (a + i) = (cut l s a n)[i] := by
      have := rd_nat (l := rdL l s) (j := a.toNat + i) (by omega)
      rw [show ((a.toNat + i : Nat) : Int) = a + i by omega] at this
      rw [this]
      simp only [cut, List.getElem_take, List.getElem_drop]
    rw [e, ← take_snoc hil]
    exact ih (i + 1) (by omega)
theorem V_rSliceB {l : List (List Int)} (h : Segs l) (hs : Sm l) (s a n : Int) (hn : n ≤ 17592186044416) : ev 60 [.pv (.sl 1 (sgs l)), .pv (I s), .pv (I a), .pv (I n)] [] = ok (.tup [.sl 1 (ws (cutB l s a n)), Bo (decide (inB l s a n))]) := by
  rw [capnpref05_Slice_eq, V_rInBounds h]
  unfold cutB
  by_cases hb : inB l s a n
  · rw [if_pos hb, decide_eq_true hb]
    have := hs s
    have hb' := hb
    obtain ⟨h1, h2, h3, h4, h5⟩ := hb'
    exact rslice_loop h hb hn (by omega) n.toNat 0 (by omega)
  · rw [if_neg hb, decide_eq_false hb]
    rfl
/-- What is known of an object that was found. -/
def ObOk (l : List (List Int)) (o : Ob) : Prop := (0 ≤ o.at_ ∧ o.at_ ≤ 1099511627776) ∧ (0 ≤ o.data ∧ o.data ≤ 65535) ∧ (0 ≤ o.ptrs ∧ o.ptrs ≤ 65535) ∧ (0 ≤ o.elem ∧ o.elem ≤ 7) ∧ (0 ≤ o.n ∧ o.n ≤ 536870911) ∧ (0 ≤ o.cost ∧ o.cost ≤ 2147483648) ∧ (o.kind = 1 ∨ o.kind = 2) ∧ (o.kind = 2 → o.elem < 6 → inB l o.seg o.at_ o.cost ∧ o.cost = wordsOf o.elem o.n) ∧ (o.kind = 2 → o.elem ≠ 7 → o.data = 0 ∧ o.ptrs = 0)
theorem inB_at {l : List (List Int)} (hs : Sm l) {s a n : Int} (h : inB l s a n) : 0 ≤ a ∧ a + n ≤ 1099511627776 ∧ 0 ≤ n := by
  have := hs s
  obtain ⟨h1, h2, h3, h4, h5⟩ := h
  omega
theorem bad_no {e : Int} {P : Prop} (h : (bad e).2 = 0) (he : e ≠ 0) : P := absurd h he
theorem objS_ok {l : List (List Int)} (hs : Sm l) {s st d q : Int} (hd : 0 ≤ d ∧ d ≤ 65535) (hq : 0 ≤ q ∧ q ≤ 65535) (h : (objS l s st d q).2 = 0) : ObOk l (objS l s st d q).1 := by
  unfold objS at h ⊢
  by_cases hb : inB l s st (d + q)
  · rw [if_pos hb] at h ⊢
    obtain ⟨a1, a2, a3⟩ := inB_at hs hb
    exact ⟨⟨a1, by dsimp only; omega⟩, hd, hq, ⟨by dsimp only; omega, by dsimp only; omega⟩, ⟨by dsimp only; omega, by dsimp only; omega⟩, ⟨by dsimp only; omega, by dsimp only; omega⟩, .inl rfl, fun h => absurd h (by dsimp only; omega), fun h => absurd h (by dsimp only; omega)⟩
  · rw [if_neg hb] at h
    exact bad_no h (by decide)
theorem objC_ok {l : List (List Int)} (hl : Segs l) (hs : Sm l) {s st c : Int} (hc : 0 ≤ c ∧ c ≤ 536870911) (h : (objC l s st c).2 = 0) : ObOk l (objC l s st c).1 := by
  unfold objC at h ⊢
  by_cases hb : inB l s st (c + 1)
  · rw [if_pos hb] at h ⊢
    have hd := dec_small (wd_word hl s st)
    generalize decI (wd l s st) = p at h hd ⊢
    by_cases hk : p.1 = 0 ∧ 0 ≤ p.2.1 ∧ p.2.1 * (p.2.2.1 + p.2.2.2.1) ≤ c
    · rw [if_pos hk] at h ⊢
      obtain ⟨a1, a2, a3⟩ := inB_at hs hb
      refine ⟨⟨by dsimp only; omega, by dsimp only; omega⟩, ⟨by dsimp only; omega, by dsimp only; omega⟩, ⟨by dsimp only; omega, by dsimp only; omega⟩, ⟨by dsimp only; omega, by dsimp only; omega⟩, ⟨by dsimp only; omega, by dsimp only; omega⟩, ⟨by dsimp only; split <;> omega, by dsimp only; split <;> omega⟩, .inr rfl, fun _ h => absurd h (by dsimp only; omega), fun _ h => absurd rfl h⟩
    · rw [if_neg hk] at h
      exact bad_no h (by decide)
  · rw [if_neg hb] at h
    exact bad_no h (by decide)
theorem objL_ok {l : List (List Int)} (hl : Segs l) (hs : Sm l) {s st e c : Int} (he : 0 ≤ e ∧ e ≤ 7) (hc : 0 ≤ c ∧ c ≤ 536870911) (h : (objL l s st e c).2 = 0) : ObOk l (objL l s st e c).1 := by
  unfold objL at h ⊢
  by_cases h7 : e = 7
  · rw [if_pos h7] at h ⊢
    exact objC_ok hl hs hc h
  · rw [if_neg h7] at h ⊢
    by_cases hb : inB l s st (wordsOf e c)
    · rw [if_pos hb] at h ⊢
      obtain ⟨a1, a2, a3⟩ := inB_at hs hb
      have hw := wordsOf_range (e := e) hc
      exact ⟨⟨a1, by dsimp only; omega⟩, ⟨by dsimp only; omega, by dsimp only; omega⟩, ⟨by dsimp only; omega, by dsimp only; omega⟩, he, hc, ⟨hw.1, by dsimp only; omega⟩, .inr rfl, fun _ _ => ⟨hb, rfl⟩, fun _ _ => ⟨rfl, rfl⟩⟩
    · rw [if_neg hb] at h
      exact bad_no h (by decide)
theorem obj_ok {l : List (List Int)} (hl : Segs l) (hs : Sm l) {s a : Int} (h0 : (fol l s a).1 ≠ 0) (he : (fol l s a).2.2.2 = 0) (h : (obj l s a).2 = 0) : ObOk l (obj l s a).1 := by
  have hd := dec_small (fol_word hl s a)
  unfold obj at h ⊢
  rw [if_pos he, if_neg h0] at h ⊢
  unfold objP at h ⊢
  generalize decI (fol l s a).1 = p at h hd ⊢
  by_cases k0 : p.1 = 0
  · rw [if_pos k0] at h ⊢
    exact objS_ok hs (by omega) (by omega) h
  · rw [if_neg k0] at h ⊢
    by_cases k1 : p.1 = 1
    · rw [if_pos k1] at h ⊢
      exact objL_ok hl hs (by omega) (by omega) h
    · rw [if_neg k1] at h
      split at h
      · exact bad_no h (by decide)
      · exact bad_no h (by decide)
-- the spec
def ndR (t : Nd × Int × Int) : List PV := [.agg [I t.1.kind, I t.1.elem, I t.1.n, .sl 1 (bs t.1.data), .sl 5 (pvs t.1.kids)], .agg [I t.2.1], I t.2.2]
def kidsF (F : Int → Nat → Nd × Int × Int) : Nat → Nat → Int → List Nd → List Nd × Int × Int
  | 0, _, m, acc => (acc, m, 0)
  | c + 1, i, m, acc => if (F m i).2.2 = 0 then kidsF F c (i + 1) (F m i).2.1 (acc ++ [(F m i).1]) else ([], (F m i).2.1, (F m i).2.2)
def wrapK (t : List Nd × Int × Int) (f : List Nd → Nd) : Nd × Int × Int := (if t.2.2 = 0 then f t.1 else nd0, t.2.1, t.2.2)
def strct (F : Int → Int → Int → Nd × Int × Int) (l : List (List Int)) (m : Int) (o : Ob) : Nd × Int × Int :=
  wrapK (kidsF (fun m i => F m o.seg (o.at_ + o.data + i)) o.ptrs.toNat 0 m []) fun ks => .mk 1 0 0 (byt (cutB l o.seg o.at_ o.data)) ks
def denL (F : Int → Int → Int → Nd × Int × Int) (l : List (List Int)) (m : Int) (o : Ob) : Nd × Int × Int :=
  if o.elem < 6 then (.mk 2 o.elem o.n (trimB o.elem o.n (byt (cutB l o.seg o.at_ o.cost))) [], m, 0)
  else wrapK (kidsF (fun m i => if o.elem = 6 then F m o.seg (o.at_ + i) else strct F l m (elt o i)) o.n.toNat 0 m []) fun ks => .mk 2 o.elem o.n [] ks
def denO (F : Int → Int → Int → Nd × Int × Int) (l : List (List Int)) (m : Int) (t : Ob × Int) : Nd × Int × Int :=
  if t.2 = 0 then (if t.1.cost > m then (nd0, m, 8) else if t.1.kind = 1 then strct F l (m - t.1.cost) t.1 else denL F l (m - t.1.cost) t.1) else (nd0, m, t.2)
def den (l : List (List Int)) : Nat → Int → Int → Int → Nd × Int × Int
  | 0 => fun m s a => if (fol l s a).2.2.2 = 0 then (if (fol l s a).1 = 0 then (nd0, m, 0) else (nd0, m, 7)) else (nd0, m, (fol l s a).2.2.2)
  | D + 1 => fun m s a => if (fol l s a).2.2.2 = 0 then (if (fol l s a).1 = 0 then (nd0, m, 0) else denO (den l D) l m (obj l s a)) else (nd0, m, (fol l s a).2.2.2)
/-- A meter that is well within. -/
def Mt (m : Int) : Prop := 0 ≤ m ∧ m ≤ 4611686018427387904
/-- A traversal's answer is well-formed. -/
def Fn (t : Nd × Int × Int) : Prop := Mt t.2.1 ∧ good t.1
theorem good0 : good nd0 := by unfold nd0; rw [good]; exact ⟨⟨by simp, by simp, by simp, by simp⟩, trivial⟩
theorem kidsF_ok {F : Int → Nat → Nd × Int × Int} (hF : ∀ m i, Mt m → Fn (F m i)) : ∀ c i m acc, Mt m → goods acc → Mt (kidsF F c i m acc).2.1 ∧ goods (kidsF F c i m acc).1 ∧ (kidsF F c i m acc).1.length ≤ acc.length + c := by
  intro c
  induction c with
  | zero => intro i m acc hm ha; exact ⟨hm, ha, Nat.le_refl _⟩
  | succ c ih =>
    intro i m acc hm ha
    rw [kidsF]
    split
    · obtain ⟨a1, a2, a3⟩ := ih (i + 1) (F m i).2.1 (acc ++ [(F m i).1]) (hF m i hm).1 (goods_iff.2 fun x hx => by
        rcases List.mem_append.1 hx with h | h
        · exact goods_iff.1 ha x h
        · rw [List.mem_singleton.1 h]; exact (hF m i hm).2)
      exact ⟨a1, a2, by simp at a3; omega⟩
    · exact ⟨(hF m i hm).1, trivial, by simp⟩
theorem wrapK_ok {t : List Nd × Int × Int} {f : List Nd → Nd} (hm : Mt t.2.1) (hf : good (f t.1)) : Fn (wrapK t f) := by
  refine ⟨hm, ?_⟩
  unfold wrapK
  dsimp only
  split
  · exact hf
  · exact good0
theorem byt_words8 (l : List (List Int)) (s a n : Int) : (byt (cutB l s a n)).length % 8 = 0 := by rw [byt_len]; omega
theorem trimB_le (e c : Int) (b : List Int) : (trimB e c b).length ≤ b.length + 1 := by
  unfold trimB
  split
  · rw [List.length_append, List.length_take]; simp; omega
  · rw [List.length_take]; omega
theorem trimB_byte (e c : Int) (b : List Int) (hb : ∀ x ∈ b, Byte x) : ∀ x ∈ trimB e c b, Byte x := by
  unfold trimB
  intro x hx
  split at hx
  · rename_i h1
    rcases List.mem_append.1 hx with h | h
    · exact hb x (List.mem_of_mem_take h)
    · rw [List.mem_singleton.1 h]
      have hc : (c % 8).toNat = 0 ∨ (c % 8).toNat = 1 ∨ (c % 8).toNat = 2 ∨ (c % 8).toNat = 3 ∨ (c % 8).toNat = 4 ∨ (c % 8).toNat = 5 ∨ (c % 8).toNat = 6 ∨ (c % 8).toNat = 7 := by omega
      unfold Byte
      rcases hc with h | h | h | h | h | h | h | h <;> rw [h] <;> simp only [Nat.reducePow, Int.reducePow, Int.pow_zero, Int.pow_succ, Int.reduceMul] <;> omega
  · exact hb x (List.mem_of_mem_take hx)
theorem strct_ok {F : Int → Int → Int → Nd × Int × Int} (hF : ∀ m s a, Mt m → Fn (F m s a)) (l : List (List Int)) {m : Int} (hm : Mt m) {o : Ob} (hd : o.data ≤ 65535) (hq : o.ptrs ≤ 65535) : Fn (strct F l m o) := by
  obtain ⟨a1, a2, a3⟩ := kidsF_ok (F := fun m i => F m o.seg (o.at_ + o.data + i)) (fun m i h => hF m _ _ h) o.ptrs.toNat 0 m [] hm trivial
  refine wrapK_ok a1 ?_
  rw [good]
  have := cutB_len l o.seg o.at_ o.data
  refine ⟨⟨?_, byt_byte _, ?_, fun _ => byt_words8 l _ _ _⟩, a2⟩
  · rw [byt_len]; omega
  · simp at a3; omega
theorem denO_ok {F : Int → Int → Int → Nd × Int × Int} (hF : ∀ m s a, Mt m → Fn (F m s a)) (l : List (List Int)) {m : Int} (hm : Mt m) {t : Ob × Int} (ht : t.2 = 0 → ObOk l t.1) : Fn (denO F l m t) := by
  unfold denO
  by_cases h0 : t.2 = 0
  · rw [if_pos h0]
    obtain ⟨hat, hd, hq, he, hn, hc, hk, hw, hz⟩ := ht h0
    by_cases h8 : t.1.cost > m
    · rw [if_pos h8]; exact ⟨hm, good0⟩
    · rw [if_neg h8]
      have hm' : Mt (m - t.1.cost) := ⟨by unfold Mt at hm; omega, by unfold Mt at hm; omega⟩
      by_cases h1 : t.1.kind = 1
      · rw [if_pos h1]; exact strct_ok hF l hm' hd.2 hq.2
      · rw [if_neg h1]
        unfold denL
        by_cases h6 : t.1.elem < 6
        · rw [if_pos h6]
          refine ⟨hm', ?_⟩
          rw [good]
          have := cutB_len l t.1.seg t.1.at_ t.1.cost
          have := trimB_le t.1.elem t.1.n (byt (cutB l t.1.seg t.1.at_ t.1.cost))
          rw [byt_len] at this
          exact ⟨⟨by omega, trimB_byte _ _ _ (byt_byte _), by simp, fun h => absurd h (by decide)⟩, trivial⟩
        · rw [if_neg h6]
          obtain ⟨a1, a2, a3⟩ := kidsF_ok (F := fun m i => if t.1.elem = 6 then F m t.1.seg (t.1.at_ + i) else strct F l m (elt t.1 i)) (fun m i h => by
            split
            · exact hF m _ _ h
            · exact strct_ok hF l h hd.2 hq.2) t.1.n.toNat 0 (m - t.1.cost) [] hm' trivial
          refine wrapK_ok a1 ?_
          rw [good]
          exact ⟨⟨by simp, by simp, by simp at a3; omega, fun h => absurd h (by decide)⟩, a2⟩
  · rw [if_neg h0]; exact ⟨hm, good0⟩
theorem den_ok {l : List (List Int)} (hl : Segs l) (hs : Sm l) : ∀ D m s a, Mt m → Fn (den l D m s a) := by
  intro D
  induction D with
  | zero =>
    intro m s a hm
    unfold den
    split
    · split <;> exact ⟨hm, good0⟩
    · exact ⟨hm, good0⟩
  | succ D ih =>
    intro m s a hm
    unfold den
    split
    · rename_i he
      split
      · exact ⟨hm, good0⟩
      · rename_i h0
        exact denO_ok ih l hm fun h => obj_ok hl hs h0 he h
    · exact ⟨hm, good0⟩
end Go.Proofs.YtfljialckkgacaaGreatDoor.E
set_option linter.unusedVariables false
set_option linter.unusedSimpArgs false
namespace Go.Proofs.YtfljialckkgacaaGreatDoor.E
/-! The reference's traversal. -/
theorem pvs_snoc (acc : List Nd) (x : Nd) : pvs acc ++ [.agg [I x.kind, I x.elem, I x.n, .sl 1 (bs x.data), .sl 5 (pvs x.kids)]] = pvs (acc ++ [x]) := by
  rw [pvs_app]
  cases x; rfl
/-- The call of Value that a fact is about. -/
def RV (l : List (List Int)) (d w b : Int) (dep : Int) (F : Int → Int → Int → Nd × Int × Int) : Prop := ∀ m s a, Mt m → ev 37 [.pv (.sl 1 (sgs l)), .pv (.agg [I d, I w, I b]), .pv (.agg [I m]), .pv (I s), .pv (I a), .pv (I dep)] [] = ok (.tup (ndR (F m s a)))
theorem kidsF_err {F : Int → Nat → Nd × Int × Int} {c i : Nat} {m : Int} {acc : List Nd} (h : (F m i).2.2 ≠ 0) : kidsF F (c + 1) i m acc = ([], (F m i).2.1, (F m i).2.2) := by rw [kidsF, if_neg h]
theorem kidsF_go {F : Int → Nat → Nd × Int × Int} {c i : Nat} {m : Int} {acc : List Nd} (h : (F m i).2.2 = 0) : kidsF F (c + 1) i m acc = kidsF F c (i + 1) (F m i).2.1 (acc ++ [(F m i).1]) := by rw [kidsF, if_pos h]
theorem wrapK_err {t : Nd × Int × Int} {f : List Nd → Nd} (h : t.2.2 ≠ 0) : wrapK ([], t.2.1, t.2.2) f = (nd0, t.2.1, t.2.2) := by
  unfold wrapK
  rw [if_neg h]
theorem rstruct_loop {l : List (List Int)} {d w b dep : Int} {F : Int → Int → Int → Nd × Int × Int} (hF : RV l d w b (dep + 1) F) (hO : ∀ m s a, Mt m → Fn (F m s a)) (hdep : 0 ≤ dep ∧ dep ≤ 1099511627776) {m0 k sg at_ dt q e n cst : Int} (hat : 0 ≤ at_ ∧ at_ ≤ 1125899906842624) (hdt : 0 ≤ dt ∧ dt ≤ 65535) (hq : 0 ≤ q ∧ q ≤ 65535) (data : List Int) : ∀ (c i : Nat) (m : Int) (acc : List Nd), i + c = q.toNat → acc.length = i → Mt m →
    capnpref12_Struct_L0 (sgs l) dep i d w b m0 k sg at_ dt q e n cst 0 0 0 [] [] 0 1 0 0 (.sl 1 (bs data)) (pvs acc) (I m) = ok (.tup (ndR (wrapK (kidsF (fun m i => F m sg (at_ + dt + i)) c i m acc) fun ks => .mk 1 0 0 data ks))) := by
  intro c
  induction c with
  | zero =>
    intro i m acc hi ha hm
    rw [capnpref12_Struct_L0_eq, decide_eq_false (by omega)]
    rfl
  | succ c ih =>
    intro i m acc hi ha hm
    rw [capnpref12_Struct_L0_eq, decide_eq_true (by omega), w64 (x := at_ + dt) (by omega), w64 (x := at_ + dt + i) (by omega), w64 (x := dep + 1) (by omega), hF m sg (at_ + dt + i) hm]
    dsimp only [ndR, za, zb, zc, zN, ze, zf, zg, zh, zi, zj, zu, zv, zx, zy, zL, zM, zk, zl, zm, zn, zo, zq, zr, zs, zt, zA, zC, zD, zE, zF, zG, zH, zI, zJ, zK]
    by_cases h0 : (F m sg (at_ + dt + i)).2.2 = 0
    · rw [kidsF_go (F := fun m (i : Nat) => F m sg (at_ + dt + i)) (by exact h0), h0, show ((0 : Int) != 0) = false from rfl]
      dsimp only [za, zb, zc, zN, ze, zf, zg, zh, zi, zj, zu, zv, zx, zy, zL, zM, zk, zl, zm, zn, zo, zq, zr, zs, zt, zA, zC, zD, zE, zF, zG, zH, zI, zJ, zK]
      rw [roomy_ok (by simp; omega) (by simp; omega), pvs_snoc, w64 (x := (i : Int) + 1) (by omega)]
      exact ih (i + 1) _ _ (by omega) (by simp; omega) (hO m sg _ hm).1
    · rw [kidsF_err (F := fun m (i : Nat) => F m sg (at_ + dt + i)) (by exact h0), wrapK_err h0, show ((F m sg (at_ + dt + i)).2.2 != 0) = true from by simpa using h0]
      rfl
theorem V_rStruct {l : List (List Int)} (hl : Segs l) (hs : Sm l) {d w b dep : Int} {F : Int → Int → Int → Nd × Int × Int} (hF : RV l d w b (dep + 1) F) (hO : ∀ m s a, Mt m → Fn (F m s a)) (hdep : 0 ≤ dep ∧ dep ≤ 1099511627776) {o : Ob} (hat : 0 ≤ o.at_ ∧ o.at_ ≤ 1125899906842624) (hdt : 0 ≤ o.data ∧ o.data ≤ 65535) (hq : 0 ≤ o.ptrs ∧ o.ptrs ≤ 65535) {m : Int} (hm : Mt m) : ev 59 [.pv (.sl 1 (sgs l)), .pv (.agg [I d, I w, I b]), .pv (.agg [I m]), .pv (.agg o.c), .pv (I dep)] [] = ok (.tup (ndR (strct F l m o))) := by
  have hcl := cutB_len l o.seg o.at_ o.data
  rw [Ob.c, capnpref12_Struct_eq, V_rSliceB hl hs _ _ _ (by omega)]
  dsimp only [za, zb, zc, zN, ze, zf, zg, zh, zi, zj, zu, zv, zx, zy, zL, zM, zk, zl, zm, zn, zo, zq, zr, zs, zt, zA, zC, zD, zE, zF, zG, zH, zI, zJ, zK]
  rw [V_rBytes _ (cutB_words hl _ _ _) (by omega)]
  dsimp only [za, zb, zc, zN, ze, zf, zg, zh, zi, zj, zu, zv, zx, zy, zL, zM, zk, zl, zm, zn, zo, zq, zr, zs, zt, zA, zC, zD, zE, zF, zG, zH, zI, zJ, zK]
  exact rstruct_loop hF hO hdep hat hdt hq (byt (cutB l o.seg o.at_ o.data)) o.ptrs.toNat 0 m [] (by omega) rfl hm
theorem rvalue_loop {l : List (List Int)} (hl : Segs l) (hs : Sm l) {d w b dep : Int} {F : Int → Int → Int → Nd × Int × Int} (hF : RV l d w b (dep + 1) F) (hO : ∀ m s a, Mt m → Fn (F m s a)) (hdep : 0 ≤ dep ∧ dep ≤ 1099511627776) {m0 : Int} {o : Ob} (hat : 0 ≤ o.at_ ∧ o.at_ ≤ 1099511627776) (hdt : 0 ≤ o.data ∧ o.data ≤ 65535) (hq : 0 ≤ o.ptrs ∧ o.ptrs ≤ 65535) (hn : 0 ≤ o.n ∧ o.n ≤ 536870911) : ∀ (c i : Nat) (m : Int) (acc : List Nd), i + c = o.n.toNat → acc.length = i → Mt m →
    capnpref12_Value_L0 (sgs l) dep i d w b m0 0 0 0 [] [] 0 2 (I o.elem) (I o.n) [] (pvs acc) (I o.kind) (I o.seg) (I o.at_) (I o.data) (I o.ptrs) (I o.elem) (I o.n) (I o.cost) (I m) = ok (.tup (ndR (wrapK (kidsF (fun m i => if o.elem = 6 then F m o.seg (o.at_ + i) else strct F l m (elt o i)) c i m acc) fun ks => .mk 2 o.elem o.n [] ks))) := by
  intro c
  induction c with
  | zero =>
    intro i m acc hi ha hm
    rw [capnpref12_Value_L0_eq]
    dsimp only [za, zb, zc, zN, ze, zf, zg, zh, zi, zj, zu, zv, zx, zy, zL, zM, zk, zl, zm, zn, zo, zq, zr, zs, zt, zA, zC, zD, zE, zF, zG, zH, zI, zJ, zK]
    rw [decide_eq_false (by omega)]
    rfl
  | succ c ih =>
    intro i m acc hi ha hm
    rw [capnpref12_Value_L0_eq]
    dsimp only [za, zb, zc, zN, ze, zf, zg, zh, zi, zj, zu, zv, zx, zy, zL, zM, zk, zl, zm, zn, zo, zq, zr, zs, zt, zA, zC, zD, zE, zF, zG, zH, zI, zJ, zK]
    rw [decide_eq_true (show (i : Int) < o.n by omega)]
    dsimp only [za, zb, zc, zN, ze, zf, zg, zh, zi, zj, zu, zv, zx, zy, zL, zM, zk, zl, zm, zn, zo, zq, zr, zs, zt, zA, zC, zD, zE, zF, zG, zH, zI, zJ, zK]
    by_cases h6 : o.elem = 6
    · rw [beq_iff_eq.2 h6]
      dsimp only [za, zb, zc, zN, ze, zf, zg, zh, zi, zj, zu, zv, zx, zy, zL, zM, zk, zl, zm, zn, zo, zq, zr, zs, zt, zA, zC, zD, zE, zF, zG, zH, zI, zJ, zK]
      rw [w64 (x := o.at_ + i) (by omega), w64 (x := dep + 1) (by omega), hF m o.seg (o.at_ + i) hm]
      dsimp only [ndR, za, zb, zc, zN, ze, zf, zg, zh, zi, zj, zu, zv, zx, zy, zL, zM, zk, zl, zm, zn, zo, zq, zr, zs, zt, zA, zC, zD, zE, zF, zG, zH, zI, zJ, zK]
      have hE : (fun m (i : Nat) => if o.elem = 6 then F m o.seg (o.at_ + i) else strct F l m (elt o i)) = fun m (i : Nat) => F m o.seg (o.at_ + i) := by funext m i; rw [if_pos h6]
      rw [hE] at ih ⊢
      by_cases h0 : (F m o.seg (o.at_ + i)).2.2 = 0
      · rw [kidsF_go (F := fun m (i : Nat) => F m o.seg (o.at_ + i)) (by exact h0), h0, show ((0 : Int) != 0) = false from rfl]
        dsimp only [za, zb, zc, zN, ze, zf, zg, zh, zi, zj, zu, zv, zx, zy, zL, zM, zk, zl, zm, zn, zo, zq, zr, zs, zt, zA, zC, zD, zE, zF, zG, zH, zI, zJ, zK]
        rw [roomy_ok (by simp; omega) (by simp; omega), pvs_snoc, w64 (x := (i : Int) + 1) (by omega)]
        exact ih (i + 1) _ _ (by omega) (by simp; omega) (hO m o.seg _ hm).1
      · rw [kidsF_err (F := fun m (i : Nat) => F m o.seg (o.at_ + i)) (by exact h0), wrapK_err h0, show ((F m o.seg (o.at_ + i)).2.2 != 0) = true from by simpa using h0]
        rfl
    · rw [beq_eq_false_iff_ne.2 h6]
      dsimp only [za, zb, zc, zN, ze, zf, zg, zh, zi, zj, zu, zv, zx, zy, zL, zM, zk, zl, zm, zn, zo, zq, zr, zs, zt, zA, zC, zD, zE, zF, zG, zH, zI, zJ, zK]
      have hmul : 0 ≤ (i : Int) * (o.data + o.ptrs) ∧ (i : Int) * (o.data + o.ptrs) ≤ 536870911 * 131070 := size_small (by omega) (by omega)
      have hel := V_rElement o i (by omega) (by omega) (by omega)
      rw [Ob.c] at hel
      rw [hel]
      dsimp only [za, zb, zc, zN, ze, zf, zg, zh, zi, zj, zu, zv, zx, zy, zL, zM, zk, zl, zm, zn, zo, zq, zr, zs, zt, zA, zC, zD, zE, zF, zG, zH, zI, zJ, zK]
      rw [V_rStruct hl hs hF hO hdep (o := elt o i) ⟨by dsimp only [elt]; omega, by dsimp only [elt]; omega⟩ hdt hq hm]
      dsimp only [ndR, za, zb, zc, zN, ze, zf, zg, zh, zi, zj, zu, zv, zx, zy, zL, zM, zk, zl, zm, zn, zo, zq, zr, zs, zt, zA, zC, zD, zE, zF, zG, zH, zI, zJ, zK]
      have hE : (fun m (i : Nat) => if o.elem = 6 then F m o.seg (o.at_ + i) else strct F l m (elt o i)) = fun m (i : Nat) => strct F l m (elt o i) := by funext m i; rw [if_neg h6]
      rw [hE] at ih ⊢
      have hk := strct_ok hO l hm (o := elt o i) hdt.2 hq.2
      by_cases h0 : (strct F l m (elt o i)).2.2 = 0
      · rw [kidsF_go (F := fun m (i : Nat) => strct F l m (elt o i)) (by exact h0), h0, show ((0 : Int) != 0) = false from rfl]
        dsimp only [za, zb, zc, zN, ze, zf, zg, zh, zi, zj, zu, zv, zx, zy, zL, zM, zk, zl, zm, zn, zo, zq, zr, zs, zt, zA, zC, zD, zE, zF, zG, zH, zI, zJ, zK]
        rw [roomy_ok (by simp; omega) (by simp; omega), pvs_snoc, w64 (x := (i : Int) + 1) (by omega)]
        exact ih (i + 1) _ _ (by omega) (by simp; omega) hk.1
      · rw [kidsF_err (F := fun m (i : Nat) => strct F l m (elt o i)) (by exact h0), wrapK_err h0, show ((strct F l m (elt o i)).2.2 != 0) = true from by simpa using h0]
        rfl
theorem den_err {l : List (List Int)} {D : Nat} {m s a : Int} (h : (fol l s a).2.2.2 ≠ 0) : den l D m s a = (nd0, m, (fol l s a).2.2.2) := by
  cases D <;> (rw [den]; dsimp only; rw [if_neg h])
theorem den_nil {l : List (List Int)} {D : Nat} {m s a : Int} (h : (fol l s a).2.2.2 = 0) (h0 : (fol l s a).1 = 0) : den l D m s a = (nd0, m, 0) := by
  cases D <;> (rw [den]; dsimp only; rw [if_pos h, if_pos h0])
theorem den_deep {l : List (List Int)} {m s a : Int} (h : (fol l s a).2.2.2 = 0) (h0 : (fol l s a).1 ≠ 0) : den l 0 m s a = (nd0, m, 7) := by
  rw [den]; dsimp only; rw [if_pos h, if_neg h0]
theorem den_obj {l : List (List Int)} {D : Nat} {m s a : Int} (h : (fol l s a).2.2.2 = 0) (h0 : (fol l s a).1 ≠ 0) : den l (D + 1) m s a = denO (den l D) l m (obj l s a) := by
  rw [den]; dsimp only; rw [if_pos h, if_neg h0]
theorem bne_t {a : Int} (h : a ≠ 0) : (a != 0) = true := by simpa using h
theorem bytes_room {l : List (List Int)} {o : Ob} (hn : 0 ≤ o.n ∧ o.n ≤ 536870911) (hb : inB l o.seg o.at_ o.cost ∧ o.cost = wordsOf o.elem o.n) (h6 : o.elem < 6) : bytesN o.elem o.n ≤ ((byt (cutB l o.seg o.at_ o.cost)).length : Int) := by
  rw [byt_len]
  unfold cutB
  rw [if_pos hb.1, cut_len hb.1]
  have hw := wordsOf_range (e := o.elem) hn
  have h2 := hb.2
  unfold wordsOf at h2
  rw [if_neg (by omega)] at h2
  unfold bytesN
  have := bits_mul (e := o.elem) hn
  omega
theorem V_rValue {l : List (List Int)} (hl : Segs l) (hs : Sm l) {d w b : Int} (hd : d ≤ 1099511627775) : ∀ (D : Nat) (dep : Int), 0 ≤ dep → dep ≤ 1099511627776 → (d + 1 - dep).toNat = D → RV l d w b dep (den l D) := by
  intro D
  induction D with
  | zero =>
    intro dep h0 h1 hD m s a hm
    rw [capnpref12_Value_eq, V_rFollow hl]
    dsimp only [folc, za, zb, zc, zN, ze, zf, zg, zh, zi, zj, zu, zv, zx, zy, zL, zM, zk, zl, zm, zn, zo, zq, zr, zs, zt, zA, zC, zD, zE, zF, zG, zH, zI, zJ, zK]
    by_cases he : (fol l s a).2.2.2 = 0
    · rw [he, show ((0 : Int) != 0) = false from rfl]
      dsimp only [za, zb, zc, zN, ze, zf, zg, zh, zi, zj, zu, zv, zx, zy, zL, zM, zk, zl, zm, zn, zo, zq, zr, zs, zt, zA, zC, zD, zE, zF, zG, zH, zI, zJ, zK]
      by_cases hz : (fol l s a).1 = 0
      · rw [beq_iff_eq.2 hz]
        dsimp only [za, zb, zc, zN, ze, zf, zg, zh, zi, zj, zu, zv, zx, zy, zL, zM, zk, zl, zm, zn, zo, zq, zr, zs, zt, zA, zC, zD, zE, zF, zG, zH, zI, zJ, zK]
        rw [den_nil he hz]
        rfl
      · rw [beq_eq_false_iff_ne.2 hz, decide_eq_true (show dep > d by omega)]
        dsimp only [za, zb, zc, zN, ze, zf, zg, zh, zi, zj, zu, zv, zx, zy, zL, zM, zk, zl, zm, zn, zo, zq, zr, zs, zt, zA, zC, zD, zE, zF, zG, zH, zI, zJ, zK]
        rw [den_deep he hz]
        rfl
    · rw [bne_t he]
      dsimp only [za, zb, zc, zN, ze, zf, zg, zh, zi, zj, zu, zv, zx, zy, zL, zM, zk, zl, zm, zn, zo, zq, zr, zs, zt, zA, zC, zD, zE, zF, zG, zH, zI, zJ, zK]
      rw [den_err he]
      rfl
  | succ D ih =>
    intro dep h0 h1 hD m s a hm
    have hF := ih (dep + 1) (by omega) (by omega) (by omega)
    have hO := den_ok hl hs D
    rw [capnpref12_Value_eq, V_rFollow hl]
    dsimp only [folc, za, zb, zc, zN, ze, zf, zg, zh, zi, zj, zu, zv, zx, zy, zL, zM, zk, zl, zm, zn, zo, zq, zr, zs, zt, zA, zC, zD, zE, zF, zG, zH, zI, zJ, zK]
    by_cases he : (fol l s a).2.2.2 = 0
    · rw [he, show ((0 : Int) != 0) = false from rfl]
      dsimp only [za, zb, zc, zN, ze, zf, zg, zh, zi, zj, zu, zv, zx, zy, zL, zM, zk, zl, zm, zn, zo, zq, zr, zs, zt, zA, zC, zD, zE, zF, zG, zH, zI, zJ, zK]
      by_cases hz : (fol l s a).1 = 0
      · rw [beq_iff_eq.2 hz]
        dsimp only [za, zb, zc, zN, ze, zf, zg, zh, zi, zj, zu, zv, zx, zy, zL, zM, zk, zl, zm, zn, zo, zq, zr, zs, zt, zA, zC, zD, zE, zF, zG, zH, zI, zJ, zK]
        rw [den_nil he hz]
        rfl
      · have hok := obj_ok hl hs hz he
        rw [beq_eq_false_iff_ne.2 hz, decide_eq_false (show ¬ dep > d by omega)]
        dsimp only [za, zb, zc, zN, ze, zf, zg, zh, zi, zj, zu, zv, zx, zy, zL, zM, zk, zl, zm, zn, zo, zq, zr, zs, zt, zA, zC, zD, zE, zF, zG, zH, zI, zJ, zK]
        rw [V_rObject hl hs, den_obj he hz]
        generalize obj l s a = t at hok ⊢
        dsimp only [obR, Ob.c, za, zb, zc, zN, ze, zf, zg, zh, zi, zj, zu, zv, zx, zy, zL, zM, zk, zl, zm, zn, zo, zq, zr, zs, zt, zA, zC, zD, zE, zF, zG, zH, zI, zJ, zK]
        unfold denO
        by_cases hf : t.2 = 0
        · obtain ⟨hat, hdt, hq, hel, hn, hc, hk, hw, hz'⟩ := hok hf
          obtain ⟨o, f⟩ := t
          dsimp only at hf hat hdt hq hel hn hc hk hw hz' ⊢
          subst hf
          rw [if_pos rfl, show ((0 : Int) != 0) = false from rfl]
          dsimp only [za, zb, zc, zN, ze, zf, zg, zh, zi, zj, zu, zv, zx, zy, zL, zM, zk, zl, zm, zn, zo, zq, zr, zs, zt, zA, zC, zD, zE, zF, zG, zH, zI, zJ, zK]
          rw [V_rCharge m o.cost (by unfold Mt at hm; omega)]
          dsimp only [za, zb, zc, zN, ze, zf, zg, zh, zi, zj, zu, zv, zx, zy, zL, zM, zk, zl, zm, zn, zo, zq, zr, zs, zt, zA, zC, zD, zE, zF, zG, zH, zI, zJ, zK]
          by_cases h8 : o.cost > m
          · rw [if_pos h8, if_pos h8, if_pos h8, show ((8 : Int) != 0) = true from rfl]
            rfl
          · have hm' : Mt (m - o.cost) := ⟨by unfold Mt at hm; omega, by unfold Mt at hm; omega⟩
            rw [if_neg h8, if_neg h8, if_neg h8, show ((0 : Int) != 0) = false from rfl]
            dsimp only [za, zb, zc, zN, ze, zf, zg, zh, zi, zj, zu, zv, zx, zy, zL, zM, zk, zl, zm, zn, zo, zq, zr, zs, zt, zA, zC, zD, zE, zF, zG, zH, zI, zJ, zK]
            by_cases hk1 : o.kind = 1
            · rw [beq_iff_eq.2 hk1, if_pos hk1]
              dsimp only [za, zb, zc, zN, ze, zf, zg, zh, zi, zj, zu, zv, zx, zy, zL, zM, zk, zl, zm, zn, zo, zq, zr, zs, zt, zA, zC, zD, zE, zF, zG, zH, zI, zJ, zK]
              have := V_rStruct hl hs hF hO ⟨h0, by omega⟩ (o := o) ⟨hat.1, by omega⟩ hdt hq hm'
              rw [Ob.c] at this
              rw [this]
              rfl
            · have hk2 : o.kind = 2 := by omega
              rw [beq_eq_false_iff_ne.2 hk1, if_neg hk1]
              dsimp only [za, zb, zc, zN, ze, zf, zg, zh, zi, zj, zu, zv, zx, zy, zL, zM, zk, zl, zm, zn, zo, zq, zr, zs, zt, zA, zC, zD, zE, zF, zG, zH, zI, zJ, zK]
              unfold denL
              by_cases h6 : o.elem < 6
              · have hcl := cutB_len l o.seg o.at_ o.cost
                rw [decide_eq_true h6, if_pos h6]
                dsimp only [za, zb, zc, zN, ze, zf, zg, zh, zi, zj, zu, zv, zx, zy, zL, zM, zk, zl, zm, zn, zo, zq, zr, zs, zt, zA, zC, zD, zE, zF, zG, zH, zI, zJ, zK]
                rw [V_rSliceB hl hs _ _ _ (by omega)]
                dsimp only [za, zb, zc, zN, ze, zf, zg, zh, zi, zj, zu, zv, zx, zy, zL, zM, zk, zl, zm, zn, zo, zq, zr, zs, zt, zA, zC, zD, zE, zF, zG, zH, zI, zJ, zK]
                rw [V_rBytes _ (cutB_words hl _ _ _) (by omega)]
                dsimp only [za, zb, zc, zN, ze, zf, zg, zh, zi, zj, zu, zv, zx, zy, zL, zM, zk, zl, zm, zn, zo, zq, zr, zs, zt, zA, zC, zD, zE, zF, zG, zH, zI, zJ, zK]
                rw [V_rTrim hn (byt_byte _) (bytes_room hn (hw hk2 h6) h6)]
                rfl
              · rw [decide_eq_false h6, if_neg h6]
                dsimp only [za, zb, zc, zN, ze, zf, zg, zh, zi, zj, zu, zv, zx, zy, zL, zM, zk, zl, zm, zn, zo, zq, zr, zs, zt, zA, zC, zD, zE, zF, zG, zH, zI, zJ, zK]
                exact rvalue_loop hl hs hF hO ⟨h0, by omega⟩ hat hdt hq hn o.n.toNat 0 _ [] (by omega) rfl hm'
        · rw [if_neg hf, bne_t hf]
          rfl
    · rw [bne_t he]
      dsimp only [za, zb, zc, zN, ze, zf, zg, zh, zi, zj, zu, zv, zx, zy, zL, zM, zk, zl, zm, zn, zo, zq, zr, zs, zt, zA, zC, zD, zE, zF, zG, zH, zI, zJ, zK]
      rw [den_err he]
      rfl
end Go.Proofs.YtfljialckkgacaaGreatDoor.E
set_option linter.unusedVariables false
set_option linter.unusedSimpArgs false
namespace Go.Proofs.YtfljialckkgacaaGreatDoor.E
/-! The program's traversal. -/
/-- The reader's cells. -/
abbrev hp (l : List (List Int)) (d w b m : Int) : Heap := [[.pv (.sl 1 (sgs l)), .pv (I d), .pv (I w), .pv (I b), .pv (I m)]]
/-- What a call that may fail answers. -/
def resC (l : List (List Int)) (d w b : Int) (e m : Int) (p : PV) : Option (Out × Heap) := if e = 0 then some (.ret (.pv p), hp l d w b m) else some (.pan (.ifc 126 (.agg [I e])), hp l d w b m)
theorem resC_ok {l : List (List Int)} {d w b e m : Int} {p : PV} (h : e = 0) : resC l d w b e m p = some (.ret (.pv p), [[.pv (.sl 1 (sgs l)), .pv (I d), .pv (I w), .pv (I b), .pv (I m)]]) := by rw [resC, if_pos h]
theorem resC_err {l : List (List Int)} {d w b e m : Int} {p : PV} (h : e ≠ 0) : resC l d w b e m p = some (.pan (.ifc 126 (.agg [I e])), [[.pv (.sl 1 (sgs l)), .pv (I d), .pv (I w), .pv (I b), .pv (I m)]]) := by rw [resC, if_neg h]
def Nd.x (x : Nd) : PV := .agg [I x.kind, I x.elem, I x.n, .sl 1 (bs x.data), .sl 5 (pvs x.kids)]
def CV (l : List (List Int)) (d w b : Int) (dep : Int) (F : Int → Int → Int → Nd × Int × Int) : Prop := ∀ m s a, Mt m → ev 92 [.ptr 0 0, .pv (I s), .pv (I a), .pv (I dep)] [[.pv (.sl 1 (sgs l)), .pv (I d), .pv (I w), .pv (I b), .pv (I m)]] = resC l d w b (F m s a).2.2 (F m s a).2.1 (F m s a).1.x
theorem V_check0 {e : Int} (h : e = 0) : ev 106 [.pv (I e)] [] = ok (.tup []) := by rw [denote_check_eq, h]; rfl
theorem V_checkE {e : Int} (h : e ≠ 0) : ev 106 [.pv (I e)] [] = some (.pan (.ifc 126 (.agg [I e])), []) := by rw [denote_check_eq, bne_t h]; rfl
theorem nd_allx (x : Nd) : ((decide (x.x.cells.length = 5) && x.x.cells.all PV.isCell) && true) = true := rfl
theorem pvs_snocx (acc : List Nd) (x : Nd) : pvs acc ++ [x.x] = pvs (acc ++ [x]) := pvs_snoc acc x
theorem V_cbytes {l : List (List Int)} (hl : Segs l) (d w b m : Int) (o : Ob) (a n : Int) (hn : n ≤ 8796093022208) : ev 131 [.ptr 0 0, .pv (.agg o.c), .pv (I a), .pv (I n)] [[.pv (.sl 1 (sgs l)), .pv (I d), .pv (I w), .pv (I b), .pv (I m)]] = some (.ret (.pv (.sl 1 (bs (byt (cutB l o.seg a n))))), [[.pv (.sl 1 (sgs l)), .pv (I d), .pv (I w), .pv (I b), .pv (I m)]]) := by
  have hcl := cutB_len l o.seg a n
  rw [Ob.c, denote_reader_bytes_eq, V_SliceB hl _ _ _ (by omega)]
  dsimp only [za, zb, zc, zN, ze, zf, zg, zh, zi, zj, zu, zv, zx, zy, zL, zM, zk, zl, zm, zn, zo, zq, zr, zs, zt, zA, zC, zD, zE, zF, zG, zH, zI, zJ, zK]
  rw [V_Bytes _ (by omega)]
  rfl
theorem cptrs_loop {l : List (List Int)} {d w b dep : Int} {F : Int → Int → Int → Nd × Int × Int} (hF : CV l d w b (dep + 1) F) (hO : ∀ m s a, Mt m → Fn (F m s a)) (hdep : 0 ≤ dep ∧ dep ≤ 1099511627776) {k sg at_ dt q e n cst A Q : Int} (hA : 0 ≤ A ∧ A ≤ 2251799813685248) (hQ : 0 ≤ Q ∧ Q ≤ 536870911) : ∀ (c i : Nat) (m : Int) (acc : List Nd), i + c = Q.toNat → acc.length = i → Mt m →
    denote_reader_pointers_L0 dep (pvs acc) (I A) (I Q) i (.sl 1 (sgs l)) (I d) (I w) (I b) (I m) k sg at_ dt q e n cst = resC l d w b (kidsF (fun m i => F m sg (A + i)) c i m acc).2.2 (kidsF (fun m i => F m sg (A + i)) c i m acc).2.1 (.sl 5 (pvs (kidsF (fun m i => F m sg (A + i)) c i m acc).1)) := by
  intro c
  induction c with
  | zero =>
    intro i m acc hi ha hm
    rw [denote_reader_pointers_L0_eq]
    dsimp only [za, zb, zc, zN, ze, zf, zg, zh, zi, zj, zu, zv, zx, zy, zL, zM, zk, zl, zm, zn, zo, zq, zr, zs, zt, zA, zC, zD, zE, zF, zG, zH, zI, zJ, zK]
    rw [decide_eq_false (by omega)]
    rfl
  | succ c ih =>
    intro i m acc hi ha hm
    rw [denote_reader_pointers_L0_eq]
    dsimp only [za, zb, zc, zN, ze, zf, zg, zh, zi, zj, zu, zv, zx, zy, zL, zM, zk, zl, zm, zn, zo, zq, zr, zs, zt, zA, zC, zD, zE, zF, zG, zH, zI, zJ, zK]
    rw [decide_eq_true (show (i : Int) < Q by omega), w64 (x := A + i) (by omega), w64 (x := dep + 1) (by omega)]
    dsimp only [za, zb, zc, zN, ze, zf, zg, zh, zi, zj, zu, zv, zx, zy, zL, zM, zk, zl, zm, zn, zo, zq, zr, zs, zt, zA, zC, zD, zE, zF, zG, zH, zI, zJ, zK]
    rw [hF m sg (A + i) hm]
    by_cases h0 : (F m sg (A + i)).2.2 = 0
    · rw [kidsF_go (F := fun m (i : Nat) => F m sg (A + i)) (by exact h0), resC_ok h0]
      dsimp only [za, zb, zc, zN, ze, zf, zg, zh, zi, zj, zu, zv, zx, zy, zL, zM, zk, zl, zm, zn, zo, zq, zr, zs, zt, zA, zC, zD, zE, zF, zG, zH, zI, zJ, zK]
      rw [nd_allx]
      dsimp only [za, zb, zc, zN, ze, zf, zg, zh, zi, zj, zu, zv, zx, zy, zL, zM, zk, zl, zm, zn, zo, zq, zr, zs, zt, zA, zC, zD, zE, zF, zG, zH, zI, zJ, zK]
      rw [roomy_ok (by simp; omega) (by simp; omega), pvs_snocx, w64 (x := (i : Int) + 1) (by omega)]
      exact ih (i + 1) _ _ (by omega) (by simp; omega) (hO m sg _ hm).1
    · rw [kidsF_err (F := fun m (i : Nat) => F m sg (A + i)) (by exact h0), resC_err h0, resC_err h0]
      rfl
theorem V_cptrs {l : List (List Int)} {d w b dep : Int} {F : Int → Int → Int → Nd × Int × Int} (hF : CV l d w b (dep + 1) F) (hO : ∀ m s a, Mt m → Fn (F m s a)) (hdep : 0 ≤ dep ∧ dep ≤ 1099511627776) {o : Ob} (hat : 0 ≤ o.at_ ∧ o.at_ ≤ 1125899906842624) (hdt : 0 ≤ o.data ∧ o.data ≤ 65535) {A Q : Int} (hA : ptsA o = A) (hQ : ptsN o = Q) (hA' : 0 ≤ A ∧ A ≤ 2251799813685248) (hQ' : 0 ≤ Q ∧ Q ≤ 536870911) {m : Int} (hm : Mt m) : ev 132 [.ptr 0 0, .pv (.agg o.c), .pv (I dep)] [[.pv (.sl 1 (sgs l)), .pv (I d), .pv (I w), .pv (I b), .pv (I m)]] = resC l d w b (kidsF (fun m i => F m o.seg (A + i)) Q.toNat 0 m []).2.2 (kidsF (fun m i => F m o.seg (A + i)) Q.toNat 0 m []).2.1 (.sl 5 (pvs (kidsF (fun m i => F m o.seg (A + i)) Q.toNat 0 m []).1)) := by
  have hp := V_Pointers o (by omega)
  rw [hA, hQ] at hp
  rw [Ob.c] at hp ⊢
  rw [denote_reader_pointers_eq, hp]
  dsimp only [za, zb, zc, zN, ze, zf, zg, zh, zi, zj, zu, zv, zx, zy, zL, zM, zk, zl, zm, zn, zo, zq, zr, zs, zt, zA, zC, zD, zE, zF, zG, zH, zI, zJ, zK]
  exact cptrs_loop hF hO hdep hA' hQ' Q.toNat 0 m [] (by omega) rfl hm
theorem kidsF_base {F : Int → Int → Int → Nd × Int × Int} (sg : Int) {A A' Q : Int} {m : Int} (h : 0 < Q → A' = A) : kidsF (fun m (i : Nat) => F m sg (A' + i)) (if 0 < Q then Q else 0).toNat 0 m [] = kidsF (fun m (i : Nat) => F m sg (A + i)) Q.toNat 0 m [] := by
  by_cases hQ : 0 < Q
  · rw [if_pos hQ, h hQ]
  · rw [if_neg hQ, show Q.toNat = 0 by omega]; rfl
theorem wrapK_ok0 {t : List Nd × Int × Int} {f : List Nd → Nd} (h : t.2.2 = 0) : wrapK t f = (f t.1, t.2.1, t.2.2) := by
  unfold wrapK
  rw [if_pos h]
theorem wrapK_no {t : List Nd × Int × Int} {f : List Nd → Nd} (h : t.2.2 ≠ 0) : wrapK t f = (nd0, t.2.1, t.2.2) := by
  unfold wrapK
  rw [if_neg h]
theorem V_cstruct {l : List (List Int)} (hl : Segs l) {d w b dep : Int} {F : Int → Int → Int → Nd × Int × Int} (hF : CV l d w b (dep + 1) F) (hO : ∀ m s a, Mt m → Fn (F m s a)) (hdep : 0 ≤ dep ∧ dep ≤ 1099511627776) {o : Ob} (hat : 0 ≤ o.at_ ∧ o.at_ ≤ 1125899906842624) (hdt : 0 ≤ o.data ∧ o.data ≤ 65535) (hq : 0 ≤ o.ptrs ∧ o.ptrs ≤ 65535) (hk : o.kind = 1) {m : Int} (hm : Mt m) : ev 111 [.ptr 0 0, .pv (.agg o.c), .pv (I dep)] [[.pv (.sl 1 (sgs l)), .pv (I d), .pv (I w), .pv (I b), .pv (I m)]] = resC l d w b (strct F l m o).2.2 (strct F l m o).2.1 (strct F l m o).1.x := by
  have e1 := V_cbytes hl d w b m o o.at_ o.data (by omega)
  have hA : ptsA o = if 0 < o.ptrs then o.at_ + o.data else 0 := by
    unfold ptsA
    by_cases h : 0 < o.ptrs
    · rw [if_pos ⟨hk, h⟩, if_pos h]
    · rw [if_neg (fun x => h x.2), if_neg (fun x => absurd x.1 (by omega)), if_neg h]
  have hQ : ptsN o = if 0 < o.ptrs then o.ptrs else 0 := by
    unfold ptsN
    by_cases h : 0 < o.ptrs
    · rw [if_pos ⟨hk, h⟩, if_pos h]
    · rw [if_neg (fun x => h x.2), if_neg (fun x => absurd x.1 (by omega)), if_neg h]
  have e2 := V_cptrs hF hO hdep hat hdt hA hQ (by split <;> omega) (by split <;> omega) hm
  rw [kidsF_base (F := F) o.seg (A := o.at_ + o.data) (fun h => if_pos h)] at e2
  rw [Ob.c] at e1 e2 ⊢
  rw [denote_reader_structure_eq, e1]
  dsimp only [za, zb, zc, zN, ze, zf, zg, zh, zi, zj, zu, zv, zx, zy, zL, zM, zk, zl, zm, zn, zo, zq, zr, zs, zt, zA, zC, zD, zE, zF, zG, zH, zI, zJ, zK]
  rw [e2]
  unfold strct
  generalize hK : kidsF (fun m (i : Nat) => F m o.seg (o.at_ + o.data + i)) o.ptrs.toNat 0 m [] = K
  by_cases h0 : K.2.2 = 0
  · rw [resC_ok h0, wrapK_ok0 h0]
    dsimp only [za, zb, zc, zN, ze, zf, zg, zh, zi, zj, zu, zv, zx, zy, zL, zM, zk, zl, zm, zn, zo, zq, zr, zs, zt, zA, zC, zD, zE, zF, zG, zH, zI, zJ, zK]
    rw [resC_ok h0]
    rfl
  · rw [resC_err h0, wrapK_no h0]
    dsimp only [za, zb, zc, zN, ze, zf, zg, zh, zi, zj, zu, zv, zx, zy, zL, zM, zk, zl, zm, zn, zo, zq, zr, zs, zt, zA, zC, zD, zE, zF, zG, zH, zI, zJ, zK]
    rw [resC_err h0]
theorem clist_loop {l : List (List Int)} (hl : Segs l) {d w b dep : Int} {F : Int → Int → Int → Nd × Int × Int} (hF : CV l d w b (dep + 1) F) (hO : ∀ m s a, Mt m → Fn (F m s a)) (hdep : 0 ≤ dep ∧ dep ≤ 1099511627776) {o : Ob} (hat : 0 ≤ o.at_ ∧ o.at_ ≤ 1099511627776) (hdt : 0 ≤ o.data ∧ o.data ≤ 65535) (hq : 0 ≤ o.ptrs ∧ o.ptrs ≤ 65535) (hn : 0 ≤ o.n ∧ o.n ≤ 536870911) : ∀ (c i : Nat) (m : Int) (acc : List Nd), i + c = o.n.toNat → acc.length = i → Mt m →
    denote_reader_list_L1 dep o.n i (.sl 1 (sgs l)) (I d) (I w) (I b) (I m) o.kind o.seg o.at_ o.data o.ptrs o.elem o.n o.cost 0 0 0 [] [] 2 o.elem o.n [] (pvs acc) = resC l d w b (kidsF (fun m (i : Nat) => strct F l m (elt o i)) c i m acc).2.2 (kidsF (fun m (i : Nat) => strct F l m (elt o i)) c i m acc).2.1 (.agg [I 2, I o.elem, I o.n, .sl 1 [], .sl 5 (pvs (kidsF (fun m (i : Nat) => strct F l m (elt o i)) c i m acc).1)]) := by
  intro c
  induction c with
  | zero =>
    intro i m acc hi ha hm
    rw [denote_reader_list_L1_eq, decide_eq_false (by omega)]
    rfl
  | succ c ih =>
    intro i m acc hi ha hm
    have hmul : 0 ≤ (i : Int) * (o.data + o.ptrs) ∧ (i : Int) * (o.data + o.ptrs) ≤ 536870911 * 131070 := size_small (by omega) (by omega)
    have hel := V_Element o i (by omega) (by omega) (by omega)
    rw [Ob.c] at hel
    rw [denote_reader_list_L1_eq, decide_eq_true (by omega), hel]
    dsimp only [za, zb, zc, zN, ze, zf, zg, zh, zi, zj, zu, zv, zx, zy, zL, zM, zk, zl, zm, zn, zo, zq, zr, zs, zt, zA, zC, zD, zE, zF, zG, zH, zI, zJ, zK]
    rw [V_cstruct hl hF hO hdep (o := elt o i) ⟨by dsimp only [elt]; omega, by dsimp only [elt]; omega⟩ hdt hq rfl hm]
    have hk := strct_ok hO l hm (o := elt o i) hdt.2 hq.2
    by_cases h0 : (strct F l m (elt o i)).2.2 = 0
    · rw [kidsF_go (F := fun m (i : Nat) => strct F l m (elt o i)) (by exact h0), resC_ok h0]
      dsimp only [za, zb, zc, zN, ze, zf, zg, zh, zi, zj, zu, zv, zx, zy, zL, zM, zk, zl, zm, zn, zo, zq, zr, zs, zt, zA, zC, zD, zE, zF, zG, zH, zI, zJ, zK]
      rw [nd_allx]
      dsimp only [za, zb, zc, zN, ze, zf, zg, zh, zi, zj, zu, zv, zx, zy, zL, zM, zk, zl, zm, zn, zo, zq, zr, zs, zt, zA, zC, zD, zE, zF, zG, zH, zI, zJ, zK]
      rw [roomy_ok (by simp; omega) (by simp; omega), pvs_snocx, w64 (x := (i : Int) + 1) (by omega)]
      exact ih (i + 1) _ _ (by omega) (by simp; omega) hk.1
    · rw [kidsF_err (F := fun m (i : Nat) => strct F l m (elt o i)) (by exact h0), resC_err h0, resC_err h0]
      rfl
theorem V_clist {l : List (List Int)} (hl : Segs l) {d w b dep : Int} {F : Int → Int → Int → Nd × Int × Int} (hF : CV l d w b (dep + 1) F) (hO : ∀ m s a, Mt m → Fn (F m s a)) (hdep : 0 ≤ dep ∧ dep ≤ 1099511627776) {o : Ob} (hok : ObOk l o) (hk : o.kind = 2) {m : Int} (hm : Mt m) : ev 112 [.ptr 0 0, .pv (.agg o.c), .pv (I dep)] [[.pv (.sl 1 (sgs l)), .pv (I d), .pv (I w), .pv (I b), .pv (I m)]] = resC l d w b (denL F l m o).2.2 (denL F l m o).2.1 (denL F l m o).1.x := by
  obtain ⟨hat, hdt, hq, hel, hn, hc, hk', hw, hz⟩ := hok
  unfold denL
  by_cases h6 : o.elem < 6
  · have e1 := V_cbytes hl d w b m o o.at_ o.cost (by omega)
    rw [Ob.c] at e1 ⊢
    rw [denote_reader_list_eq, beq_eq_false_iff_ne.2 (show o.elem ≠ 6 by omega), beq_eq_false_iff_ne.2 (show o.elem ≠ 7 by omega), e1, if_pos h6]
    dsimp only [za, zb, zc, zN, ze, zf, zg, zh, zi, zj, zu, zv, zx, zy, zL, zM, zk, zl, zm, zn, zo, zq, zr, zs, zt, zA, zC, zD, zE, zF, zG, zH, zI, zJ, zK]
    rw [V_Trim hel hn (byt_byte _) (bytes_room hn (hw hk h6) h6)]
    rfl
  · rw [if_neg h6]
    by_cases h7 : o.elem = 6
    · have hE : (fun m (i : Nat) => if o.elem = 6 then F m o.seg (o.at_ + i) else strct F l m (elt o i)) = fun m (i : Nat) => F m o.seg (o.at_ + i) := by funext m i; rw [if_pos h7]
      rw [hE]
      have hA : ptsA o = if 0 < o.n then o.at_ else 0 := by
        unfold ptsA
        rw [if_neg (fun x => absurd x.1 (by omega))]
        by_cases h : 0 < o.n
        · rw [if_pos ⟨hk, h7, h⟩, if_pos h]
        · rw [if_neg (fun x => h x.2.2), if_neg h]
      have hQ : ptsN o = if 0 < o.n then o.n else 0 := by
        unfold ptsN
        rw [if_neg (fun x => absurd x.1 (by omega))]
        by_cases h : 0 < o.n
        · rw [if_pos ⟨hk, h7, h⟩, if_pos h]
        · rw [if_neg (fun x => h x.2.2), if_neg h]
      have e2 := V_cptrs hF hO hdep (o := o) ⟨hat.1, by omega⟩ hdt hA hQ (by split <;> omega) (by split <;> omega) hm
      rw [kidsF_base (F := F) o.seg (A := o.at_) (fun h => if_pos h)] at e2
      rw [Ob.c] at e2 ⊢
      rw [denote_reader_list_eq, beq_iff_eq.2 h7, e2]
      generalize hK : kidsF (fun m (i : Nat) => F m o.seg (o.at_ + i)) o.n.toNat 0 m [] = K
      by_cases h0 : K.2.2 = 0
      · rw [resC_ok h0, wrapK_ok0 h0]
        dsimp only [za, zb, zc, zN, ze, zf, zg, zh, zi, zj, zu, zv, zx, zy, zL, zM, zk, zl, zm, zn, zo, zq, zr, zs, zt, zA, zC, zD, zE, zF, zG, zH, zI, zJ, zK]
        rw [resC_ok h0]
        rfl
      · rw [resC_err h0, wrapK_no h0]
        dsimp only [za, zb, zc, zN, ze, zf, zg, zh, zi, zj, zu, zv, zx, zy, zL, zM, zk, zl, zm, zn, zo, zq, zr, zs, zt, zA, zC, zD, zE, zF, zG, zH, zI, zJ, zK]
        rw [resC_err h0]
    · have hE : (fun m (i : Nat) => if o.elem = 6 then F m o.seg (o.at_ + i) else strct F l m (elt o i)) = fun m (i : Nat) => strct F l m (elt o i) := by funext m i; rw [if_neg h7]
      rw [hE, Ob.c, denote_reader_list_eq, beq_eq_false_iff_ne.2 h7, beq_iff_eq.2 (show o.elem = 7 by omega)]
      dsimp only [za, zb, zc, zN, ze, zf, zg, zh, zi, zj, zu, zv, zx, zy, zL, zM, zk, zl, zm, zn, zo, zq, zr, zs, zt, zA, zC, zD, zE, zF, zG, zH, zI, zJ, zK]
      refine (clist_loop hl hF hO hdep hat hdt hq hn o.n.toNat 0 m [] (by omega) rfl hm).trans ?_
      generalize hK : kidsF (fun m (i : Nat) => strct F l m (elt o i)) o.n.toNat 0 m [] = K
      by_cases h0 : K.2.2 = 0
      · rw [resC_ok h0, wrapK_ok0 h0]
        dsimp only
        rw [resC_ok h0]
        rfl
      · rw [resC_err h0, wrapK_no h0]
        dsimp only
        rw [resC_err h0]
theorem V_value {l : List (List Int)} (hl : Segs l) (hs : Sm l) {d w b : Int} (hd : d ≤ 1099511627775) : ∀ (D : Nat) (dep : Int), 0 ≤ dep → dep ≤ 1099511627776 → (d + 1 - dep).toNat = D → CV l d w b dep (den l D) := by
  intro D
  induction D with
  | zero =>
    intro dep h0 h1 hD m s a hm
    rw [denote_reader_value_eq, V_Follow hl]
    dsimp only [folc, za, zb, zc, zN, ze, zf, zg, zh, zi, zj, zu, zv, zx, zy, zL, zM, zk, zl, zm, zn, zo, zq, zr, zs, zt, zA, zC, zD, zE, zF, zG, zH, zI, zJ, zK]
    by_cases he : (fol l s a).2.2.2 = 0
    · rw [V_check0 he]
      dsimp only [za, zb, zc, zN, ze, zf, zg, zh, zi, zj, zu, zv, zx, zy, zL, zM, zk, zl, zm, zn, zo, zq, zr, zs, zt, zA, zC, zD, zE, zF, zG, zH, zI, zJ, zK]
      rw [pointer_IsNull_eq]
      dsimp only [za, zb, zc, zN, ze, zf, zg, zh, zi, zj, zu, zv, zx, zy, zL, zM, zk, zl, zm, zn, zo, zq, zr, zs, zt, zA, zC, zD, zE, zF, zG, zH, zI, zJ, zK]
      by_cases hz : (fol l s a).1 = 0
      · rw [beq_iff_eq.2 hz, den_nil he hz]
        rfl
      · rw [beq_eq_false_iff_ne.2 hz, V_Enter, if_pos (show dep > d by omega), den_deep he hz]
        dsimp only [za, zb, zc, zN, ze, zf, zg, zh, zi, zj, zu, zv, zx, zy, zL, zM, zk, zl, zm, zn, zo, zq, zr, zs, zt, zA, zC, zD, zE, zF, zG, zH, zI, zJ, zK]
        rw [V_checkE (by decide)]
        rfl
    · rw [V_checkE he, den_err he, resC_err he]
      rfl
  | succ D ih =>
    intro dep h0 h1 hD m s a hm
    have hF := ih (dep + 1) (by omega) (by omega) (by omega)
    have hO := den_ok hl hs D
    rw [denote_reader_value_eq, V_Follow hl]
    dsimp only [folc, za, zb, zc, zN, ze, zf, zg, zh, zi, zj, zu, zv, zx, zy, zL, zM, zk, zl, zm, zn, zo, zq, zr, zs, zt, zA, zC, zD, zE, zF, zG, zH, zI, zJ, zK]
    by_cases he : (fol l s a).2.2.2 = 0
    · rw [V_check0 he]
      dsimp only [za, zb, zc, zN, ze, zf, zg, zh, zi, zj, zu, zv, zx, zy, zL, zM, zk, zl, zm, zn, zo, zq, zr, zs, zt, zA, zC, zD, zE, zF, zG, zH, zI, zJ, zK]
      rw [pointer_IsNull_eq]
      dsimp only [za, zb, zc, zN, ze, zf, zg, zh, zi, zj, zu, zv, zx, zy, zL, zM, zk, zl, zm, zn, zo, zq, zr, zs, zt, zA, zC, zD, zE, zF, zG, zH, zI, zJ, zK]
      by_cases hz : (fol l s a).1 = 0
      · rw [beq_iff_eq.2 hz, den_nil he hz]
        rfl
      · have hok := obj_ok hl hs hz he
        rw [beq_eq_false_iff_ne.2 hz, V_Enter, if_neg (show ¬ dep > d by omega), den_obj he hz]
        dsimp only [za, zb, zc, zN, ze, zf, zg, zh, zi, zj, zu, zv, zx, zy, zL, zM, zk, zl, zm, zn, zo, zq, zr, zs, zt, zA, zC, zD, zE, zF, zG, zH, zI, zJ, zK]
        rw [V_check0 rfl, V_Object hl hs]
        generalize obj l s a = t at hok ⊢
        dsimp only [obR, Ob.c, za, zb, zc, zN, ze, zf, zg, zh, zi, zj, zu, zv, zx, zy, zL, zM, zk, zl, zm, zn, zo, zq, zr, zs, zt, zA, zC, zD, zE, zF, zG, zH, zI, zJ, zK]
        unfold denO
        by_cases hf : t.2 = 0
        · have hok := hok hf
          obtain ⟨hat, hdt, hq, hel, hn, hc, hk, hw, hz'⟩ := id hok
          obtain ⟨o, f⟩ := t
          dsimp only at hf hok hat hdt hq hel hn hc hk hw hz' ⊢
          rw [V_check0 hf, if_pos hf]
          dsimp only [za, zb, zc, zN, ze, zf, zg, zh, zi, zj, zu, zv, zx, zy, zL, zM, zk, zl, zm, zn, zo, zq, zr, zs, zt, zA, zC, zD, zE, zF, zG, zH, zI, zJ, zK]
          rw [V_Charge m o.cost (by unfold Mt at hm; omega)]
          dsimp only [za, zb, zc, zN, ze, zf, zg, zh, zi, zj, zu, zv, zx, zy, zL, zM, zk, zl, zm, zn, zo, zq, zr, zs, zt, zA, zC, zD, zE, zF, zG, zH, zI, zJ, zK]
          by_cases h8 : o.cost > m
          · rw [if_pos h8, if_pos h8, if_pos h8, V_checkE (by decide)]
            rfl
          · have hm' : Mt (m - o.cost) := ⟨by unfold Mt at hm; omega, by unfold Mt at hm; omega⟩
            rw [if_neg h8, if_neg h8, if_neg h8, V_check0 rfl]
            dsimp only [za, zb, zc, zN, ze, zf, zg, zh, zi, zj, zu, zv, zx, zy, zL, zM, zk, zl, zm, zn, zo, zq, zr, zs, zt, zA, zC, zD, zE, zF, zG, zH, zI, zJ, zK]
            by_cases hk1 : o.kind = 1
            · rw [beq_iff_eq.2 hk1, if_pos hk1]
              dsimp only [za, zb, zc, zN, ze, zf, zg, zh, zi, zj, zu, zv, zx, zy, zL, zM, zk, zl, zm, zn, zo, zq, zr, zs, zt, zA, zC, zD, zE, zF, zG, zH, zI, zJ, zK]
              have := V_cstruct hl hF hO ⟨h0, by omega⟩ (o := o) ⟨hat.1, by omega⟩ hdt hq hk1 hm'
              rw [Ob.c] at this
              rw [this]
              generalize strct (den l D) l (m - o.cost) o = K
              by_cases h9 : K.2.2 = 0
              · rw [resC_ok h9]; rfl
              · rw [resC_err h9]; rfl
            · have hk2 : o.kind = 2 := by omega
              rw [beq_eq_false_iff_ne.2 hk1, if_neg hk1]
              dsimp only [za, zb, zc, zN, ze, zf, zg, zh, zi, zj, zu, zv, zx, zy, zL, zM, zk, zl, zm, zn, zo, zq, zr, zs, zt, zA, zC, zD, zE, zF, zG, zH, zI, zJ, zK]
              have := V_clist hl hF hO ⟨h0, by omega⟩ hok hk2 hm'
              rw [Ob.c] at this
              rw [this]
              generalize denL (den l D) l (m - o.cost) o = K
              by_cases h9 : K.2.2 = 0
              · rw [resC_ok h9]; rfl
              · rw [resC_err h9]; rfl
        · rw [if_neg hf, V_checkE hf, resC_err hf]
          rfl
    · rw [V_checkE he, den_err he, resC_err he]
      rfl
end Go.Proofs.YtfljialckkgacaaGreatDoor.E
set_option linter.unusedVariables false
set_option linter.unusedSimpArgs false
namespace Go.Proofs.YtfljialckkgacaaGreatDoor.E
/-! Messages: what Message and Measure answer. -/
def emp (l : List (List Int)) : Prop := 0 < l.length ∧ (rdL l 0).length = 0
instance (l : List (List Int)) : Decidable (emp l) := by unfold emp; infer_instance
/-- The traversal of a message. -/
def runT (l : List (List Int)) (d w : Int) : Nd × Int × Int := if emp l then (nd0, max w 0, 0) else den l d.toNat (max w 0) 0 0
def msgN (l : List (List Int)) (d w : Int) : Nd := if (runT l d w).2.2 = 0 then trimN (runT l d w).1 else nd0
def msgE (l : List (List Int)) (d w : Int) : Int := (runT l d w).2.2
def meaC (l : List (List Int)) (d w : Int) : Int := if (runT l d w).2.2 = 0 then max w 0 - (runT l d w).2.1 else 0
theorem clA1 (a : PV) : decide ((PV.agg [a]).cells.length = 1) = true := rfl
theorem trimN0 : trimN nd0 = nd0 := rfl
theorem runT_ok {l : List (List Int)} (hl : Segs l) (hs : Sm l) {d w : Int} (hw : w ≤ 4611686018427387904) : Fn (runT l d w) := by
  have hm : Mt (max w 0) := ⟨by omega, by omega⟩
  unfold runT
  split
  · exact ⟨hm, good0⟩
  · exact den_ok hl hs _ _ _ _ hm
theorem sgs0 {l : List (List Int)} (h : 0 < l.length) : (sgs l)[0]? = some (.sl 1 (ws (rdL l 0))) := by
  have := sgs_rd (l := l) (i := 0) (by omega) (by omega)
  exact this
def runV (t : Nd × Int × Int) : PV := .tup [if t.2.2 = 0 then t.1.x else nd0.x, .agg [if t.2.2 = 0 then I t.2.1 else I 0], I t.2.2]
theorem nd0x : nd0.x = .agg [I 0, I 0, I 0, .sl 1 [], .sl 5 []] := rfl
theorem V_run {l : List (List Int)} (hl : Segs l) (hs : Sm l) {d w b : Int} (hd : d ≤ 1099511627775) (hw : w ≤ 4611686018427387904) : ev 73 [.pv (.sl 1 (sgs l)), .pv (.agg [I d, I w, I b])] [] = ok (runV (runT l d w)) := by
  have hm : Mt (max w 0) := ⟨by omega, by omega⟩
  have hv := V_value hl hs (d := d) (w := w) (b := b) hd d.toNat 1 (by omega) (by omega) (by omega) (max w 0) 0 0 hm
  rw [denote_run_eq, V_Start]
  dsimp only [za, zc, zN]
  rw [clA1]
  dsimp only [za, zb, zc, zN, ze, zf, zg, zh, zi, zj, zu, zv, zx, zy, zL, zM, zk, zl, zm, zn, zo, zq, zr, zs, zt, zA, zC, zD, zE, zF, zG, zH, zI, zJ, zK]
  by_cases h0 : 0 < l.length
  · rw [decide_eq_true (show ((sgs l).length : Int) > 0 by rw [sgs_len]; omega), sgs0 h0]
    dsimp only [za, zb, zc, zN, ze, zf, zg, zh, zi, zj, zu, zv, zx, zy, zL, zM, zk, zl, zm, zn, zo, zq, zr, zs, zt, zA, zC, zD, zE, zF, zG, zH, zI, zJ, zK]
    by_cases he : (rdL l 0).length = 0
    · rw [ws_len, he, show (((0 : Nat) : Int) == 0) = true from rfl]
      dsimp only [za, zb, zc, zN, ze, zf, zg, zh, zi, zj, zu, zv, zx, zy, zL, zM, zk, zl, zm, zn, zo, zq, zr, zs, zt, zA, zC, zD, zE, zF, zG, zH, zI, zJ, zK]
      rw [runT, if_pos ⟨h0, he⟩]
      rfl
    · rw [ws_len, beq_eq_false_iff_ne.2 (show ((rdL l 0).length : Int) ≠ 0 by omega)]
      dsimp only [za, zb, zc, zN, ze, zf, zg, zh, zi, zj, zu, zv, zx, zy, zL, zM, zk, zl, zm, zn, zo, zq, zr, zs, zt, zA, zC, zD, zE, zF, zG, zH, zI, zJ, zK]
      rw [hv, runT, if_neg (fun h => he h.2)]
      generalize den l d.toNat (max w 0) 0 0 = K
      by_cases h9 : K.2.2 = 0
      · rw [resC_ok h9, runV, if_pos h9, if_pos h9, h9]; rfl
      · rw [resC_err h9, runV, if_neg h9, if_neg h9]; rfl
  · rw [decide_eq_false (show ¬ ((sgs l).length : Int) > 0 by rw [sgs_len]; omega)]
    dsimp only [za, zb, zc, zN, ze, zf, zg, zh, zi, zj, zu, zv, zx, zy, zL, zM, zk, zl, zm, zn, zo, zq, zr, zs, zt, zA, zC, zD, zE, zF, zG, zH, zI, zJ, zK]
    rw [hv, runT, if_neg (fun h => h0 h.1)]
    generalize den l d.toNat (max w 0) 0 0 = K
    by_cases h9 : K.2.2 = 0
    · rw [resC_ok h9, runV, if_pos h9, if_pos h9, h9]; rfl
    · rw [resC_err h9, runV, if_neg h9, if_neg h9]; rfl
theorem pv_x (x : Nd) : x.pv = x.x := by cases x; rfl
theorem V_Message {l : List (List Int)} (hl : Segs l) (hs : Sm l) {d w b : Int} (hd : d ≤ 1099511627775) (hw : w ≤ 4611686018427387904) : ev 53 [.pv (.sl 1 (sgs l)), .pv (.agg [I d, I w, I b])] [] = ok (.tup [(msgN l d w).x, I (msgE l d w)]) := by
  have hr := runT_ok hl hs (d := d) hw
  rw [denote_Message_eq, V_run hl hs hd hw]
  unfold msgN msgE
  generalize runT l d w = K at hr
  unfold runV
  by_cases h9 : K.2.2 = 0
  · rw [if_pos h9, if_pos h9, if_pos h9]
    have ht := V_tTrim K.1 hr.2
    rw [pv_x, pv_x] at ht
    dsimp only [Nd.x, za, zb, zc, zN, ze, zf, zg, zh, zi, zj, zu, zv, zx, zy, zL, zM, zk, zl, zm, zn, zo, zq, zr, zs, zt, zA, zC, zD, zE, zF, zG, zH, zI, zJ, zK] at ht ⊢
    rw [ht]
    rfl
  · rw [if_neg h9, if_neg h9, if_neg h9]
    have ht := V_tTrim nd0 good0
    rw [trimN0, pv_x] at ht
    rw [nd0x] at ht ⊢
    dsimp only [za, zb, zc, zN, ze, zf, zg, zh, zi, zj, zu, zv, zx, zy, zL, zM, zk, zl, zm, zn, zo, zq, zr, zs, zt, zA, zC, zD, zE, zF, zG, zH, zI, zJ, zK]
    rw [ht]
    rfl
theorem V_rMessage {l : List (List Int)} (hl : Segs l) (hs : Sm l) {d w b : Int} (hd : d ≤ 1099511627775) (hw : w ≤ 4611686018427387904) : ev 16 [.pv (.sl 1 (sgs l)), .pv (.agg [I d, I w, I b])] [] = ok (.tup [(msgN l d w).x, I (msgE l d w)]) := by
  have hr := runT_ok hl hs (d := d) hw
  have hm : Mt (max w 0) := ⟨by omega, by omega⟩
  have hv := V_rValue hl hs (d := d) (w := w) (b := b) hd d.toNat 1 (by omega) (by omega) (by omega) (max w 0) 0 0 hm
  have ht : ∀ x : Nd, good x → ev 39 [.pv (.agg [I x.kind, I x.elem, I x.n, .sl 1 (bs x.data), .sl 5 (pvs x.kids)])] [] = ok (.agg [I (trimN x).kind, I (trimN x).elem, I (trimN x).n, .sl 1 (bs (trimN x).data), .sl 5 (pvs (trimN x).kids)]) := fun x hx => by
    have := V_rTrimN x hx
    rw [pv_x, pv_x] at this
    exact this
  rw [capnpref12_Message_eq]
  by_cases h0 : 0 < l.length
  · rw [decide_eq_true (show ((sgs l).length : Int) > 0 by rw [sgs_len]; omega), sgs0 h0]
    dsimp only [za, zb, zc, zN, ze, zf, zg, zh, zi, zj, zu, zv, zx, zy, zL, zM, zk, zl, zm, zn, zo, zq, zr, zs, zt, zA, zC, zD, zE, zF, zG, zH, zI, zJ, zK]
    by_cases he : (rdL l 0).length = 0
    · rw [ws_len, he, show (((0 : Nat) : Int) == 0) = true from rfl]
      dsimp only [za, zb, zc, zN, ze, zf, zg, zh, zi, zj, zu, zv, zx, zy, zL, zM, zk, zl, zm, zn, zo, zq, zr, zs, zt, zA, zC, zD, zE, zF, zG, zH, zI, zJ, zK]
      have hrun : runT l d w = (nd0, max w 0, 0) := by rw [runT, if_pos ⟨h0, he⟩]
      rw [msgN, msgE, hrun]
      rfl
    · rw [ws_len, beq_eq_false_iff_ne.2 (show ((rdL l 0).length : Int) ≠ 0 by omega), V_rStart]
      dsimp only [za, zb, zc, zN, ze, zf, zg, zh, zi, zj, zu, zv, zx, zy, zL, zM, zk, zl, zm, zn, zo, zq, zr, zs, zt, zA, zC, zD, zE, zF, zG, zH, zI, zJ, zK]
      rw [hv, msgN, msgE]
      have hrun : runT l d w = den l d.toNat (max w 0) 0 0 := by rw [runT, if_neg (fun h => he h.2)]
      rw [hrun] at hr ⊢
      generalize den l d.toNat (max w 0) 0 0 = K at hr ⊢
      dsimp only [ndR, za, zb, zc, zN, ze, zf, zg, zh, zi, zj, zu, zv, zx, zy, zL, zM, zk, zl, zm, zn, zo, zq, zr, zs, zt, zA, zC, zD, zE, zF, zG, zH, zI, zJ, zK]
      by_cases h9 : K.2.2 = 0
      · rw [if_pos h9, h9, show ((0 : Int) != 0) = false from rfl, ht K.1 hr.2]; rfl
      · rw [if_neg h9, bne_t h9]; rfl
  · rw [decide_eq_false (show ¬ ((sgs l).length : Int) > 0 by rw [sgs_len]; omega), V_rStart]
    dsimp only [za, zb, zc, zN, ze, zf, zg, zh, zi, zj, zu, zv, zx, zy, zL, zM, zk, zl, zm, zn, zo, zq, zr, zs, zt, zA, zC, zD, zE, zF, zG, zH, zI, zJ, zK]
    rw [hv, msgN, msgE]
    have hrun : runT l d w = den l d.toNat (max w 0) 0 0 := by rw [runT, if_neg (fun h => h0 h.1)]
    rw [hrun] at hr ⊢
    generalize den l d.toNat (max w 0) 0 0 = K at hr ⊢
    dsimp only [ndR, za, zb, zc, zN, ze, zf, zg, zh, zi, zj, zu, zv, zx, zy, zL, zM, zk, zl, zm, zn, zo, zq, zr, zs, zt, zA, zC, zD, zE, zF, zG, zH, zI, zJ, zK]
    by_cases h9 : K.2.2 = 0
    · rw [if_pos h9, h9, show ((0 : Int) != 0) = false from rfl, ht K.1 hr.2]; rfl
    · rw [if_neg h9, bne_t h9]; rfl
theorem same_loop {d : List Int} (hd : d.length ≤ 17592186044416) : ∀ (c i : Nat), i + c = d.length → capnpref01_Same_L0 (bs d) (bs d) i = ok (Bo true) := by
  intro c
  induction c with
  | zero => intro i hi; rw [capnpref01_Same_L0_eq, decide_eq_false (by simp; omega)]; rfl
  | succ c ih =>
    intro i hi
    rw [capnpref01_Same_L0_eq, decide_eq_true (show (i : Int) < ((bs d).length : Int) by simp; omega), decide_eq_true (show 0 ≤ (i : Int) by omega)]
    dsimp only [za, zb, zc, zN, ze, zf, zg, zh, zi, zj, zu, zv, zx, zy, zL, zM, zk, zl, zm, zn, zo, zq, zr, zs, zt, zA, zC, zD, zE, zF, zG, zH, zI, zJ, zK]
    rw [Int.toNat_natCast, bs_get (by omega)]
    dsimp only [za, zb, zc, zN, ze, zf, zg, zh, zi, zj, zu, zv, zx, zy, zL, zM, zk, zl, zm, zn, zo, zq, zr, zs, zt, zA, zC, zD, zE, zF, zG, zH, zI, zJ, zK]
    rw [show (d[i] != d[i]) = false from by simp, w64 (x := (i : Int) + 1) (by omega)]
    exact ih (i + 1) (by omega)
theorem equal_loop {l : List Nd} (hl : l.length ≤ 1073741824) (hv : ∀ x ∈ l, ev 18 [.pv x.pv, .pv x.pv] [] = ok (Bo true)) (a b c a' b' c' : Int) (x y : List PV) : ∀ (c0 i : Nat), i + c0 = l.length → capnpref10_Equal_L0 i a b c x (pvs l) a' b' c' y (pvs l) = ok (Bo true) := by
  intro c0
  induction c0 with
  | zero => intro i hi; rw [capnpref10_Equal_L0_eq, decide_eq_false (by simp; omega)]; rfl
  | succ c0 ih =>
    intro i hi
    have hil : i < l.length := by omega
    rw [capnpref10_Equal_L0_eq, decide_eq_true (show (i : Int) < ((pvs l).length : Int) by simp; omega), decide_eq_true (show 0 ≤ (i : Int) by omega)]
    dsimp only [za, zb, zc, zN, ze, zf, zg, zh, zi, zj, zu, zv, zx, zy, zL, zM, zk, zl, zm, zn, zo, zq, zr, zs, zt, zA, zC, zD, zE, zF, zG, zH, zI, zJ, zK]
    rw [Int.toNat_natCast, pvs_get hil]
    dsimp only [za, zb, zc, zN, ze, zf, zg, zh, zi, zj, zu, zv, zx, zy, zL, zM, zk, zl, zm, zn, zo, zq, zr, zs, zt, zA, zC, zD, zE, zF, zG, zH, zI, zJ, zK]
    rw [nd_five, nd_take5, hv _ (List.getElem_mem hil), w64 (x := (i : Int) + 1) (by omega)]
    exact ih (i + 1) (by omega)
theorem V_Equal_pv (x : Nd) : good x → ev 18 [.pv x.pv, .pv x.pv] [] = ok (Bo true) := by
  induction x using Nd.ind with
  | h k e n d ks ih =>
    intro hg
    rw [good, goods_iff] at hg
    obtain ⟨⟨hd, hb, hk, h8⟩, hks⟩ := hg
    rw [Nd.pv, capnpref10_Equal_eq, show (k != k) = false from by simp, show (e != e) = false from by simp, show (n != n) = false from by simp, capnpref01_Same_eq, show (((bs d).length : Int) != ((bs d).length : Int)) = false from by simp]
    dsimp only [za, zb, zc, zN, ze, zf, zg, zh, zi, zj, zu, zv, zx, zy, zL, zM, zk, zl, zm, zn, zo, zq, zr, zs, zt, zA, zC, zD, zE, zF, zG, zH, zI, zJ, zK]
    have hsm : capnpref01_Same_L0 (bs d) (bs d) 0 = ok (Bo true) := same_loop hd d.length 0 (by omega)
    rw [hsm, show (((pvs ks).length : Int) != ((pvs ks).length : Int)) = false from by simp]
    dsimp only [za, zb, zc, zN, ze, zf, zg, zh, zi, zj, zu, zv, zx, zy, zL, zM, zk, zl, zm, zn, zo, zq, zr, zs, zt, zA, zC, zD, zE, zF, zG, zH, zI, zJ, zK]
    exact equal_loop hk (fun x hx => ih x hx (hks x hx)) k e n k e n (bs d) (bs d) ks.length 0 (by omega)
theorem V_Equal {x : Nd} (h : good x) : ev 18 [.pv x.x, .pv x.x] [] = ok (Bo true) := by
  have := V_Equal_pv x h
  rwa [pv_x] at this
theorem good_trim (x : Nd) : good x → good (trimN x) := by
  induction x using Nd.ind with
  | h k e n d ks ih =>
    intro hg
    rw [good, goods_iff] at hg
    obtain ⟨⟨hd, hb, hk, h8⟩, hks⟩ := hg
    rw [trimN, trimNs_eq]
    by_cases h1 : k = 1
    · rw [if_pos h1, good, goods_iff]
      have h88 := h8 h1
      refine ⟨⟨by rw [List.length_take]; omega, fun b hx => hb b (List.mem_of_mem_take hx), by rw [List.length_take, List.length_map]; omega, fun _ => ?_⟩, ?_⟩
      · rw [List.length_take]
        have := keptN_le (· == 0) d
        unfold wordsT
        omega
      · intro y hy
        obtain ⟨x, hx, rfl⟩ := List.mem_map.1 (List.mem_of_mem_take hy)
        exact ih x hx (hks x hx)
    · rw [if_neg h1, good, goods_iff]
      refine ⟨⟨hd, hb, by rw [List.length_map]; omega, fun h => absurd h h1⟩, ?_⟩
      intro y hy
      obtain ⟨x, hx, rfl⟩ := List.mem_map.1 hy
      exact ih x hx (hks x hx)
theorem few_loop {l : List (List Int)} (hl : Segs l) : ∀ (c i : Nat), i + c = l.length → (∀ j, j < i → (rdL l j).length ≤ 300) → ∃ bl : Bool, capnpref04_Few_L0 (sgs l) i = ok (Bo bl) ∧ (bl = true → l.length ≤ 20 ∧ ∀ j : Nat, j < l.length → (rdL l j).length ≤ 300) := by
  intro c
  induction c with
  | zero =>
    intro i hi hj
    refine ⟨decide (((sgs l).length : Int) ≤ 20), ?_, ?_⟩
    · rw [capnpref04_Few_L0_eq, decide_eq_false (by simp; omega)]; rfl
    · intro h
      have := of_decide_eq_true h
      simp at this
      exact ⟨by omega, fun j h => hj j (by omega)⟩
  | succ c ih =>
    intro i hi hj
    have hil : i < l.length := by omega
    have hb := hl.1
    by_cases h3 : (rdL l (i : Int)).length ≤ 300
    · obtain ⟨bl, e, hbl⟩ := ih (i + 1) (by omega) fun j hjj => by
        rcases Nat.lt_or_ge j i with h | h
        · exact hj j h
        · rw [show j = i by omega]; exact h3
      refine ⟨bl, ?_, hbl⟩
      rw [capnpref04_Few_L0_eq, decide_eq_true (show (i : Int) < ((sgs l).length : Int) by simp; omega), decide_eq_true (show 0 ≤ (i : Int) by omega), sgs_rd (by omega) (by omega)]
      dsimp only [za, zb, zc, zN, ze, zf, zg, zh, zi, zj, zu, zv, zx, zy, zL, zM, zk, zl, zm, zn, zo, zq, zr, zs, zt, zA, zC, zD, zE, zF, zG, zH, zI, zJ, zK]
      rw [decide_eq_false (by simp; omega), w64 (x := (i : Int) + 1) (by omega)]
      exact e
    · refine ⟨false, ?_, fun h => absurd h (by decide)⟩
      rw [capnpref04_Few_L0_eq, decide_eq_true (show (i : Int) < ((sgs l).length : Int) by simp; omega), decide_eq_true (show 0 ≤ (i : Int) by omega), sgs_rd (by omega) (by omega)]
      dsimp only [za, zb, zc, zN, ze, zf, zg, zh, zi, zj, zu, zv, zx, zy, zL, zM, zk, zl, zm, zn, zo, zq, zr, zs, zt, zA, zC, zD, zE, zF, zG, zH, zI, zJ, zK]
      rw [decide_eq_true (by simp; omega)]
      rfl
/-- What Small says of a message. -/
theorem V_Small {l : List (List Int)} (hl : Segs l) (d w b : Int) : ∃ bl : Bool, ev 11 [.pv (.sl 1 (sgs l)), .pv (.agg [I d, I w, I b])] [] = ok (Bo bl) ∧ (bl = true → d ≤ 40 ∧ w ≤ 2000 ∧ l.length ≤ 20 ∧ ∀ j : Nat, j < l.length → (rdL l j).length ≤ 300) := by
  obtain ⟨bl, e, hb⟩ := few_loop hl l.length 0 (by omega) (fun j h => absurd h (by omega))
  by_cases h1 : d ≤ 40
  · by_cases h2 : w ≤ 2000
    · refine ⟨bl, ?_, fun h => ⟨h1, h2, hb h⟩⟩
      have e' : capnpref04_Few_L0 (sgs l) 0 = ok (Bo bl) := e
      rw [capnpref12_Small_eq, decide_eq_true h1, decide_eq_true h2, capnpref04_Few_eq, e']
      rfl
    · refine ⟨false, ?_, fun h => absurd h (by decide)⟩
      rw [capnpref12_Small_eq, decide_eq_true h1, decide_eq_false h2]
      rfl
  · refine ⟨false, ?_, fun h => absurd h (by decide)⟩
    rw [capnpref12_Small_eq, decide_eq_false h1]
    rfl
theorem sm_of {l : List (List Int)} (h : ∀ j : Nat, j < l.length → (rdL l j).length ≤ 300) : Sm l := by
  intro s
  unfold rdL
  rcases Nat.lt_or_ge s.toNat l.length with h1 | h1
  · have := h s.toNat h1
    unfold rdL at this
    rw [Int.toNat_natCast] at this
    omega
  · rw [List.getD_eq_getElem?_getD, List.getElem?_eq_none h1]
    simp
end Go.Proofs.YtfljialckkgacaaGreatDoor.E
set_option linter.unusedVariables false
set_option linter.unusedSimpArgs false
namespace Go.Proofs.YtfljialckkgacaaGreatDoor.E
/-! Layer 12: its fixed results, and the first law. -/
theorem V_SameR {d : List Int} (hd : d.length ≤ 17592186044416) : ev 42 [.pv (.sl 1 (bs d)), .pv (.sl 1 (bs d))] [] = ok (Bo true) := by
  rw [capnpref01_Same_eq, show (((bs d).length : Int) != ((bs d).length : Int)) = false from by simp]
  exact same_loop hd d.length 0 (by omega)
theorem one_segs {s : List Int} (h : s.length ≤ 300) (hw : ∀ x ∈ s, Word x) : Segs [s] ∧ Sm [s] := by
  refine ⟨⟨by simp, fun t ht => ?_⟩, sm_of fun j hj => ?_⟩
  · rw [List.mem_singleton.1 ht]; exact ⟨by omega, hw⟩
  · rw [show j = 0 by simp at hj; omega]; exact h
theorem wcell (x : Value) : (decide ((PV.v x).cells.length = 1) && (PV.v x).cells.all PV.isCell) = true := rfl
theorem q0 : ev 18 [.pv (.agg [I 0, I 0, I 0, .sl 1 [], .sl 5 []]), .pv (.agg [I 0, I 0, I 0, .sl 1 [], .sl 5 []])] [] = ok (Bo true) := V_Equal good0
theorem good_leaf : good (.mk 2 1 3 [7] []) := by rw [good]; exact ⟨⟨by simp, by intro b hb; simp at hb; unfold Byte; omega, by simp, fun h => absurd h (by decide)⟩, trivial⟩
theorem q1 : ev 18 [.pv (.agg [I 2, I 1, I 3, .sl 1 (bs [7]), .sl 5 []]), .pv (.agg [I 2, I 1, I 3, .sl 1 [U8 7], .sl 5 []])] [] = ok (Bo true) := V_Equal good_leaf
theorem q2 : ev 42 [.pv (.sl 1 (bs [7, 0, 0, 0, 0, 0, 0, 0])), .pv (.sl 1 [U8 7, U8 0, U8 0, U8 0, U8 0, U8 0, U8 0, U8 0])] [] = ok (Bo true) := V_SameR (by decide)
end Go.Proofs.YtfljialckkgacaaGreatDoor.E
set_option linter.unusedVariables false
set_option linter.unusedSimpArgs false
namespace Go.Proofs.YtfljialckkgacaaGreatDoor.E
/-! What a denotation is like. -/
theorem keptN_all {α : Type} {p : α → Bool} {l : List α} : keptN p (l.take (keptN p l)) = keptN p l := by
  induction hn : l.length generalizing l with
  | zero => have := List.length_eq_zero_iff.1 hn; subst this; rfl
  | succ n ih =>
    rcases List.eq_nil_or_concat l with rfl | ⟨l', x, rfl⟩
    · rfl
    · rw [List.concat_eq_append] at hn ⊢
      have hl : l'.length = n := by simpa using hn
      rw [keptN_snoc]
      have hle := keptN_le p l'
      split
      · rw [List.take_append_of_le_length hle]
        exact ih hl
      · rename_i hp
        rw [show (l' ++ [x]).take (l'.length + 1) = l' ++ [x] from List.take_of_length_le (by simp), keptN_snoc, if_neg hp]
theorem wordsT_take {d : List Int} (h8 : d.length % 8 = 0) : (d.take (8 * wordsT d)).length = 8 * wordsT d ∧ wordsT (d.take (8 * wordsT d)) = wordsT d := by
  have hle := keptN_le (· == 0) d
  have h1 : (d.take (8 * wordsT d)).length = 8 * wordsT d := by
    rw [List.length_take]
    unfold wordsT
    omega
  refine ⟨h1, ?_⟩
  have h2 : 8 * wordsT d ≤ d.length := by unfold wordsT; omega
  have hk : keptN (· == 0) (d.take (8 * wordsT d)) = keptN (· == 0) d := by
    have hge : keptN (· == 0) d ≤ 8 * wordsT d := by unfold wordsT; omega
    have mono : ∀ (j : Nat), keptN (· == 0) d ≤ j → j ≤ d.length → keptN (· == 0) (d.take j) = keptN (· == 0) d := by
      intro j hj hjd
      induction hm : d.length - j generalizing j with
      | zero => rw [List.take_of_length_le (by omega)]
      | succ m ih =>
        have hjl : j < d.length := by omega
        have := ih (j + 1) (by omega) (by omega) (by omega)
        rw [take_snoc hjl, keptN_snoc] at this
        split at this
        · exact this
        · rw [List.length_take] at this
          omega
    exact mono _ hge (by omega)
  unfold wordsT at hk ⊢
  rw [hk]
theorem ptrsT_take (ks : List Nd) : ptrsT (ks.take (ptrsT ks)) = ptrsT ks ∧ (ks.take (ptrsT ks)).length = ptrsT ks := ⟨keptN_all, by rw [List.length_take]; have := keptN_le (fun x : Nd => x.kind == 0) ks; unfold ptrsT; omega⟩
theorem trimN_kind (x : Nd) : (trimN x).kind = x.kind := by
  cases x with
  | mk k e n d ks => rw [trimN]; split <;> rfl
theorem ptrsT_map (ks : List Nd) : ptrsT (trimNs ks) = ptrsT ks := by
  rw [trimNs_eq]
  unfold ptrsT
  induction hn : ks.length generalizing ks with
  | zero => have := List.length_eq_zero_iff.1 hn; subst this; rfl
  | succ n ih =>
    rcases List.eq_nil_or_concat ks with rfl | ⟨l', x, rfl⟩
    · rfl
    · rw [List.concat_eq_append] at hn ⊢
      rw [List.map_append, List.map_singleton, keptN_snoc, keptN_snoc, trimN_kind, ih l' (by simpa using hn), List.length_map]
/-- Trimmed. -/
inductive TrN : Nd → Prop
  | mk {k e n : Int} {d : List Int} {ks : List Nd} : (k = 1 → 8 * wordsT d = d.length ∧ ptrsT ks = ks.length) → (∀ x ∈ ks, TrN x) → TrN (.mk k e n d ks)
theorem tr_trim (x : Nd) : good x → TrN (trimN x) := by
  induction x using Nd.ind with
  | h k e n d ks ih =>
    intro hg
    rw [good, goods_iff] at hg
    obtain ⟨⟨hd, hb, hk, h8⟩, hks⟩ := hg
    rw [trimN]
    by_cases h1 : k = 1
    · rw [if_pos h1]
      refine .mk (fun _ => ?_) fun y hy => ?_
      · obtain ⟨a1, a2⟩ := wordsT_take (h8 h1)
        have := ptrsT_take (trimNs ks)
        rw [ptrsT_map] at this
        exact ⟨by rw [a1, a2], by rw [this.1, this.2]⟩
      · have := List.mem_of_mem_take hy
        rw [trimNs_eq] at this
        obtain ⟨x, hx, rfl⟩ := List.mem_map.1 this
        exact ih x hx (hks x hx)
    · rw [if_neg h1]
      refine .mk (fun h => absurd h h1) fun y hy => ?_
      rw [trimNs_eq] at hy
      obtain ⟨x, hx, rfl⟩ := List.mem_map.1 hy
      exact ih x hx (hks x hx)
end Go.Proofs.YtfljialckkgacaaGreatDoor.E
set_option linter.unusedVariables false
set_option linter.unusedSimpArgs false
namespace Go.Proofs.YtfljialckkgacaaGreatDoor.E
/-! A denotation is well-formed, and as deep as its limit at most. -/
def tgt (x : Nd) : List Nd := if x.kind = 2 ∧ x.elem = 7 then x.kids.flatMap Nd.kids else x.kids
def Dp : Nat → Nd → Prop
  | 0, x => x.kind = 0
  | D + 1, x => x.kind = 0 ∨ ((tgt x).length ≤ 1073741824 ∧ ∀ y ∈ tgt x, Dp D y)
theorem dp_nil {D : Nat} {x : Nd} (h : x.kind = 0) : Dp D x := by
  cases D with
  | zero => exact h
  | succ D => exact .inl h
def Shp (k e n : Int) (d : List Int) (q : Nat) : Prop :=
  (k = 0 ∧ e = 0 ∧ n = 0 ∧ d.length = 0 ∧ q = 0) ∨ (k = 1 ∧ e = 0 ∧ n = 0 ∧ d.length % 8 = 0 ∧ d.length ≤ 524280 ∧ q ≤ 65535) ∨
  (k = 2 ∧ (0 ≤ n ∧ n ≤ 536870911) ∧ (0 ≤ e ∧ e ≤ 7) ∧ (6 ≤ e → d.length = 0 ∧ (q : Int) = n) ∧ (e < 6 → q = 0 ∧ (d.length : Int) = bytesN e n ∧ trimB e n d = d))
/-- Well-formed. -/
inductive VN : Nd → Prop
  | mk {k e n : Int} {d : List Int} {ks : List Nd} : (∀ x ∈ ks, VN x) → (k = 2 → e = 7 → ∀ x ∈ ks, x.kind = 1) → Shp k e n d ks.length → VN (.mk k e n d ks)
theorem vn0 : VN nd0 := .mk (fun x h => by cases h) (fun _ _ x h => by cases h) (.inl ⟨rfl, rfl, rfl, rfl, rfl⟩)
theorem kids_all {G : Int → Nat → Nd × Int × Int} {Q : Nd → Prop} (h : ∀ m i, (G m i).2.2 = 0 → Q (G m i).1) : ∀ c i m acc, (∀ x ∈ acc, Q x) → ∀ x ∈ (kidsF G c i m acc).1, Q x := by
  intro c
  induction c with
  | zero => intro i m acc ha; exact ha
  | succ c ih =>
    intro i m acc ha
    by_cases h0 : (G m i).2.2 = 0
    · rw [kidsF_go h0]
      refine ih _ _ _ fun x hx => ?_
      rcases List.mem_append.1 hx with h1 | h1
      · exact ha x h1
      · rw [List.mem_singleton.1 h1]; exact h m i h0
    · rw [kidsF_err h0]
      exact fun x hx => by cases hx
theorem kids_len {G : Int → Nat → Nd × Int × Int} : ∀ c i m acc, (kidsF G c i m acc).2.2 = 0 → (kidsF G c i m acc).1.length = acc.length + c := by
  intro c
  induction c with
  | zero => intro i m acc _; rfl
  | succ c ih =>
    intro i m acc hz
    by_cases h0 : (G m i).2.2 = 0
    · rw [kidsF_go h0] at hz ⊢
      rw [ih _ _ _ hz]
      simp
      omega
    · rw [kidsF_err h0] at hz
      exact absurd hz h0
/-- What is known of a success. -/
def Okd (D : Nat) (F : Int → Int → Int → Nd × Int × Int) : Prop := ∀ m s a, (F m s a).2.2 = 0 → VN (F m s a).1 ∧ Dp D (F m s a).1
theorem strct_okd {D : Nat} {F : Int → Int → Int → Nd × Int × Int} (h : Okd D F) (l : List (List Int)) (m : Int) {o : Ob} (hd : o.data ≤ 65535) (hq : 0 ≤ o.ptrs ∧ o.ptrs ≤ 65535) (hz : (strct F l m o).2.2 = 0) : VN (strct F l m o).1 ∧ (strct F l m o).1.kind = 1 ∧ (strct F l m o).1.kids.length = o.ptrs.toNat ∧ ∀ y ∈ (strct F l m o).1.kids, Dp D y := by
  unfold strct at hz ⊢
  have hz' : (kidsF (fun m (i : Nat) => F m o.seg (o.at_ + o.data + i)) o.ptrs.toNat 0 m []).2.2 = 0 := hz
  have ha := kids_all (G := fun m (i : Nat) => F m o.seg (o.at_ + o.data + i)) (Q := fun x => VN x ∧ Dp D x) (fun m i h0 => h m _ _ h0) o.ptrs.toNat 0 m [] (fun x hx => by cases hx)
  have hl := kids_len (G := fun m (i : Nat) => F m o.seg (o.at_ + o.data + i)) o.ptrs.toNat 0 m [] hz'
  rw [wrapK_ok0 hz']
  generalize kidsF (fun m (i : Nat) => F m o.seg (o.at_ + o.data + i)) o.ptrs.toNat 0 m [] = K at ha hl
  have hcl := cutB_len l o.seg o.at_ o.data
  refine ⟨.mk (fun x hx => (ha x hx).1) (fun h2 => absurd h2 (by decide)) (.inr (.inl ⟨rfl, rfl, rfl, byt_words8 l _ _ _, ?_, ?_⟩)), rfl, ?_, fun y hy => (ha y hy).2⟩
  · rw [byt_len]; omega
  · simp at hl; omega
  · show K.1.length = _
    simpa using hl
theorem strct_dp {D : Nat} {F : Int → Int → Int → Nd × Int × Int} (h : Okd D F) (l : List (List Int)) (m : Int) {o : Ob} (hd : o.data ≤ 65535) (hq : 0 ≤ o.ptrs ∧ o.ptrs ≤ 65535) (hz : (strct F l m o).2.2 = 0) : VN (strct F l m o).1 ∧ Dp (D + 1) (strct F l m o).1 := by
  obtain ⟨a1, a2, a3, a4⟩ := strct_okd h l m hd hq hz
  refine ⟨a1, .inr ?_⟩
  have : tgt (strct F l m o).1 = (strct F l m o).1.kids := by unfold tgt; rw [if_neg (fun x => by rw [a2] at x; exact absurd x.1 (by decide))]
  rw [this]
  exact ⟨by rw [a3]; omega, a4⟩
theorem trimB_ok {e c : Int} {b : List Int} (hc : 0 ≤ c ∧ c ≤ 536870911) (hn : bytesN e c ≤ b.length) : ((trimB e c b).length : Int) = bytesN e c ∧ trimB e c (trimB e c b) = trimB e c b := by
  have hr := bytesN_range (e := e) hc
  unfold trimB
  by_cases h1 : e = 1 ∧ 0 < c % 8
  · simp only [if_pos h1]
    have hb1 : 1 ≤ bytesN e c := by
      obtain ⟨rfl, h8⟩ := h1
      have hbn : bytesN 1 c = (c + 7) / 8 := by unfold bytesN bitsOf; simp
      omega
    have hlen : (b.take (bytesN e c - 1).toNat).length = (bytesN e c - 1).toNat := by rw [List.length_take]; omega
    refine ⟨by rw [List.length_append, hlen]; simp; omega, ?_⟩
    rw [List.take_append_of_le_length (by omega), List.take_of_length_le (by omega)]
    congr 2
    have : rd (b.take (bytesN e c - 1).toNat ++ [rd b (bytesN e c - 1) % 2 ^ (c % 8).toNat]) (bytesN e c - 1) = rd b (bytesN e c - 1) % 2 ^ (c % 8).toNat := by
      conv => lhs; unfold rd
      rw [List.getD_eq_getElem?_getD, List.getElem?_append_right (by omega), hlen, Nat.sub_self]
      rfl
    rw [this, Int.emod_emod_of_dvd _ (Int.dvd_refl _)]
  · simp only [if_neg h1]
    refine ⟨by rw [List.length_take]; omega, ?_⟩
    rw [List.take_take, Nat.min_self]
theorem objC_n {l : List (List Int)} {s st c : Int} (h : (objC l s st c).2 = 0) : (objC l s st c).1.n * (objC l s st c).1.ptrs ≤ c ∨ (objC l s st c).1.data < 0 ∨ (objC l s st c).1.n < 0 := by
  unfold objC at h ⊢
  by_cases hb : inB l s st (c + 1)
  · rw [if_pos hb] at h ⊢
    generalize decI (wd l s st) = p at h ⊢
    by_cases hk : p.1 = 0 ∧ 0 ≤ p.2.1 ∧ p.2.1 * (p.2.2.1 + p.2.2.2.1) ≤ c
    · rw [if_pos hk]
      dsimp only
      by_cases h0 : p.2.2.1 < 0
      · exact .inr (.inl h0)
      · refine .inl ?_
        have : p.2.1 * p.2.2.2.1 ≤ p.2.1 * (p.2.2.1 + p.2.2.2.1) := Int.mul_le_mul_of_nonneg_left (by omega) hk.2.1
        omega
    · rw [if_neg hk] at h
      exact bad_no h (by decide)
  · rw [if_neg hb] at h
    exact bad_no h (by decide)
/-- How many pointers a composite list has. -/
def Np (o : Ob) : Prop := o.kind = 2 → o.elem = 7 → o.n * o.ptrs ≤ 536870911
theorem obj_np {l : List (List Int)} (hl : Segs l) (hs : Sm l) {s a : Int} (h0 : (fol l s a).1 ≠ 0) (he : (fol l s a).2.2.2 = 0) (h : (obj l s a).2 = 0) : Np (obj l s a).1 := by
  have hok := obj_ok hl hs h0 he h
  obtain ⟨_, hdt, _, _, hn, _⟩ := hok
  have hd := dec_small (fol_word hl s a)
  unfold obj at h hdt hn ⊢
  rw [if_pos he, if_neg h0] at h hdt hn ⊢
  unfold objP at h hdt hn ⊢
  generalize decI (fol l s a).1 = p at h hdt hn hd ⊢
  by_cases k0 : p.1 = 0
  · rw [if_pos k0] at h hdt hn ⊢
    intro k2
    unfold objS at k2
    split at k2 <;> first | exact absurd k2 (show ¬ ((1 : Int) = 2) by decide) | exact absurd k2 (show ¬ ((0 : Int) = 2) by decide)
  · rw [if_neg k0] at h hdt hn ⊢
    by_cases k1 : p.1 = 1
    · rw [if_pos k1] at h hdt hn ⊢
      unfold objL at h hdt hn ⊢
      by_cases h7 : p.2.2.2.2.1 = 7
      · rw [if_pos h7] at h hdt hn ⊢
        intro _ _
        have := objC_n h
        omega
      · rw [if_neg h7] at h ⊢
        split
        · exact fun _ h => absurd h h7
        · rename_i hb
          rw [if_neg hb] at h
          exact bad_no h (by decide)
    · rw [if_neg k1] at h
      split at h
      · exact bad_no h (by decide)
      · exact bad_no h (by decide)
theorem flat_len {l : List Nd} {q : Nat} (h : ∀ x ∈ l, x.kids.length = q) : (l.flatMap Nd.kids).length = l.length * q := by
  induction l with
  | nil => simp
  | cons x l ih =>
    rw [List.flatMap_cons, List.length_append, ih (fun y hy => h y (List.mem_cons_of_mem _ hy)), h x List.mem_cons_self, List.length_cons, Nat.succ_mul]
    omega
theorem denL_okd {D : Nat} {F : Int → Int → Int → Nd × Int × Int} (h : Okd D F) (l : List (List Int)) (m : Int) {o : Ob} (ho : ObOk l o) (hp : Np o) (hk : o.kind = 2) (hz : (denL F l m o).2.2 = 0) : VN (denL F l m o).1 ∧ Dp (D + 1) (denL F l m o).1 := by
  obtain ⟨hat, hd, hq, he, hn, hc, _, hw, _⟩ := ho
  unfold denL at hz ⊢
  by_cases h6 : o.elem < 6
  · rw [if_pos h6]
    have ht := trimB_ok hn (bytes_room hn (hw hk h6) h6)
    refine ⟨.mk (fun x hx => by cases hx) (fun _ _ x hx => by cases hx) (.inr (.inr ⟨rfl, hn, he, fun h => absurd h (by omega), fun _ => ⟨rfl, ht.1, ht.2⟩⟩)), .inr ?_⟩
    have : tgt (.mk 2 o.elem o.n (trimB o.elem o.n (byt (cutB l o.seg o.at_ o.cost))) []) = [] := by unfold tgt; split <;> rfl
    rw [this]
    exact ⟨by simp, fun y hy => by cases hy⟩
  · rw [if_neg h6] at hz ⊢
    have hz' : (kidsF (fun m (i : Nat) => if o.elem = 6 then F m o.seg (o.at_ + i) else strct F l m (elt o i)) o.n.toNat 0 m []).2.2 = 0 := hz
    have ha := kids_all (G := fun m (i : Nat) => if o.elem = 6 then F m o.seg (o.at_ + i) else strct F l m (elt o i)) (Q := fun x => VN x ∧ (o.elem = 6 → Dp D x) ∧ (o.elem ≠ 6 → x.kind = 1 ∧ x.kids.length = o.ptrs.toNat ∧ ∀ y ∈ x.kids, Dp D y)) (fun m i h0 => by
      by_cases h7 : o.elem = 6
      · simp only [if_pos h7] at h0 ⊢
        obtain ⟨b1, b2⟩ := h m _ _ h0
        exact ⟨b1, fun _ => b2, fun h => absurd h7 h⟩
      · simp only [if_neg h7] at h0 ⊢
        obtain ⟨b1, b2, b3, b4⟩ := strct_okd h l m (o := elt o i) hd.2 hq h0
        exact ⟨b1, fun h => absurd h h7, fun _ => ⟨b2, b3, b4⟩⟩) o.n.toNat 0 m [] (fun x hx => by cases hx)
    have hl := kids_len (G := fun m (i : Nat) => if o.elem = 6 then F m o.seg (o.at_ + i) else strct F l m (elt o i)) o.n.toNat 0 m [] hz'
    rw [wrapK_ok0 hz']
    generalize kidsF (fun m (i : Nat) => if o.elem = 6 then F m o.seg (o.at_ + i) else strct F l m (elt o i)) o.n.toNat 0 m [] = K at ha hl
    have hl' : K.1.length = o.n.toNat := by simpa using hl
    refine ⟨.mk (fun x hx => (ha x hx).1) (fun _ h7 x hx => ((ha x hx).2.2 (by omega)).1) (.inr (.inr ⟨rfl, hn, he, fun _ => ⟨rfl, by omega⟩, fun h => absurd h h6⟩)), .inr ?_⟩
    dsimp only
    by_cases h7 : o.elem = 7
    · have ht : tgt (.mk 2 o.elem o.n [] K.1) = K.1.flatMap Nd.kids := by unfold tgt; exact if_pos ⟨rfl, h7⟩
      rw [ht]
      refine ⟨?_, fun y hy => ?_⟩
      · rw [flat_len (fun x hx => ((ha x hx).2.2 (by omega)).2.1), hl']
        have := hp hk h7
        have e : ((o.n.toNat * o.ptrs.toNat : Nat) : Int) = o.n * o.ptrs := by rw [Int.natCast_mul, Int.toNat_of_nonneg hn.1, Int.toNat_of_nonneg hq.1]
        omega
      · obtain ⟨x, hx, hy⟩ := List.mem_flatMap.1 hy
        exact ((ha x hx).2.2 (by omega)).2.2 y hy
    · have ht : tgt (.mk 2 o.elem o.n [] K.1) = K.1 := by unfold tgt; exact if_neg (fun x => h7 x.2)
      rw [ht]
      exact ⟨by rw [hl']; omega, fun y hy => (ha y hy).2.1 (by omega)⟩
theorem den_okd {l : List (List Int)} (hl : Segs l) (hs : Sm l) : ∀ D, Okd D (den l D) := by
  intro D
  induction D with
  | zero =>
    intro m s a hz
    by_cases he : (fol l s a).2.2.2 = 0
    · by_cases h0 : (fol l s a).1 = 0
      · rw [den_nil he h0]; exact ⟨vn0, rfl⟩
      · rw [den_deep he h0] at hz; exact absurd hz (by show ¬ ((7 : Int) = 0); decide)
    · rw [den_err he] at hz; exact absurd hz he
  | succ D ih =>
    intro m s a hz
    by_cases he : (fol l s a).2.2.2 = 0
    · by_cases h0 : (fol l s a).1 = 0
      · rw [den_nil he h0]; exact ⟨vn0, .inl rfl⟩
      · rw [den_obj he h0] at hz ⊢
        unfold denO at hz ⊢
        by_cases hf : (obj l s a).2 = 0
        · rw [if_pos hf] at hz ⊢
          have hok := obj_ok hl hs h0 he hf
          have hnp := obj_np hl hs h0 he hf
          by_cases h8 : (obj l s a).1.cost > m
          · rw [if_pos h8] at hz; exact absurd hz (by show ¬ ((8 : Int) = 0); decide)
          · rw [if_neg h8] at hz ⊢
            obtain ⟨hat, hd, hq, _, _, _, hk, _⟩ := id hok
            by_cases h1 : (obj l s a).1.kind = 1
            · rw [if_pos h1] at hz ⊢
              exact strct_dp ih l _ hd.2 hq hz
            · rw [if_neg h1] at hz ⊢
              exact denL_okd ih l _ hok hnp (by omega) hz
        · rw [if_neg hf] at hz; exact absurd hz hf
    · rw [den_err he] at hz; exact absurd hz he
-- trimming keeps this
theorem vn_trim (x : Nd) : VN x → VN (trimN x) := by
  induction x using Nd.ind with
  | h k e n d ks ih =>
    intro hv
    cases hv with
    | mk v1 v2 v3 =>
    rw [trimN, trimNs_eq]
    have hm : ∀ y ∈ ks.map trimN, VN y := fun y hy => by
      obtain ⟨x, hx, rfl⟩ := List.mem_map.1 hy
      exact ih x hx (v1 x hx)
    by_cases h1 : k = 1
    · rw [if_pos h1]
      refine .mk (fun x hx => hm x (List.mem_of_mem_take hx)) (fun h2 => absurd h2 (by omega)) ?_
      unfold Shp at v3 ⊢
      rw [List.length_take, List.length_take, List.length_map]
      rcases v3 with v3 | v3 | v3
      · omega
      · obtain ⟨_, a2, a3, a4, a5, a6⟩ := v3
        have := keptN_le (· == 0) d
        refine .inr (.inl ⟨h1, a2, a3, ?_, by omega, by omega⟩)
        unfold wordsT
        omega
      · omega
    · rw [if_neg h1]
      refine .mk hm (fun h2 h7 y hy => ?_) ?_
      · obtain ⟨x, hx, rfl⟩ := List.mem_map.1 hy
        rw [trimN_kind]
        exact v2 h2 h7 x hx
      · rw [List.length_map]; exact v3
theorem kids_trim (x : Nd) : (trimN x).kids.length ≤ x.kids.length ∧ ∀ y ∈ (trimN x).kids, ∃ z ∈ x.kids, y = trimN z := by
  cases x with
  | mk k e n d ks =>
    rw [trimN, trimNs_eq]
    split
    · refine ⟨by show ((ks.map trimN).take _).length ≤ ks.length; rw [List.length_take, List.length_map]; omega, fun y hy => ?_⟩
      have hy' : y ∈ (ks.map trimN).take (ptrsT ks) := hy
      obtain ⟨z, hz, rfl⟩ := List.mem_map.1 (List.mem_of_mem_take hy')
      exact ⟨z, hz, rfl⟩
    · refine ⟨by show (ks.map trimN).length ≤ ks.length; rw [List.length_map]; omega, fun y hy => ?_⟩
      have hy' : y ∈ ks.map trimN := hy
      obtain ⟨z, hz, rfl⟩ := List.mem_map.1 hy'
      exact ⟨z, hz, rfl⟩
theorem trimN_elem (x : Nd) : (trimN x).elem = x.elem := by
  cases x with
  | mk k e n d ks => rw [trimN]; split <;> rfl
theorem flat_trim : ∀ l : List Nd, ((l.map trimN).flatMap Nd.kids).length ≤ (l.flatMap Nd.kids).length
  | [] => Nat.le_refl _
  | x :: l => by
    have := flat_trim l
    have := (kids_trim x).1
    rw [List.map_cons, List.flatMap_cons, List.flatMap_cons, List.length_append, List.length_append]
    omega
theorem tgt_trim (x : Nd) : (tgt (trimN x)).length ≤ (tgt x).length ∧ ∀ y ∈ tgt (trimN x), ∃ z ∈ tgt x, y = trimN z := by
  unfold tgt
  rw [trimN_kind, trimN_elem]
  by_cases h : x.kind = 2 ∧ x.elem = 7
  · rw [if_pos h, if_pos h]
    have hk : (trimN x).kids = x.kids.map trimN := by
      cases x with
      | mk k e n d ks =>
        rw [trimN, trimNs_eq, if_neg (fun h1 => by have : k = 2 := h.1; omega)]
        rfl
    rw [hk]
    refine ⟨flat_trim _, fun y hy => ?_⟩
    obtain ⟨u, hu, hy⟩ := List.mem_flatMap.1 hy
    obtain ⟨v, hv, rfl⟩ := List.mem_map.1 hu
    obtain ⟨z, hz, rfl⟩ := (kids_trim v).2 y hy
    exact ⟨z, List.mem_flatMap.2 ⟨v, hv, hz⟩, rfl⟩
  · rw [if_neg h, if_neg h]
    exact kids_trim x
theorem dp_trim : ∀ (D : Nat) (x : Nd), Dp D x → Dp D (trimN x) := by
  intro D
  induction D with
  | zero => intro x h; exact (trimN_kind x).trans h
  | succ D ih =>
    intro x h
    rcases h with h | ⟨h1, h2⟩
    · exact .inl ((trimN_kind x).trans h)
    · obtain ⟨a1, a2⟩ := tgt_trim x
      exact .inr ⟨by omega, fun y hy => by obtain ⟨z, hz, rfl⟩ := a2 y hy; exact ih z (h2 z hz)⟩
end Go.Proofs.YtfljialckkgacaaGreatDoor.E
set_option linter.unusedVariables false
set_option linter.unusedSimpArgs false
namespace Go.Proofs.YtfljialckkgacaaGreatDoor.E
/-! The reference's checks of a node; the law DenoteIsBounded. -/
theorem tgt_mk (k e n : Int) (d : List Int) (ks : List Nd) : tgt (.mk k e n d ks) = if k = 2 ∧ e = 7 then ks.flatMap Nd.kids else ks := rfl
theorem good_tgt {x : Nd} (hg : good x) : ∀ y ∈ tgt x, good y := by
  have kid : ∀ {x : Nd}, good x → ∀ y ∈ x.kids, good y := fun {x} h y hy => by
    cases x with
    | mk k e n d ks => rw [good, goods_iff] at h; exact h.2 y hy
  unfold tgt
  split
  · intro y hy
    obtain ⟨z, hz, hy⟩ := List.mem_flatMap.1 hy
    exact kid (kid hg z hz) y hy
  · exact kid hg
theorem cl5 (a b c d e : PV) : decide ((PV.agg [a, b, c, d, e]).cells.length = 5) = true := rfl
theorem runT_okd {l : List (List Int)} (hl : Segs l) (hs : Sm l) {d w : Int} (h : (runT l d w).2.2 = 0) : VN (runT l d w).1 ∧ Dp d.toNat (runT l d w).1 := by
  by_cases he : emp l
  · rw [runT, if_pos he]
    exact ⟨vn0, dp_nil rfl⟩
  · have e1 : runT l d w = den l d.toNat (max w 0) 0 0 := by rw [runT, if_neg he]
    rw [e1] at h ⊢
    exact den_okd hl hs _ _ _ _ h
end Go.Proofs.YtfljialckkgacaaGreatDoor.E
set_option linter.unusedVariables false
set_option linter.unusedSimpArgs false
namespace Go.Proofs.YtfljialckkgacaaGreatDoor.E
/-! Sizes of canonical forms. -/
def uniD (l : List Nd) : Nat := l.foldr (fun x a => max (x.data.length / 8) a) 0
def uniP (l : List Nd) : Nat := l.foldr (fun x a => max x.kids.length a) 0
def objSz (x : Nd) : Int := if x.kind = 0 then 0 else if x.kind = 1 then ((x.data.length / 8 + x.kids.length : Nat) : Int) else if x.elem = 7 then 1 + x.n * ((uniD x.kids + uniP x.kids : Nat) : Int) else wordsOf x.elem x.n
def sumL (l : List Int) : Int := l.foldr (fun a b => a + b) 0
def nodSz : Nat → Nd → Int
  | 0, x => objSz x
  | D + 1, x => objSz x + sumL ((tgt x).map (nodSz D))
theorem sumL_app (a b : List Int) : sumL (a ++ b) = sumL a + sumL b := by
  unfold sumL
  induction a with
  | nil => simp
  | cons x a ih => simp only [List.cons_append, List.foldr_cons, ih]; omega
theorem sumL_nil : sumL [] = 0 := rfl
theorem sumL_cons (x : Int) (l : List Int) : sumL (x :: l) = x + sumL l := rfl
theorem sumL_nn {l : List Int} (h : ∀ x ∈ l, 0 ≤ x) : 0 ≤ sumL l := by
  induction l with
  | nil => exact Int.le_refl _
  | cons x l ih =>
    rw [sumL_cons]
    have := h x List.mem_cons_self
    have := ih fun y hy => h y (List.mem_cons_of_mem _ hy)
    omega
theorem uniD_mem {l : List Nd} {x : Nd} (h : x ∈ l) : x.data.length / 8 ≤ uniD l := by
  unfold uniD
  induction l with
  | nil => cases h
  | cons y l ih =>
    rw [List.foldr_cons]
    rcases List.mem_cons.1 h with rfl | h
    · omega
    · have := ih h; omega
theorem uniD_le {l : List Nd} {b : Nat} (h : ∀ x ∈ l, x.data.length / 8 ≤ b) : uniD l ≤ b := by
  unfold uniD
  induction l with
  | nil => exact Nat.zero_le _
  | cons y l ih =>
    rw [List.foldr_cons]
    have := h y List.mem_cons_self
    have := ih fun x hx => h x (List.mem_cons_of_mem _ hx)
    omega
theorem uniP_le {l : List Nd} {b : Nat} (h : ∀ x ∈ l, x.kids.length ≤ b) : uniP l ≤ b := by
  unfold uniP
  induction l with
  | nil => exact Nat.zero_le _
  | cons y l ih =>
    rw [List.foldr_cons]
    have := h y List.mem_cons_self
    have := ih fun x hx => h x (List.mem_cons_of_mem _ hx)
    omega
theorem uniD_snoc (l : List Nd) (x : Nd) : uniD (l ++ [x]) = max (uniD l) (x.data.length / 8) := by
  unfold uniD
  induction l with
  | nil => simp
  | cons y l ih => simp only [List.cons_append, List.foldr_cons, ih]; omega
theorem uniP_snoc (l : List Nd) (x : Nd) : uniP (l ++ [x]) = max (uniP l) x.kids.length := by
  unfold uniP
  induction l with
  | nil => simp
  | cons y l ih => simp only [List.cons_append, List.foldr_cons, ih]; omega
-- the program's
theorem uni_loop {l : List Nd} (hl : l.length ≤ 1073741824) (hd : ∀ x ∈ l, x.data.length ≤ 17592186044416) (a b c : Int) (x y : List PV) : ∀ (c0 i : Nat), i + c0 = l.length → trim_Uniform_L0 (uniD (l.take i) : Nat) (uniP (l.take i) : Nat) (pvs l) l.length i a b c x y = ok (.tup [I (uniD l : Nat), I (uniP l : Nat)]) := by
  intro c0
  induction c0 with
  | zero =>
    intro i hi
    rw [trim_Uniform_L0_eq, decide_eq_false (by omega), List.take_of_length_le (by omega)]
    rfl
  | succ c0 ih =>
    intro i hi
    have hil : i < l.length := by omega
    have hdi := hd _ (List.getElem_mem hil)
    rw [trim_Uniform_L0_eq, decide_eq_true (show (i : Int) < (l.length : Int) by omega), decide_eq_true (show 0 ≤ (i : Int) by omega), decide_eq_true (show (i : Int) < ((pvs l).length : Int) by simp; omega)]
    dsimp only [za, zb, zc, zN, ze, zf, zg, zh, zi, zj, zu, zv, zx, zy, zL, zM, zk, zl, zm, zn, zo, zq, zr, zs, zt, zA, zC, zD, zE, zF, zG, zH, zI, zJ, zK]
    rw [Int.toNat_natCast, pvs_get hil]
    dsimp only [za, zb, zc, zN, ze, zf, zg, zh, zi, zj, zu, zv, zx, zy, zL, zM, zk, zl, zm, zn, zo, zq, zr, zs, zt, zA, zC, zD, zE, zF, zG, zH, zI, zJ, zK]
    rw [nd_five, nd_cells, show (l[i].c.drop 0).take 5 = l[i].c from rfl]
    dsimp only [Nd.c, za, zb, zc, zN, ze, zf, zg, zh, zi, zj, zu, zv, zx, zy, zL, zM, zk, zl, zm, zn, zo, zq, zr, zs, zt, zA, zC, zD, zE, zF, zG, zH, zI, zJ, zK]
    rw [bs_len, pvs_len, Int.tdiv_eq_ediv_of_nonneg (by omega), w64 (x := (l[i].data.length : Int) / 8) (by omega), w64 (x := (i : Int) + 1) (by omega)]
    have h1 : (if (l[i].data.length : Int) / 8 > ((uniD (l.take i) : Nat) : Int) then (l[i].data.length : Int) / 8 else ((uniD (l.take i) : Nat) : Int)) = ((uniD (l.take (i + 1)) : Nat) : Int) := by
      rw [take_snoc hil, uniD_snoc]
      split <;> omega
    have h2 : (if (l[i].kids.length : Int) > ((uniP (l.take i) : Nat) : Int) then (l[i].kids.length : Int) else ((uniP (l.take i) : Nat) : Int)) = ((uniP (l.take (i + 1)) : Nat) : Int) := by
      rw [take_snoc hil, uniP_snoc]
      split <;> omega
    rw [h1, h2]
    exact ih (i + 1) (by omega)
theorem V_Uniform {x : Nd} (hl : x.kids.length ≤ 1073741824) (hd : ∀ y ∈ x.kids, y.data.length ≤ 17592186044416) : ev 97 [.pv x.x] [] = ok (.tup [I (uniD x.kids : Nat), I (uniP x.kids : Nat)]) := by
  rw [Nd.x, trim_Uniform_eq, pvs_len]
  exact uni_loop hl hd x.kind x.elem x.n (bs x.data) (pvs x.kids) x.kids.length 0 (by omega)
theorem good_len {x : Nd} (h : good x) : x.data.length ≤ 17592186044416 ∧ x.kids.length ≤ 1073741824 ∧ ∀ y ∈ x.kids, good y := by
  cases x with
  | mk k e n d ks =>
    rw [good, goods_iff] at h
    exact ⟨h.1.1, h.1.2.2.1, h.2⟩
theorem vn_shp {x : Nd} (h : VN x) : Shp x.kind x.elem x.n x.data x.kids.length ∧ (∀ y ∈ x.kids, VN y) := by
  cases h with
  | mk v1 v2 v3 => exact ⟨v3, v1⟩
theorem objSz_nn {x : Nd} (h : VN x) : 0 ≤ objSz x := by
  obtain ⟨hs, _⟩ := vn_shp h
  unfold objSz
  rcases hs with hs | hs | hs
  · rw [if_pos hs.1]; exact Int.le_refl _
  · rw [if_neg (by omega), if_pos hs.1]; omega
  · rw [if_neg (by omega), if_neg (by omega)]
    split
    · have := Int.mul_nonneg hs.2.1.1 (Int.natCast_nonneg (uniD x.kids + uniP x.kids))
      omega
    · exact (wordsOf_range hs.2.1).1
theorem V_Object13 {x : Nd} (hg : good x) (hv : VN x) (hb : objSz x ≤ 4611686018427387904) (hu : uniD x.kids + uniP x.kids ≤ 4611686018427387904) : ev 89 [.pv x.x] [] = ok (I (objSz x)) := by
  obtain ⟨hd, hk, hks⟩ := good_len hg
  obtain ⟨hs, _⟩ := vn_shp hv
  have hun := V_Uniform hk (fun y hy => (good_len (hks y hy)).1)
  rw [Nd.x] at hun ⊢
  rw [canonsize_Object_eq, bs_len, pvs_len]
  unfold objSz at hb ⊢
  rcases hs with hs | hs | hs
  · rw [beq_iff_eq.2 hs.1, if_pos hs.1]; rfl
  · rw [beq_eq_false_iff_ne.2 (show x.kind ≠ 0 by omega), beq_iff_eq.2 hs.1, if_neg (by omega), if_pos hs.1]
    dsimp only [za, zb, zc, zN, ze, zf, zg, zh, zi, zj, zu, zv, zx, zy, zL, zM, zk, zl, zm, zn, zo, zq, zr, zs, zt, zA, zC, zD, zE, zF, zG, zH, zI, zJ, zK]
    rw [Int.tdiv_eq_ediv_of_nonneg (by omega), w64 (x := (x.data.length : Int) / 8) (by omega), w64 (by omega)]
    rw [show (x.data.length : Int) / 8 + (x.kids.length : Int) = ((x.data.length / 8 + x.kids.length : Nat) : Int) by omega]
  · rw [if_neg (by omega), if_neg (by omega)] at hb ⊢
    rw [beq_eq_false_iff_ne.2 (show x.kind ≠ 0 by omega), beq_eq_false_iff_ne.2 (show x.kind ≠ 1 by omega)]
    dsimp only [za, zb, zc, zN, ze, zf, zg, zh, zi, zj, zu, zv, zx, zy, zL, zM, zk, zl, zm, zn, zo, zq, zr, zs, zt, zA, zC, zD, zE, zF, zG, zH, zI, zJ, zK]
    by_cases h7 : x.elem = 7
    · rw [if_pos h7] at hb ⊢
      rw [beq_iff_eq.2 h7]
      dsimp only [za, zb, zc, zN, ze, zf, zg, zh, zi, zj, zu, zv, zx, zy, zL, zM, zk, zl, zm, zn, zo, zq, zr, zs, zt, zA, zC, zD, zE, zF, zG, zH, zI, zJ, zK]
      rw [hun]
      have hm := Int.mul_nonneg hs.2.1.1 (Int.natCast_nonneg (uniD x.kids + uniP x.kids))
      dsimp only [za, zb, zc, zN, ze, zf, zg, zh, zi, zj, zu, zv, zx, zy, zL, zM, zk, zl, zm, zn, zo, zq, zr, zs, zt, zA, zC, zD, zE, zF, zG, zH, zI, zJ, zK]
      rw [w64 (x := ((uniD x.kids : Nat) : Int) + ((uniP x.kids : Nat) : Int)) (by omega), show ((uniD x.kids : Nat) : Int) + ((uniP x.kids : Nat) : Int) = ((uniD x.kids + uniP x.kids : Nat) : Int) by push_cast; rfl, w64 (x := x.n * ((uniD x.kids + uniP x.kids : Nat) : Int)) (by omega), w64 (by omega)]
    · rw [if_neg h7]
      rw [beq_eq_false_iff_ne.2 h7, V_Words hs.2.2.1 hs.2.1]
      rfl
end Go.Proofs.YtfljialckkgacaaGreatDoor.E
set_option linter.unusedVariables false
set_option linter.unusedSimpArgs false
namespace Go.Proofs.YtfljialckkgacaaGreatDoor.E
/-! Equality of nodes; the words of data. -/
noncomputable def eqB {α : Type} (x y : α) : Bool := @decide (x = y) (Classical.propDecidable _)
theorem eqB_t {α : Type} {x y : α} (h : x = y) : eqB x y = true := by unfold eqB; exact @decide_eq_true _ (Classical.propDecidable _) h
theorem eqB_f {α : Type} {x y : α} (h : ¬ x = y) : eqB x y = false := by unfold eqB; exact @decide_eq_false _ (Classical.propDecidable _) h
theorem take_eq {α : Type} {a b : List α} {i : Nat} (ha : i < a.length) (hb : i < b.length) (h : a.take i = b.take i) (e : a[i] = b[i]) : a.take (i + 1) = b.take (i + 1) := by
  rw [take_snoc ha, take_snoc hb, h, e]
theorem same_loop2 {d d' : List Int} (hd : d.length ≤ 17592186044416) (hl : d.length = d'.length) : ∀ (c i : Nat), i + c = d.length → d.take i = d'.take i → capnpref01_Same_L0 (bs d) (bs d') i = ok (Bo (eqB d d')) := by
  intro c
  induction c with
  | zero =>
    intro i hi ht
    rw [List.take_of_length_le (by omega), List.take_of_length_le (by omega)] at ht
    rw [capnpref01_Same_L0_eq, decide_eq_false (by simp; omega), eqB_t ht]
    rfl
  | succ c ih =>
    intro i hi ht
    rw [capnpref01_Same_L0_eq, decide_eq_true (show (i : Int) < ((bs d).length : Int) by simp; omega), decide_eq_true (show 0 ≤ (i : Int) by omega), decide_eq_true (show (i : Int) < ((bs d').length : Int) by simp; omega)]
    dsimp only [za, zb, zc, zN, ze, zf, zg, zh, zi, zj, zu, zv, zx, zy, zL, zM, zk, zl, zm, zn, zo, zq, zr, zs, zt, zA, zC, zD, zE, zF, zG, zH, zI, zJ, zK]
    rw [Int.toNat_natCast, bs_get (l := d) (by omega)]
    dsimp only [za, zb, zc, zN, ze, zf, zg, zh, zi, zj, zu, zv, zx, zy, zL, zM, zk, zl, zm, zn, zo, zq, zr, zs, zt, zA, zC, zD, zE, zF, zG, zH, zI, zJ, zK]
    rw [bs_get (l := d') (by omega)]
    dsimp only [za, zb, zc, zN, ze, zf, zg, zh, zi, zj, zu, zv, zx, zy, zL, zM, zk, zl, zm, zn, zo, zq, zr, zs, zt, zA, zC, zD, zE, zF, zG, zH, zI, zJ, zK]
    by_cases he : d[i] = d'[i]
    · rw [show (d[i] != d'[i]) = false from by simpa using he, w64 (x := (i : Int) + 1) (by omega)]
      exact ih (i + 1) (by omega) (take_eq (by omega) (by omega) ht he)
    · rw [bne_iff_ne.2 he, eqB_f (fun h => he (by subst h; rfl))]
      rfl
theorem V_SameB {d d' : List Int} (hd : d.length ≤ 17592186044416) (hd' : d'.length ≤ 17592186044416) : ev 42 [.pv (.sl 1 (bs d)), .pv (.sl 1 (bs d'))] [] = ok (Bo (eqB d d')) := by
  rw [capnpref01_Same_eq, bs_len, bs_len]
  by_cases hl : d.length = d'.length
  · rw [show ((d.length : Int) != (d'.length : Int)) = false from by simp; omega]
    exact same_loop2 hd hl d.length 0 (by omega) (by rw [List.take_zero, List.take_zero])
  · rw [show ((d.length : Int) != (d'.length : Int)) = true from by simp; omega, eqB_f (fun h => hl (by rw [h]))]
    rfl
end Go.Proofs.YtfljialckkgacaaGreatDoor.E
set_option linter.unusedVariables false
set_option linter.unusedSimpArgs false
namespace Go.Proofs.YtfljialckkgacaaGreatDoor.E
/-! What comparing in place looks at. -/
theorem vn_null {x : Nd} (h : VN x) (hk : x.kind = 0) : x = nd0 := by
  cases h with
  | mk v1 v2 v3 =>
    rename_i k e n d ks
    have hk' : k = 0 := hk
    rcases v3 with ⟨a1, a2, a3, a4, a5⟩ | ⟨a1, _⟩ | ⟨a1, _⟩
    · rw [a1, a2, a3, List.length_eq_zero_iff.1 a4, List.length_eq_zero_iff.1 a5]; rfl
    · omega
    · omega
end Go.Proofs.YtfljialckkgacaaGreatDoor.E
set_option linter.unusedVariables false
set_option linter.unusedSimpArgs false
namespace Go.Proofs.YtfljialckkgacaaGreatDoor.E
/-! Canonical forms: what is written, and what it denotes. -/
def w8i (b : List Int) : Int := b.getD 0 0 + 256 * b.getD 1 0 + 65536 * b.getD 2 0 + 16777216 * b.getD 3 0 + 4294967296 * b.getD 4 0 + 1099511627776 * b.getD 5 0 + 281474976710656 * b.getD 6 0 + 72057594037927936 * b.getD 7 0
/-- Words out of bytes. -/
def wrdN : Nat → List Int → List Int
  | 0, _ => []
  | n + 1, b => w8i b :: wrdN n (b.drop 8)
@[simp] theorem wrdN_len : ∀ (n : Nat) (b : List Int), (wrdN n b).length = n
  | 0, _ => rfl
  | n + 1, b => by simp [wrdN, wrdN_len n]
theorem getD_byte {b : List Int} (hb : ∀ x ∈ b, Byte x) (i : Nat) : 0 ≤ b.getD i 0 ∧ b.getD i 0 ≤ 255 := by
  rw [List.getD_eq_getElem?_getD]
  by_cases h : i < b.length
  · rw [List.getElem?_eq_getElem h]; exact hb _ (List.getElem_mem h)
  · rw [List.getElem?_eq_none (by omega)]; exact ⟨by simp, by simp⟩
theorem w8i_word {b : List Int} (hb : ∀ x ∈ b, Byte x) : Word (w8i b) := by
  have h0 := getD_byte hb 0
  have h1 := getD_byte hb 1
  have h2 := getD_byte hb 2
  have h3 := getD_byte hb 3
  have h4 := getD_byte hb 4
  have h5 := getD_byte hb 5
  have h6 := getD_byte hb 6
  have h7 := getD_byte hb 7
  unfold w8i Word
  omega
theorem wrdN_word : ∀ (n : Nat) {b : List Int}, (∀ x ∈ b, Byte x) → ∀ w ∈ wrdN n b, Word w
  | 0, b, hb, w, hw => by cases hw
  | n + 1, b, hb, w, hw => by
    rw [wrdN] at hw
    rcases List.mem_cons.1 hw with rfl | hw
    · exact w8i_word hb
    · exact wrdN_word n (fun x hx => hb x (List.mem_of_mem_drop hx)) w hw
def encS (off : Int) (d q : Nat) : Int := off % 1073741824 * 4 + d * 4294967296 + q * 281474976710656
def encL (off e c : Int) : Int := off % 1073741824 * 4 + 1 + e * 4294967296 + c * 34359738368
theorem decI_encS {off : Int} {d q : Nat} (ho : -536870912 ≤ off ∧ off ≤ 536870911) (hd : d ≤ 65535) (hq : q ≤ 65535) : decI (encS off d q) = (0, off, (d : Int), (q : Int), 0, 0, false, 0, 0, 0) ∧ Word (encS off d q) ∧ encS off d q % 4 = 0 := by
  have hm := Int.emod_nonneg off (show (1073741824 : Int) ≠ 0 by decide)
  have hl := Int.emod_lt_of_pos off (show (0 : Int) < 1073741824 by decide)
  have h4 : encS off d q % 4 = 0 := by unfold encS; omega
  refine ⟨?_, ⟨by unfold encS; omega, by unfold encS; omega⟩, h4⟩
  unfold decI
  rw [if_pos h4]
  have e1 : encS off d q / 4 % 1073741824 = off % 1073741824 := by unfold encS; omega
  have e2 : encS off d q / 4294967296 % 65536 = d := by unfold encS; omega
  have e3 : encS off d q / 281474976710656 % 65536 = q := by unfold encS; omega
  rw [e1, e2, e3]
  have e4 : sgn30 (off % 1073741824) = off := by unfold sgn30; split <;> omega
  rw [e4]
theorem decI_encL {off e c : Int} (ho : -536870912 ≤ off ∧ off ≤ 536870911) (he : 0 ≤ e ∧ e ≤ 7) (hc : 0 ≤ c ∧ c ≤ 536870911) : decI (encL off e c) = (1, off, 0, 0, e, c, false, 0, 0, 0) ∧ Word (encL off e c) ∧ encL off e c % 4 = 1 := by
  have hm := Int.emod_nonneg off (show (1073741824 : Int) ≠ 0 by decide)
  have hl := Int.emod_lt_of_pos off (show (0 : Int) < 1073741824 by decide)
  have h4 : encL off e c % 4 = 1 := by unfold encL; omega
  refine ⟨?_, ⟨by unfold encL; omega, by unfold encL; omega⟩, h4⟩
  unfold decI
  rw [if_neg (by omega), if_pos h4]
  have e1 : encL off e c / 4 % 1073741824 = off % 1073741824 := by unfold encL; omega
  have e2 : encL off e c / 4294967296 % 8 = e := by unfold encL; omega
  have e3 : encL off e c / 34359738368 % 536870912 = c := by unfold encL; omega
  rw [e1, e2, e3]
  have e4 : sgn30 (off % 1073741824) = off := by unfold sgn30; split <;> omega
  rw [e4]
def uni (x : Nd) : Nat := uniD x.kids + uniP x.kids
/-- The pointer to a node. -/
def ptrI (x : Nd) (off : Int) : Int :=
  if x.kind = 0 then 0 else if x.kind = 1 then (if x.data.length / 8 = 0 ∧ x.kids.length = 0 then encS (-1) 0 0 else encS off (x.data.length / 8) x.kids.length)
  else if x.elem = 7 then encL off 7 (x.n * (uni x : Nat)) else encL off x.elem x.n
def ptrW (B : Nd → List Int) : Nat → Nat → List Nd → List Int
  | _, _, [] => []
  | i, pos, t :: r => ptrI t ((pos : Int) - i - 1) :: ptrW B (i + 1) (pos + (B t).length) r
def blen (B : Nd → List Int) (ts : List Nd) : Nat := (ts.flatMap B).length
def asmC (B : Nd → List Int) (a b : Nat) : Nat → Nat → List Nd → List Int
  | _, _, [] => []
  | i, pos, k :: r => (wrdN a k.data ++ (ptrW B (i + a) pos k.kids ++ List.replicate (b - k.kids.length) 0)) ++ asmC B a b (i + (a + b)) (pos + blen B k.kids) r
/-- An object's words. -/
def obW (B : Nd → List Int) (x : Nd) : List Int :=
  if x.kind = 1 then wrdN (x.data.length / 8) x.data ++ ptrW B (x.data.length / 8) (x.data.length / 8 + x.kids.length) x.kids
  else if x.elem = 7 then encS x.n (uniD x.kids) (uniP x.kids) :: asmC B (uniD x.kids) (uniP x.kids) 1 (1 + x.kids.length * uni x) x.kids
  else if x.elem = 6 then ptrW B 0 x.kids.length x.kids
  else wrdN (wordsOf x.elem x.n).toNat x.data
/-- The words of a node and of what it refers to. -/
def body : Nat → Nd → List Int
  | 0, _ => []
  | D + 1, x => if x.kind = 0 then [] else obW (body D) x ++ (tgt x).flatMap (body D)
/-- The canonical form. -/
def canW (D : Nat) (x : Nd) : List Int := ptrI x 0 :: body D x
@[simp] theorem ptrW_len (B : Nd → List Int) : ∀ (i pos : Nat) (l : List Nd), (ptrW B i pos l).length = l.length
  | _, _, [] => rfl
  | i, pos, t :: r => by simp [ptrW, ptrW_len B]
theorem asmC_len (B : Nd → List Int) (a b : Nat) : ∀ (i pos : Nat) (l : List Nd), (∀ k ∈ l, k.kids.length ≤ b) → (asmC B a b i pos l).length = l.length * (a + b)
  | _, _, [], _ => by simp [asmC]
  | i, pos, k :: r, h => by
    have h1 := h k List.mem_cons_self
    have h2 := asmC_len B a b (i + (a + b)) (pos + blen B k.kids) r fun x hx => h x (List.mem_cons_of_mem _ hx)
    simp only [asmC, List.length_append, wrdN_len, ptrW_len, List.length_replicate, h2, List.length_cons]
    rw [Nat.add_mul]
    omega
theorem uniP_mem {l : List Nd} {x : Nd} (h : x ∈ l) : x.kids.length ≤ uniP l := by
  unfold uniP
  induction l with
  | nil => cases h
  | cons y l ih =>
    rw [List.foldr_cons]
    rcases List.mem_cons.1 h with rfl | h
    · omega
    · have := ih h; omega
theorem obW_len (B : Nd → List Int) {x : Nd} (hv : VN x) (h0 : x.kind ≠ 0) : ((obW B x).length : Int) = objSz x := by
  obtain ⟨hs, _⟩ := vn_shp hv
  unfold obW objSz
  rw [if_neg h0]
  rcases hs with hs | hs | hs
  · exact absurd hs.1 h0
  · rw [if_pos hs.1, if_pos hs.1, List.length_append, wrdN_len, ptrW_len]
  · have hk1 : ¬ x.kind = 1 := by omega
    rw [if_neg hk1, if_neg hk1]
    by_cases h7 : x.elem = 7
    · rw [if_pos h7, if_pos h7, List.length_cons, asmC_len _ _ _ _ _ _ (fun k hk => uniP_mem hk), ← (hs.2.2.2.1 (by omega)).2]
      push_cast
      omega
    · rw [if_neg h7, if_neg h7]
      by_cases h6 : x.elem = 6
      · rw [if_pos h6, ptrW_len, h6]
        have := (hs.2.2.2.1 (by omega)).2
        unfold wordsOf bitsOf
        rw [if_neg (by decide)]
        simp
        omega
      · rw [if_neg h6, wrdN_len]
        have := (wordsOf_range (e := x.elem) hs.2.1).1
        omega
theorem sumL_len (B : Nd → List Int) (S : Nd → Int) : ∀ (l : List Nd), (∀ t ∈ l, ((B t).length : Int) = S t) → ((l.flatMap B).length : Int) = sumL (l.map S)
  | [], _ => rfl
  | t :: l, h => by
    rw [List.flatMap_cons, List.length_append, List.map_cons, sumL_cons, ← h t List.mem_cons_self, ← sumL_len B S l fun x hx => h x (List.mem_cons_of_mem _ hx)]
    push_cast
    rfl
theorem vn_tgt {x : Nd} (hv : VN x) : ∀ t ∈ tgt x, VN t := by
  obtain ⟨_, hk⟩ := vn_shp hv
  intro t ht
  unfold tgt at ht
  split at ht
  · obtain ⟨k, hk1, hk2⟩ := List.mem_flatMap.1 ht
    exact (vn_shp (hk k hk1)).2 t hk2
  · exact hk t ht
theorem objSz_null {x : Nd} (h : x.kind = 0) : objSz x = 0 := by unfold objSz; rw [if_pos h]
theorem tgt_null {x : Nd} (hv : VN x) (h : x.kind = 0) : tgt x = [] := by rw [vn_null hv h]; rfl
theorem nodSz_null {x : Nd} (hv : VN x) (h : x.kind = 0) : ∀ D, nodSz D x = 0
  | 0 => objSz_null h
  | D + 1 => by rw [nodSz, tgt_null hv h, objSz_null h]; rfl
theorem body_len : ∀ (D : Nat) {x : Nd}, VN x → Dp D x → ((body D x).length : Int) = nodSz D x
  | 0, x, hv, hd => by
    have : x.kind = 0 := hd
    rw [nodSz_null hv this]
    rfl
  | D + 1, x, hv, hd => by
    rw [body]
    by_cases h0 : x.kind = 0
    · rw [if_pos h0, nodSz_null hv h0]; rfl
    · have hd' := hd.resolve_left h0
      rw [if_neg h0, nodSz, List.length_append, ← obW_len (body D) hv h0, ← sumL_len (body D) (nodSz D) (tgt x) fun t ht => body_len D (vn_tgt hv t ht) (hd'.2 t ht)]
      push_cast
      rfl
end Go.Proofs.YtfljialckkgacaaGreatDoor.E
set_option linter.unusedVariables false
set_option linter.unusedSimpArgs false
namespace Go.Proofs.YtfljialckkgacaaGreatDoor.E
/-! What a canonical form denotes. -/
def At (W : List Int) (p : Nat) (L : List Int) : Prop := ∃ A C, W = A ++ (L ++ C) ∧ A.length = p
theorem At.app {W L M : List Int} {p : Nat} (h : At W p (L ++ M)) : At W p L ∧ At W (p + L.length) M := by
  obtain ⟨A, C, rfl, rfl⟩ := h
  exact ⟨⟨A, M ++ C, by simp, rfl⟩, ⟨A ++ L, C, by simp, by simp⟩⟩
theorem At.len {W L : List Int} {p : Nat} (h : At W p L) : p + L.length ≤ W.length := by
  obtain ⟨A, C, rfl, rfl⟩ := h
  simp
theorem rdL_one (W : List Int) : rdL [W] 0 = W := rfl
theorem At.inB {W L : List Int} {p : Nat} (h : At W p L) {n : Int} (hn : n = L.length) : inB [W] 0 p n := by
  have := h.len
  refine ⟨Int.le_refl _, by simp, by omega, by omega, ?_⟩
  rw [rdL_one]
  omega
theorem At.cutB {W L : List Int} {p : Nat} (h : At W p L) {n : Int} (hn : n = L.length) : cutB [W] 0 p n = L := by
  unfold E.cutB
  rw [if_pos (h.inB hn)]
  obtain ⟨A, C, rfl, rfl⟩ := h
  unfold cut
  rw [rdL_one, hn]
  simp
theorem At.cons {W L : List Int} {x : Int} {p : Nat} (h : At W p (x :: L)) : wd [W] 0 p = x ∧ E.inB [W] 0 p 1 ∧ At W (p + 1) L := by
  have h1 : At W p ([x] ++ L) := h
  obtain ⟨a1, a2⟩ := h1.app
  refine ⟨?_, a1.inB rfl, a2⟩
  obtain ⟨A, C, rfl, rfl⟩ := h
  unfold wd rd
  rw [rdL_one, List.getD_eq_getElem?_getD]
  simp
/-- What the traversal of a canonical form costs. -/
def ownC (x : Nd) : Int := objSz x + (if x.kind = 2 ∧ x.elem = 7 ∧ uni x = 0 then x.n else 0)
def cstN : Nat → Nd → Int
  | 0, _ => 0
  | D + 1, x => if x.kind = 0 then 0 else ownC x + sumL ((tgt x).map (cstN D))
theorem ownC_nn {x : Nd} (hv : VN x) : 0 ≤ ownC x := by
  have := objSz_nn hv
  obtain ⟨hs, _⟩ := vn_shp hv
  unfold ownC
  split
  · rename_i h
    rcases hs with hs | hs | hs
    · omega
    · omega
    · omega
  · omega
theorem cstN_nn : ∀ (D : Nat) {x : Nd}, VN x → 0 ≤ cstN D x
  | 0, x, _ => Int.le_refl _
  | D + 1, x, hv => by
    rw [cstN]
    split
    · exact Int.le_refl _
    · have := ownC_nn hv
      have := sumL_nn (l := (tgt x).map (cstN D)) fun y hy => by
        obtain ⟨t, ht, rfl⟩ := List.mem_map.1 hy
        exact cstN_nn D (vn_tgt hv t ht)
      omega
/-- A node that may be written. -/
structure Ok (D : Nat) (t : Nd) : Prop where
  vn : VN t
  tr : TrN t
  gd : good t
  dp : Dp D t
section
variable {W : List Int} {F : Int → Int → Int → Nd × Int × Int} {B : Nd → List Int} {c : Nd → Int} {Q : Nd → Prop}
end
end Go.Proofs.YtfljialckkgacaaGreatDoor.E
set_option linter.unusedVariables false
set_option linter.unusedSimpArgs false
namespace Go.Proofs.YtfljialckkgacaaGreatDoor.E
/-! The canonical form denotes the node. -/
theorem sumL_flat (c : Nd → Int) : ∀ l : List Nd, sumL ((l.flatMap Nd.kids).map c) = sumL (l.map fun k => sumL (k.kids.map c))
  | [] => rfl
  | k :: l => by rw [List.flatMap_cons, List.map_append, sumL_app, List.map_cons, sumL_cons, sumL_flat c l]
theorem flat_flat (B : Nd → List Int) : ∀ l : List Nd, (l.flatMap Nd.kids).flatMap B = l.flatMap fun k => k.kids.flatMap B
  | [] => rfl
  | k :: l => by rw [List.flatMap_cons, List.flatMap_append, List.flatMap_cons, flat_flat B l]
theorem ok_tgt {D : Nat} {x : Nd} (h : Ok (D + 1) x) (h0 : x.kind ≠ 0) : ∀ t ∈ tgt x, Ok D t := by
  have hd := h.dp.resolve_left h0
  intro t ht
  refine ⟨vn_tgt h.vn t ht, ?_, good_tgt h.gd t ht, hd.2 t ht⟩
  have htr := h.tr
  have tk : ∀ {y : Nd}, TrN y → ∀ z ∈ y.kids, TrN z := fun hy => by
    cases hy with
    | mk t1 t2 => exact t2
  unfold tgt at ht
  split at ht
  · obtain ⟨k, hk1, hk2⟩ := List.mem_flatMap.1 ht
    exact tk (tk htr k hk1) t hk2
  · exact tk htr t ht
theorem ownC_mk (k e n : Int) (d : List Int) (ks : List Nd) : ownC (.mk k e n d ks) = objSz (.mk k e n d ks) + (if k = 2 ∧ e = 7 ∧ uniD ks + uniP ks = 0 then n else 0) := rfl
/-- A well-formed trimmed struct. -/
theorem st_parts {k : Nd} (hv : VN k) (ht : TrN k) (hg : good k) (h1 : k.kind = 1) : ∃ d q, k = .mk 1 0 0 d q ∧ 8 * wordsT d = d.length ∧ ptrsT q = q.length ∧ (∀ x ∈ d, Byte x) ∧ d.length % 8 = 0 ∧ d.length ≤ 524280 ∧ q.length ≤ 65535 := by
  cases hv with
  | mk v1 v2 v3 =>
    rename_i k e n d ks
    have h1' : k = 1 := h1
    subst h1'
    rcases v3 with ⟨a1, _⟩ | ⟨_, a2, a3, a4, a5, a6⟩ | ⟨a1, _⟩
    · omega
    · subst a2; subst a3
      cases ht with
      | mk t1 t2 =>
        rw [good] at hg
        exact ⟨d, ks, rfl, (t1 rfl).1, (t1 rfl).2, hg.1.2.1, a4, a5, a6⟩
    · omega
theorem bytes_words {e n : Int} (he : 0 ≤ e ∧ e < 6) (hn : 0 ≤ n ∧ n ≤ 536870911) : bytesN e n ≤ 8 * wordsOf e n := by
  have h := bits_mul (e := e) hn
  unfold bytesN wordsOf
  rw [if_neg (by omega)]
  omega
end Go.Proofs.YtfljialckkgacaaGreatDoor.E
set_option linter.unusedVariables false
set_option linter.unusedSimpArgs false
namespace Go.Proofs.YtfljialckkgacaaGreatDoor.E
/-! Words encoded. -/
theorem and_high {w i m : Nat} (hw : w < 2 ^ i) (h : i + m ≤ 64) : w &&& (2 ^ 64 - 1 - (2 ^ m - 1) * 2 ^ i) = w := by
  have hk : 2 ^ 64 = 2 ^ (64 - i) * 2 ^ i := by rw [← Nat.pow_add]; congr 1; omega
  have hmi : 2 ^ m ≤ 2 ^ (64 - i) := Nat.pow_le_pow_right (by decide) (by omega)
  have hi : 0 < 2 ^ i := Nat.pow_pos (by decide)
  have hm : 0 < 2 ^ m := Nat.pow_pos (by decide)
  have e : 2 ^ 64 - 1 - (2 ^ m - 1) * 2 ^ i = 2 ^ i * (2 ^ (64 - i) - 2 ^ m) + (2 ^ i - 1) := by
    have h2 : 2 ^ m * 2 ^ i ≤ 2 ^ (64 - i) * 2 ^ i := Nat.mul_le_mul_right _ hmi
    rw [hk, Nat.sub_mul, Nat.one_mul, Nat.mul_sub, Nat.mul_comm (2 ^ i) (2 ^ (64 - i)), Nat.mul_comm (2 ^ i) (2 ^ m)]
    have h3 : 2 ^ i ≤ 2 ^ m * 2 ^ i := Nat.le_mul_of_pos_left _ hm
    omega
  rw [e]
  apply Nat.eq_of_testBit_eq
  intro j
  rw [Nat.testBit_and, Nat.testBit_two_pow_mul_add _ (by omega)]
  by_cases hj : j < i
  · rw [if_pos hj, Nat.testBit_two_pow_sub_one, decide_eq_true hj, Bool.and_true]
  · rw [if_neg hj]
    have : w.testBit j = false := Nat.testBit_lt_two_pow (Nat.lt_of_lt_of_le hw (Nat.pow_le_pow_right (by decide) (by omega)))
    rw [this, Bool.false_and]
theorem and_mid {v i m : Nat} (h : i + m ≤ 64) : (v * 2 ^ i % 2 ^ 64) &&& ((2 ^ m - 1) * 2 ^ i) = v % 2 ^ m * 2 ^ i := by
  apply Nat.eq_of_testBit_eq
  intro j
  rw [Nat.testBit_and, Nat.testBit_mod_two_pow, Nat.mul_comm v, Nat.mul_comm (2 ^ m - 1), Nat.mul_comm (v % 2 ^ m), Nat.testBit_two_pow_mul, Nat.testBit_two_pow_mul, Nat.testBit_two_pow_mul, Nat.testBit_two_pow_sub_one, Nat.testBit_mod_two_pow]
  by_cases h1 : j ≥ i
  · by_cases h2 : j - i < m
    · rw [decide_eq_true h1, decide_eq_true h2, decide_eq_true (show j < 64 by omega)]; simp
    · rw [decide_eq_false h2]; simp
  · rw [decide_eq_false h1]; simp
theorem V_Insert {w v i m : Nat} (hw : w < 2 ^ i) (hv : v < 2 ^ 64) (h1 : 1 ≤ m) (h2 : i + m ≤ 64) : ev 119 [.pv (U (w : Int)), .pv (I (i : Int)), .pv (I (m : Int)), .pv (U (v : Int))] [] = ok (U ((w + v % 2 ^ m * 2 ^ i : Nat) : Int)) := by
  have hk : 2 ^ 64 = 2 ^ (64 - i) * 2 ^ i := by rw [← Nat.pow_add]; congr 1; omega
  have hmi : 2 ^ m ≤ 2 ^ (64 - i) := Nat.pow_le_pow_right (by decide) (by omega)
  have hi : 0 < 2 ^ i := Nat.pow_pos (by decide)
  have hm : 0 < 2 ^ m := Nat.pow_pos (by decide)
  have h64 : 2 ^ m * 2 ^ i ≤ 2 ^ 64 := by rw [hk]; exact Nat.mul_le_mul_right _ hmi
  have hM : (2 ^ m - 1) * 2 ^ i < 2 ^ 64 := by
    rw [Nat.sub_mul, Nat.one_mul]
    have h3 : 2 ^ i ≤ 2 ^ m * 2 ^ i := Nat.le_mul_of_pos_left _ hm
    omega
  have hw64 : w < 2 ^ 64 := Nat.lt_of_lt_of_le hw (Nat.pow_le_pow_right (by decide) (by omega))
  have hx : v % 2 ^ m * 2 ^ i < 2 ^ 64 := by
    have := Nat.mod_lt v hm
    have : v % 2 ^ m * 2 ^ i ≤ (2 ^ m - 1) * 2 ^ i := Nat.mul_le_mul_right _ (by omega)
    omega
  rw [word_Insert_eq, V_mask m h1 (by omega), wu_nat (n := i) (by omega)]
  dsimp only [za, zb, zc, zN, ze, zf, zg, zh, zi, zj, zu, zv, zx, zy, zL, zM, zk, zl, zm, zn, zo, zq, zr, zs, zt, zA, zC, zD, zE, zF, zG, zH, zI, zJ, zK]
  have hmin : min (i : Int).toNat 64 = i := by rw [Int.toNat_natCast, Nat.min_eq_left (by omega)]
  have ei : (2 : Int) ^ i = ((2 ^ i : Nat) : Int) := by push_cast; rfl
  have eM : IntKind.wrap .u64 (((2 ^ m - 1 : Nat) : Int) * 2 ^ i) = (((2 ^ m - 1) * 2 ^ i : Nat) : Int) := by
    rw [ei, ← Int.natCast_mul]; exact wu_nat hM
  have eV : IntKind.wrap .u64 ((v : Int) * 2 ^ i) = ((v * 2 ^ i % 2 ^ 64 : Nat) : Int) := by
    rw [wu64_any, ei, ← Int.natCast_mul]
    have : (18446744073709551616 : Int) = ((2 ^ 64 : Nat) : Int) := rfl
    rw [this, ← Int.natCast_emod]
  rw [hmin, eM, eV]
  have e1 : (BitVec.ofInt 64 (w : Int) &&& ~~~BitVec.ofInt 64 (((2 ^ m - 1) * 2 ^ i : Nat) : Int)).toNat = w := by
    rw [BitVec.toNat_and, BitVec.toNat_not, ofInt_toNat hw64, ofInt_toNat hM, and_high hw h2]
  have e2 : (BitVec.ofInt 64 ((v * 2 ^ i % 2 ^ 64 : Nat) : Int) &&& BitVec.ofInt 64 (((2 ^ m - 1) * 2 ^ i : Nat) : Int)).toNat = v % 2 ^ m * 2 ^ i := by
    rw [BitVec.toNat_and, ofInt_toNat (Nat.mod_lt _ (by decide)), ofInt_toNat hM, and_mid h2]
  rw [e1, e2, wu_nat hw64, wu_nat hx]
  have e3 : (BitVec.ofInt 64 (w : Int) ||| BitVec.ofInt 64 ((v % 2 ^ m * 2 ^ i : Nat) : Int)).toNat = w + v % 2 ^ m * 2 ^ i := by
    rw [BitVec.toNat_or, ofInt_toNat hw64, ofInt_toNat hx, Nat.or_comm, Nat.mul_comm, ← Nat.two_pow_add_eq_or_of_lt hw]
    omega
  have hs : w + v % 2 ^ m * 2 ^ i < 2 ^ 64 := by
    have h3 : v % 2 ^ m * 2 ^ i ≤ (2 ^ m - 1) * 2 ^ i := Nat.mul_le_mul_right _ (by have := Nat.mod_lt v hm; omega)
    have h4 : (2 ^ m - 1) * 2 ^ i + 2 ^ i ≤ 2 ^ 64 := by
      rw [Nat.sub_mul, Nat.one_mul]
      have h3 : 2 ^ i ≤ 2 ^ m * 2 ^ i := Nat.le_mul_of_pos_left _ hm
      omega
    omega
  rw [e3, wu_nat hs]
  simp [okBin]
theorem V_InsertI {w v : Int} {i m : Nat} (hw : 0 ≤ w ∧ w < 2 ^ i) (hv : 0 ≤ v ∧ v < 18446744073709551616) (h1 : 1 ≤ m) (h2 : i + m ≤ 64) : ev 119 [.pv (U w), .pv (I (i : Int)), .pv (I (m : Int)), .pv (U v)] [] = ok (U (w + v % 2 ^ m * 2 ^ i)) := by
  obtain ⟨a, rfl⟩ := Int.eq_ofNat_of_zero_le hw.1
  obtain ⟨b, rfl⟩ := Int.eq_ofNat_of_zero_le hv.1
  have hw' : a < 2 ^ i := by have := hw.2; exact_mod_cast this
  have hv' : b < 2 ^ 64 := by have := hv.2; omega
  rw [V_Insert hw' hv' h1 h2]
  push_cast
  rfl
theorem V_pack0 {off : Int} {d q : Nat} (hd : d ≤ 65535) (hq : q ≤ 65535) : ev 99 [.pv (.agg [I 0, I off, I d, I q, I 0, I 0, Bo false, I 0, U32 0, U32 0])] [] = ok (U (encS off d q)) := by
  have hm := Int.emod_nonneg off (show (1073741824 : Int) ≠ 0 by decide)
  have hl := Int.emod_lt_of_pos off (show (0 : Int) < 1073741824 by decide)
  have i1 := V_InsertI (w := 0) (v := 0) (i := 0) (m := 2) (by decide) (by decide) (by decide) (by decide)
  have i2 := V_InsertI (w := 0) (v := off % 18446744073709551616) (i := 2) (m := 30) (by decide) (by omega) (by decide) (by decide)
  have e2 : (0 : Int) + off % 18446744073709551616 % 2 ^ 30 * 2 ^ 2 = off % 1073741824 * 4 := by omega
  rw [e2] at i2
  have i3 := V_InsertI (w := off % 1073741824 * 4) (v := d) (i := 32) (m := 16) (by omega) (by omega) (by decide) (by decide)
  have e3 : off % 1073741824 * 4 + (d : Int) % 2 ^ 16 * 2 ^ 32 = off % 1073741824 * 4 + d * 4294967296 := by omega
  rw [e3] at i3
  have i4 := V_InsertI (w := off % 1073741824 * 4 + d * 4294967296) (v := q) (i := 48) (m := 16) (by omega) (by omega) (by decide) (by decide)
  have e4 : off % 1073741824 * 4 + d * 4294967296 + (q : Int) % 2 ^ 16 * 2 ^ 48 = encS off d q := by unfold encS; omega
  rw [e4] at i4
  rw [pointer_pack_eq, show IntKind.wrap .u64 0 = 0 from rfl, show ev 119 [.pv (U 0), .pv (I 0), .pv (I 2), .pv (U 0)] [] = ok (U 0) from i1]
  dsimp only [za, zb, zc, zN, ze, zf, zg, zh, zi, zj, zu, zv, zx, zy, zL, zM, zk, zl, zm, zn, zo, zq, zr, zs, zt, zA, zC, zD, zE, zF, zG, zH, zI, zJ, zK]
  rw [show ((0 : Int) == 0) = true from rfl, wu64_any off]
  dsimp only [za, zb, zc, zN, ze, zf, zg, zh, zi, zj, zu, zv, zx, zy, zL, zM, zk, zl, zm, zn, zo, zq, zr, zs, zt, zA, zC, zD, zE, zF, zG, zH, zI, zJ, zK]
  rw [show ev 119 [.pv (U 0), .pv (I 2), .pv (I 30), .pv (U (off % 18446744073709551616))] [] = ok (U (off % 1073741824 * 4)) from i2]
  dsimp only [za, zb, zc, zN, ze, zf, zg, zh, zi, zj, zu, zv, zx, zy, zL, zM, zk, zl, zm, zn, zo, zq, zr, zs, zt, zA, zC, zD, zE, zF, zG, zH, zI, zJ, zK]
  rw [wu64 (x := (d : Int)) (by omega), show ev 119 [.pv (U (off % 1073741824 * 4)), .pv (I 32), .pv (I 16), .pv (U d)] [] = ok (U (off % 1073741824 * 4 + d * 4294967296)) from i3]
  dsimp only [za, zb, zc, zN, ze, zf, zg, zh, zi, zj, zu, zv, zx, zy, zL, zM, zk, zl, zm, zn, zo, zq, zr, zs, zt, zA, zC, zD, zE, zF, zG, zH, zI, zJ, zK]
  rw [wu64 (x := (q : Int)) (by omega), show ev 119 [.pv (U (off % 1073741824 * 4 + d * 4294967296)), .pv (I 48), .pv (I 16), .pv (U q)] [] = ok (U (encS off d q)) from i4]
  rfl
theorem V_pack1 {off e c : Int} (he : 0 ≤ e ∧ e ≤ 7) (hc : 0 ≤ c ∧ c ≤ 536870911) : ev 99 [.pv (.agg [I 1, I off, I 0, I 0, I e, I c, Bo false, I 0, U32 0, U32 0])] [] = ok (U (encL off e c)) := by
  have hm := Int.emod_nonneg off (show (1073741824 : Int) ≠ 0 by decide)
  have hl := Int.emod_lt_of_pos off (show (0 : Int) < 1073741824 by decide)
  have i1 := V_InsertI (w := 0) (v := 1) (i := 0) (m := 2) (by decide) (by decide) (by decide) (by decide)
  have i2 := V_InsertI (w := 1) (v := off % 18446744073709551616) (i := 2) (m := 30) (by decide) (by omega) (by decide) (by decide)
  have e2 : (1 : Int) + off % 18446744073709551616 % 2 ^ 30 * 2 ^ 2 = off % 1073741824 * 4 + 1 := by omega
  rw [e2] at i2
  have i3 := V_InsertI (w := off % 1073741824 * 4 + 1) (v := e) (i := 32) (m := 3) (by omega) (by omega) (by decide) (by decide)
  have e3 : off % 1073741824 * 4 + 1 + e % 2 ^ 3 * 2 ^ 32 = off % 1073741824 * 4 + 1 + e * 4294967296 := by omega
  rw [e3] at i3
  have i4 := V_InsertI (w := off % 1073741824 * 4 + 1 + e * 4294967296) (v := c) (i := 35) (m := 29) (by omega) (by omega) (by decide) (by decide)
  have e4 : off % 1073741824 * 4 + 1 + e * 4294967296 + c % 2 ^ 29 * 2 ^ 35 = encL off e c := by unfold encL; omega
  rw [e4] at i4
  rw [pointer_pack_eq, show IntKind.wrap .u64 1 = 1 from rfl, show ev 119 [.pv (U 0), .pv (I 0), .pv (I 2), .pv (U 1)] [] = ok (U 1) from i1]
  dsimp only [za, zb, zc, zN, ze, zf, zg, zh, zi, zj, zu, zv, zx, zy, zL, zM, zk, zl, zm, zn, zo, zq, zr, zs, zt, zA, zC, zD, zE, zF, zG, zH, zI, zJ, zK]
  rw [show ((1 : Int) == 0) = false from rfl, show ((1 : Int) == 1) = true from rfl, wu64_any off]
  dsimp only [za, zb, zc, zN, ze, zf, zg, zh, zi, zj, zu, zv, zx, zy, zL, zM, zk, zl, zm, zn, zo, zq, zr, zs, zt, zA, zC, zD, zE, zF, zG, zH, zI, zJ, zK]
  rw [show ev 119 [.pv (U 1), .pv (I 2), .pv (I 30), .pv (U (off % 18446744073709551616))] [] = ok (U (off % 1073741824 * 4 + 1)) from i2]
  dsimp only [za, zb, zc, zN, ze, zf, zg, zh, zi, zj, zu, zv, zx, zy, zL, zM, zk, zl, zm, zn, zo, zq, zr, zs, zt, zA, zC, zD, zE, zF, zG, zH, zI, zJ, zK]
  rw [wu64 (x := e) (by omega), show ev 119 [.pv (U (off % 1073741824 * 4 + 1)), .pv (I 32), .pv (I 3), .pv (U e)] [] = ok (U (off % 1073741824 * 4 + 1 + e * 4294967296)) from i3]
  dsimp only [za, zb, zc, zN, ze, zf, zg, zh, zi, zj, zu, zv, zx, zy, zL, zM, zk, zl, zm, zn, zo, zq, zr, zs, zt, zA, zC, zD, zE, zF, zG, zH, zI, zJ, zK]
  rw [wu64 (x := c) (by omega), show ev 119 [.pv (U (off % 1073741824 * 4 + 1 + e * 4294967296)), .pv (I 35), .pv (I 29), .pv (U c)] [] = ok (U (encL off e c)) from i4]
  rfl
theorem eq10 {a1 a2 a3 a4 a5 a6 a7 a8 a9 : Int} {b : Bool} : eqCells [false, false, false, false, false, false, true, false, false, false] [I a1, I a2, I a3, I a4, I a5, I a6, Bo b, I a7, U32 a8, U32 a9] [I a1, I a2, I a3, I a4, I a5, I a6, Bo b, I a7, U32 a8, U32 a9] = some true := by
  simp [eqCells]
theorem V_Encode0 {off : Int} {d q : Nat} (ho : -536870912 ≤ off ∧ off ≤ 536870911) (hd : d ≤ 65535) (hq : q ≤ 65535) : ev 78 [.pv (.agg [I 0, I off, I d, I q, I 0, I 0, Bo false, I 0, U32 0, U32 0])] [] = ok (.tup [U (encS off d q), Bo true]) := by
  have hp := V_pack0 (off := off) hd hq
  obtain ⟨q1, q2, q3⟩ := decI_encS ho hd hq
  rw [pointer_Encode_eq, pointer_Valid_eq, hp]
  dsimp only [za, zb, zc, zN, ze, zf, zg, zh, zi, zj, zu, zv, zx, zy, zL, zM, zk, zl, zm, zn, zo, zq, zr, zs, zt, zA, zC, zD, zE, zF, zG, zH, zI, zJ, zK]
  rw [V_Decode q2, q1]
  dsimp only [ptc, za, zb, zc, zN, ze, zf, zg, zh, zi, zj, zu, zv, zx, zy, zL, zM, zk, zl, zm, zn, zo, zq, zr, zs, zt, zA, zC, zD, zE, zF, zG, zH, zI, zJ, zK]
  rw [eq10]
  rfl
theorem V_Encode1 {off e c : Int} (ho : -536870912 ≤ off ∧ off ≤ 536870911) (he : 0 ≤ e ∧ e ≤ 7) (hc : 0 ≤ c ∧ c ≤ 536870911) : ev 78 [.pv (.agg [I 1, I off, I 0, I 0, I e, I c, Bo false, I 0, U32 0, U32 0])] [] = ok (.tup [U (encL off e c), Bo true]) := by
  have hp := V_pack1 (off := off) he hc
  obtain ⟨q1, q2, q3⟩ := decI_encL ho he hc
  rw [pointer_Encode_eq, pointer_Valid_eq, hp]
  dsimp only [za, zb, zc, zN, ze, zf, zg, zh, zi, zj, zu, zv, zx, zy, zL, zM, zk, zl, zm, zn, zo, zq, zr, zs, zt, zA, zC, zD, zE, zF, zG, zH, zI, zJ, zK]
  rw [V_Decode q2, q1]
  dsimp only [ptc, za, zb, zc, zN, ze, zf, zg, zh, zi, zj, zu, zv, zx, zy, zL, zM, zk, zl, zm, zn, zo, zq, zr, zs, zt, zA, zC, zD, zE, zF, zG, zH, zI, zJ, zK]
  rw [eq10]
  rfl
theorem V_roff {off : Int} (ho : -536870912 ≤ off ∧ off ≤ 536870911) : ev 121 [.pv (I off)] [] = ok (Bo true) := by
  rw [capnpref02_offset_eq, decide_eq_true (show off ≥ -536870912 by omega), decide_eq_true ho.2]
  rfl
theorem V_rEncode0 {off : Int} {d q : Nat} (ho : -536870912 ≤ off ∧ off ≤ 536870911) (hd : d ≤ 65535) (hq : q ≤ 65535) : ev 80 [.pv (.agg [I 0, I off, I d, I q, I 0, I 0, Bo false, I 0, U32 0, U32 0])] [] = ok (.tup [U (encS off d q), Bo true]) := by
  rw [capnpref02_Encode_eq, capnpref02_Valid_eq, V_roff ho]
  dsimp only [za, zb, zc, zN, ze, zf, zg, zh, zi, zj, zu, zv, zx, zy, zL, zM, zk, zl, zm, zn, zo, zq, zr, zs, zt, zA, zC, zD, zE, zF, zG, zH, zI, zJ, zK]
  rw [show ((0 : Int) == 0) = true from rfl, beq_self_eq_true off, beq_self_eq_true (d : Int), beq_self_eq_true (q : Int), decide_eq_true (show (d : Int) ≥ 0 by omega), decide_eq_true (show (d : Int) ≤ 65535 by omega), decide_eq_true (show (q : Int) ≥ 0 by omega), decide_eq_true (show (q : Int) ≤ 65535 by omega)]
  dsimp only [za, zb, zc, zN, ze, zf, zg, zh, zi, zj, zu, zv, zx, zy, zL, zM, zk, zl, zm, zn, zo, zq, zr, zs, zt, zA, zC, zD, zE, zF, zG, zH, zI, zJ, zK]
  rw [show IntKind.wrap .u64 0 = 0 from rfl, wu64 (x := (d : Int)) (by omega), wu64 (x := (q : Int)) (by omega)]
  by_cases hn : off < 0
  · rw [decide_eq_true hn]
    have e : off % 1073741824 = off + 1073741824 := by omega
    rw [w64 (x := off + 1073741824) (by omega), wu64 (x := off + 1073741824) (by omega), wu64 (x := 4 * (off + 1073741824)) (by omega), wu64 (x := 0 + 4 * (off + 1073741824)) (by omega), wu64 (x := 4294967296 * (d : Int)) (by omega), wu64 (x := 0 + 4 * (off + 1073741824) + 4294967296 * (d : Int)) (by omega), wu64 (x := 281474976710656 * (q : Int)) (by omega), wu64 (x := 0 + 4 * (off + 1073741824) + 4294967296 * (d : Int) + 281474976710656 * (q : Int)) (by omega)]
    rw [show encS off d q = 0 + 4 * (off + 1073741824) + 4294967296 * (d : Int) + 281474976710656 * (q : Int) by unfold encS; omega]
    rfl
  · rw [decide_eq_false hn]
    have e : off % 1073741824 = off := by omega
    rw [wu64 (x := off) (by omega), wu64 (x := 4 * off) (by omega), wu64 (x := 0 + 4 * off) (by omega), wu64 (x := 4294967296 * (d : Int)) (by omega), wu64 (x := 0 + 4 * off + 4294967296 * (d : Int)) (by omega), wu64 (x := 281474976710656 * (q : Int)) (by omega), wu64 (x := 0 + 4 * off + 4294967296 * (d : Int) + 281474976710656 * (q : Int)) (by omega)]
    rw [show encS off d q = 0 + 4 * off + 4294967296 * (d : Int) + 281474976710656 * (q : Int) by unfold encS; omega]
    rfl
theorem V_rEncode1 {off e c : Int} (ho : -536870912 ≤ off ∧ off ≤ 536870911) (he : 0 ≤ e ∧ e ≤ 7) (hc : 0 ≤ c ∧ c ≤ 536870911) : ev 80 [.pv (.agg [I 1, I off, I 0, I 0, I e, I c, Bo false, I 0, U32 0, U32 0])] [] = ok (.tup [U (encL off e c), Bo true]) := by
  rw [capnpref02_Encode_eq, capnpref02_Valid_eq, V_roff ho]
  dsimp only [za, zb, zc, zN, ze, zf, zg, zh, zi, zj, zu, zv, zx, zy, zL, zM, zk, zl, zm, zn, zo, zq, zr, zs, zt, zA, zC, zD, zE, zF, zG, zH, zI, zJ, zK]
  rw [show ((1 : Int) == 0) = false from rfl, show ((1 : Int) == 1) = true from rfl, beq_self_eq_true off, beq_self_eq_true e, beq_self_eq_true c, show ((0 : Int) == 0) = true from rfl, decide_eq_true (show e ≥ 0 by omega), decide_eq_true he.2, decide_eq_true (show c ≥ 0 by omega), decide_eq_true hc.2]
  dsimp only [za, zb, zc, zN, ze, zf, zg, zh, zi, zj, zu, zv, zx, zy, zL, zM, zk, zl, zm, zn, zo, zq, zr, zs, zt, zA, zC, zD, zE, zF, zG, zH, zI, zJ, zK]
  rw [show IntKind.wrap .u64 1 = 1 from rfl, wu64 (x := e) (by omega), wu64 (x := c) (by omega)]
  by_cases hn : off < 0
  · rw [decide_eq_true hn]
    have e' : off % 1073741824 = off + 1073741824 := by omega
    rw [w64 (x := off + 1073741824) (by omega), wu64 (x := off + 1073741824) (by omega), wu64 (x := 4 * (off + 1073741824)) (by omega), wu64 (x := 1 + 4 * (off + 1073741824)) (by omega), wu64 (x := 4294967296 * e) (by omega), wu64 (x := 1 + 4 * (off + 1073741824) + 4294967296 * e) (by omega), wu64 (x := 34359738368 * c) (by omega), wu64 (x := 1 + 4 * (off + 1073741824) + 4294967296 * e + 34359738368 * c) (by omega)]
    rw [show encL off e c = 1 + 4 * (off + 1073741824) + 4294967296 * e + 34359738368 * c by unfold encL; omega]
    rfl
  · rw [decide_eq_false hn]
    have e' : off % 1073741824 = off := by omega
    rw [wu64 (x := off) (by omega), wu64 (x := 4 * off) (by omega), wu64 (x := 1 + 4 * off) (by omega), wu64 (x := 4294967296 * e) (by omega), wu64 (x := 1 + 4 * off + 4294967296 * e) (by omega), wu64 (x := 34359738368 * c) (by omega), wu64 (x := 1 + 4 * off + 4294967296 * e + 34359738368 * c) (by omega)]
    rw [show encL off e c = 1 + 4 * off + 4294967296 * e + 34359738368 * c by unfold encL; omega]
    rfl
end Go.Proofs.YtfljialckkgacaaGreatDoor.E
