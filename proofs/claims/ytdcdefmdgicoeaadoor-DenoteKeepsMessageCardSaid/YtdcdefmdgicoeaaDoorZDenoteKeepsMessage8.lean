/- This text is one of those that prove the law DenoteKeepsMessage of the given program, as its statement says it: true on every input that the statement covers. Its conditions are the statement's own. -/
import Derived.Test.YtdcdefmdgicoeaaDoorZDenoteKeepsMessage1
import Derived.Test.YtdcdefmdgicoeaaDoorZDenoteKeepsMessage2
import Derived.Test.YtdcdefmdgicoeaaDoorZDenoteKeepsMessage3
import Derived.Test.YtdcdefmdgicoeaaDoorZDenoteKeepsMessage4
import Derived.Test.YtdcdefmdgicoeaaDoorZDenoteKeepsMessage5
import Derived.Test.YtdcdefmdgicoeaaDoorZDenoteKeepsMessage6
import Derived.Test.YtdcdefmdgicoeaaDoorZDenoteKeepsMessage7
set_option linter.unusedVariables false
set_option linter.unusedSimpArgs false
set_option linter.unusedVariables false
set_option linter.unusedSimpArgs false
namespace Go.Proofs.YtdcdefmdgicoeaaDoor.E
/-! Segments. -/
/-- A range that is in bounds. -/
def inB (l : List (List Int)) (s a n : Int) : Prop := 0 ≤ s ∧ s < (l.length : Int) ∧ 0 ≤ a ∧ 0 ≤ n ∧ a + n ≤ ((rdL l s).length : Int)
instance (l : List (List Int)) (s a n : Int) : Decidable (inB l s a n) := by unfold inB; infer_instance
theorem V_InBounds {l : List (List Int)} (h : Segs l) (s a n : Int) :
    ev 50 [.pv (.sl 1 (sgs l)), .pv (.v (.int .i64 s)), .pv (.v (.int .i64 a)), .pv (.v (.int .i64 n))] [] = some (.ret (.pv (.v (.bool (decide (inB l s a n))))), []) := by
  have hw := (rdL_words h s).1
  rw [arena_InBounds_eq]
  simp only [cond_dec, sgs_len]
  by_cases h1 : 0 ≤ s ∧ s < (l.length : Int)
  · rw [if_pos h1.1, if_pos h1.2]
    simp only [sgs_rd h1.1 h1.2, h1.1, h1.2, decide_true, Bool.and_self, cond_true, Option.bind_some, cells_sl, List.getElem?_cons_zero, pSl_v, ws_len]
    by_cases h2 : 0 ≤ a ∧ 0 ≤ n ∧ a ≤ ((rdL l s).length : Int)
    · rw [if_pos h2.1, if_pos h2.2.1, if_pos h2.2.2, w64 (by omega)]
      rw [show decide (n ≤ ((rdL l s).length : Int) - a) = decide (inB l s a n) from decide_eq_decide.2 (by unfold inB; omega)]
    · rw [show decide (inB l s a n) = false from decide_eq_false (by unfold inB; omega)]
      repeat' split
      all_goals first
        | rfl
        | (exfalso; omega)
  · rw [show decide (inB l s a n) = false from decide_eq_false (by unfold inB; omega)]
    repeat' split
    all_goals first
      | rfl
      | (exfalso; omega)
theorem V_Word {l : List (List Int)} (h : Segs l) (s a : Int) :
    ev 37 [.pv (.sl 1 (sgs l)), .pv (.v (.int .i64 s)), .pv (.v (.int .i64 a))] [] =
      some (.ret (.pv (.tup (if inB l s a 1 then [.v (.int .u64 (rd (rdL l s) a)), .v (.bool true)] else [.v (.int .u64 0), .v (.bool false)]))), []) := by
  rw [arena_Word_eq, V_InBounds h]
  by_cases hb : inB l s a 1
  · have hb' := hb
    obtain ⟨h1, h2, h3, h4, h5⟩ := hb'
    rw [if_pos hb]
    simp [-getElem?_pos, List.getElem?_cons_zero, List.getElem?_cons_succ, cond_dec, cond_beq, cond_bne, cond_and, hb, h1, h2, h3, sgs_rd h1 h2, ws_rd h3 (show a < (rdL l s).length by omega), show a < (rdL l s).length by omega]
  · rw [if_neg hb]
    simp [hb]
/-- The words of a range. -/
def cut (l : List (List Int)) (s a n : Int) : List Int := ((rdL l s).drop a.toNat).take n.toNat
theorem cut_len {l : List (List Int)} {s a n : Int} (h : inB l s a n) : (cut l s a n).length = n.toNat := by
  obtain ⟨h1, h2, h3, h4, h5⟩ := h
  simp [cut]; omega
theorem V_Slice {l : List (List Int)} (h : Segs l) (s a n : Int) (hn : n ≤ 17592186044416) :
    ev 53 [.pv (.sl 1 (sgs l)), .pv (.v (.int .i64 s)), .pv (.v (.int .i64 a)), .pv (.v (.int .i64 n))] [] =
      some (.ret (.pv (.tup (if inB l s a n then [.sl 1 (ws (cut l s a n)), .v (.bool true)] else [.sl 1 [], .v (.bool false)]))), []) := by
  rw [arena_Slice_eq, V_InBounds h]
  by_cases hb : inB l s a n
  · have hb' := hb
    obtain ⟨h1, h2, h3, h4, h5⟩ := hb'
    rw [if_pos hb]
    have hr : roomy n.toNat 8 = true := by simp [roomy]; omega
    have e : List.take n.toNat (List.drop a.toNat (ws (rdL l s))) = ws (cut l s a n) := by simp [ws, cut, List.map_take, List.map_drop]
    have hle : a.toNat ≤ (rdL l s).length := by omega
    have hz : n.toNat - ((rdL l s).length - a.toNat) = 0 := by omega
    simp [-getElem?_pos, List.getElem?_cons_zero, List.getElem?_cons_succ, cond_dec, cond_beq, cond_bne, cond_and, hb, h1, h2, h3, h4, sgs_rd h1 h2, hr, show a ≤ (rdL l s).length by omega, show n ≤ 140737488355328 by omega, List.take_of_length_le, e, hz]
  · rw [if_neg hb]
    simp [hb]
end Go.Proofs.YtdcdefmdgicoeaaDoor.E
set_option linter.unusedVariables false
set_option linter.unusedSimpArgs false
namespace Go.Proofs.YtdcdefmdgicoeaaDoor.E
/-! Bit fields of words; pointers. -/
theorem ofInt_toNat {a : Nat} (h : a < 2 ^ 64) : (BitVec.ofInt 64 (a : Int)).toNat = a := by
  simp; omega
theorem wu_nat {n : Nat} (h : n < 2 ^ 64) : IntKind.wrap .u64 (n : Int) = n := wu64 ⟨Int.natCast_nonneg _, by omega⟩
theorem and_low {a : Nat} (h : a < 2 ^ 64) {m : Nat} (hm : m ≤ 64) : IntKind.wrap .u64 (((BitVec.ofInt 64 (a : Int) &&& BitVec.ofInt 64 ((2 ^ m - 1 : Nat) : Int)).toNat : Nat) : Int) = ((a % 2 ^ m : Nat) : Int) := by
  have hp : 2 ^ m ≤ 2 ^ 64 := Nat.pow_le_pow_right (by decide) hm
  have hq : 0 < 2 ^ m := Nat.pow_pos (by decide)
  rw [BitVec.toNat_and, ofInt_toNat h, ofInt_toNat (show 2 ^ m - 1 < 2 ^ 64 by omega), Nat.and_two_pow_sub_one_eq_mod]
  have := Nat.mod_lt a hq
  exact wu_nat (by omega)
theorem V_mask (m : Nat) (h1 : 1 ≤ m) (h2 : m ≤ 64) : ev 62 [.pv (I m)] [] = ok (U ((2 ^ m - 1 : Nat) : Int)) := by
  rw [word_mask_eq]
  have e1 : IntKind.wrap .i64 (64 - (m : Int)) = ((64 - m : Nat) : Int) := by rw [w64 (by omega)]; omega
  rw [e1, wu_nat (by omega)]
  have hk : 2 ^ 64 = 2 ^ m * 2 ^ (64 - m) := by rw [← Nat.pow_add]; congr 1; omega
  have hp : 0 < 2 ^ (64 - m) := Nat.pow_pos (by decide)
  have hd : (18446744073709551615 : Nat) / 2 ^ (64 - m) = 2 ^ m - 1 := by
    rw [show (18446744073709551615 : Nat) = 2 ^ 64 - 1 from rfl, hk, Nat.div_eq_iff hp]
    have hq : 0 < 2 ^ m := Nat.pow_pos (by decide)
    constructor
    · rw [Nat.sub_mul]; omega
    · have : (2 ^ m - 1) * 2 ^ (64 - m) = 2 ^ m * 2 ^ (64 - m) - 2 ^ (64 - m) := by rw [Nat.sub_mul, Nat.one_mul]
      have h3 : 2 ^ (64 - m) ≤ 2 ^ m * 2 ^ (64 - m) := Nat.le_mul_of_pos_left _ hq
      omega
  have hf : Int.fdiv 18446744073709551615 (2 ^ (min ((64 - m : Nat) : Int).toNat 64)) = ((2 ^ m - 1 : Nat) : Int) := by
    rw [Int.toNat_natCast, Nat.min_eq_left (by omega), Int.fdiv_eq_ediv_of_nonneg _ (Int.le_of_lt (Int.pow_pos (by decide))), ← hd]
    simp only [Int.natCast_ediv, Int.natCast_pow]
    rfl
  rw [hf]
  simp [okBin]
theorem shr_nat (a i : Nat) (hi : i ≤ 64) : Int.fdiv (a : Int) (2 ^ (min (i : Int).toNat 64)) = ((a / 2 ^ i : Nat) : Int) := by
  rw [Int.toNat_natCast, Nat.min_eq_left hi, Int.fdiv_eq_ediv_of_nonneg _ (Int.le_of_lt (Int.pow_pos (by decide)))]
  push_cast
  rfl
theorem V_Field_nat (a : Nat) (h : a < 2 ^ 64) (i m : Nat) (h1 : 1 ≤ m) (h2 : i + m ≤ 64) : ev 52 [.pv (U a), .pv (I i), .pv (I m)] [] = ok (U ((a / 2 ^ i % 2 ^ m : Nat) : Int)) := by
  rw [word_Field_eq, wu_nat (by omega), V_mask m h1 (by omega), shr_nat a i (by omega)]
  have := and_low (a := a / 2 ^ i) (Nat.lt_of_le_of_lt (Nat.div_le_self _ _) h) (m := m) (by omega)
  simp only [callT_ret, onlyPV_v, Option.bind_some, pIntK_v, this]
  simp [okBin]
theorem V_Field {a : Int} (h : Word a) (i m : Nat) (h1 : 1 ≤ m) (h2 : i + m ≤ 64) : ev 52 [.pv (U a), .pv (I i), .pv (I m)] [] = ok (U (a / 2 ^ i % 2 ^ m)) := by
  obtain ⟨n, rfl⟩ := Int.eq_ofNat_of_zero_le h.1
  rw [V_Field_nat n (by have := h.2; omega) i m h1 h2]
  simp
def sgn30 (v : Int) : Int := if 536870912 ≤ v then v - 1073741824 else v
theorem V_Signed {a : Int} (h : Word a) : ev 81 [.pv (U a), .pv (I 2), .pv (I 30)] [] = ok (I (sgn30 (a / 4 % 1073741824))) := by
  obtain ⟨h1, h2⟩ := h
  rw [word_Signed_eq]
  rw [show IntKind.wrap .i64 ((IntKind.wrap .i64 (64 - 2)) - 30) = 32 by decide, show IntKind.wrap .u64 32 = 32 by decide, show IntKind.wrap .u64 (IntKind.wrap .i64 (64 - 30)) = 34 by decide]
  simp only [okBin]
  rw [show (min (32 : Int).toNat 64) = 32 by decide, show (min (34 : Int).toNat 64) = 34 by decide]
  have e : IntKind.wrap .i64 (IntKind.wrap .u64 (a * 2 ^ 32)) = sgn30 (a / 4 % 1073741824) * 17179869184 + (a % 4) * 4294967296 := by
    rw [wu64_any]
    have e2 : a * 2 ^ 32 % 18446744073709551616 = (a / 4 % 1073741824) * 17179869184 + (a % 4) * 4294967296 := by omega
    rw [e2]
    unfold sgn30
    simp only [IntKind.wrap, IntKind.bits, IntKind.signed]
    simp
    split <;> split <;> omega
  rw [e, Int.fdiv_eq_ediv_of_nonneg _ (by decide)]
  have e3 : (sgn30 (a / 4 % 1073741824) * 17179869184 + (a % 4) * 4294967296) / 2 ^ 34 = sgn30 (a / 4 % 1073741824) := by omega
  rw [e3]
  rfl
/-- Pointers. -/
abbrev PT := Int × Int × Int × Int × Int × Int × Bool × Int × Int × Int
def ptc (p : PT) : List PV := [I p.1, I p.2.1, I p.2.2.1, I p.2.2.2.1, I p.2.2.2.2.1, I p.2.2.2.2.2.1, Bo p.2.2.2.2.2.2.1, I p.2.2.2.2.2.2.2.1, U32 p.2.2.2.2.2.2.2.2.1, U32 p.2.2.2.2.2.2.2.2.2]
def decI (a : Int) : PT :=
  if a % 4 = 0 then (0, sgn30 (a / 4 % 1073741824), a / 4294967296 % 65536, a / 281474976710656 % 65536, 0, 0, false, 0, 0, 0)
  else if a % 4 = 1 then (1, sgn30 (a / 4 % 1073741824), 0, 0, a / 4294967296 % 8, a / 34359738368 % 536870912, false, 0, 0, 0)
  else if a % 4 = 2 then (2, 0, 0, 0, 0, 0, a / 4 % 2 == 1, a / 8 % 536870912, a / 4294967296 % 4294967296, 0)
  else (3, 0, 0, 0, 0, 0, false, 0, a / 4294967296 % 4294967296, a / 4 % 1073741824)
theorem V_Decode {a : Int} (h : Word a) : ev 40 [.pv (U a)] [] = ok (.agg (ptc (decI a))) := by
  have k0 : ev 52 [.pv (U a), .pv (I 0), .pv (I 2)] [] = ok (U (a % 4)) := by have := V_Field h 0 2 (by decide) (by decide); simpa using this
  have k1 : ev 52 [.pv (U a), .pv (I 32), .pv (I 16)] [] = ok (U (a / 4294967296 % 65536)) := V_Field h 32 16 (by decide) (by decide)
  have k2 : ev 52 [.pv (U a), .pv (I 48), .pv (I 16)] [] = ok (U (a / 281474976710656 % 65536)) := V_Field h 48 16 (by decide) (by decide)
  have k3 : ev 52 [.pv (U a), .pv (I 32), .pv (I 3)] [] = ok (U (a / 4294967296 % 8)) := V_Field h 32 3 (by decide) (by decide)
  have k4 : ev 52 [.pv (U a), .pv (I 35), .pv (I 29)] [] = ok (U (a / 34359738368 % 536870912)) := V_Field h 35 29 (by decide) (by decide)
  have k5 : ev 52 [.pv (U a), .pv (I 2), .pv (I 1)] [] = ok (U (a / 4 % 2)) := V_Field h 2 1 (by decide) (by decide)
  have k6 : ev 52 [.pv (U a), .pv (I 3), .pv (I 29)] [] = ok (U (a / 8 % 536870912)) := V_Field h 3 29 (by decide) (by decide)
  have k7 : ev 52 [.pv (U a), .pv (I 32), .pv (I 32)] [] = ok (U (a / 4294967296 % 4294967296)) := V_Field h 32 32 (by decide) (by decide)
  have k8 : ev 52 [.pv (U a), .pv (I 2), .pv (I 30)] [] = ok (U (a / 4 % 1073741824)) := V_Field h 2 30 (by decide) (by decide)
  rw [pointer_Decode_eq, pointer_decoders_1_eq, pointer_decoders_2_eq, pointer_decoders_3_eq, pointer_decoders_4_eq, k0, k1, k2, k3, k4, k5, k6, k7, k8, V_Signed h]
  simp only [callT_ret, onlyPV_v, Option.bind_some, pInt_v, pIntK_v]
  rw [w64 (x := a / 4294967296 % 65536) (by omega), w64 (x := a / 281474976710656 % 65536) (by omega), w64 (x := a / 4294967296 % 8) (by omega), w64 (x := a / 34359738368 % 536870912) (by omega), w64 (x := a / 8 % 536870912) (by omega), w64 (x := a % 4) (by omega)]
  rw [wu32_any, wu32_any, show a / 4294967296 % 4294967296 % 4294967296 = a / 4294967296 % 4294967296 by omega, show a / 4 % 1073741824 % 4294967296 = a / 4 % 1073741824 by omega]
  unfold decI
  by_cases c0 : a % 4 = 0
  · simp [-getElem?_pos, List.getElem?_cons_zero, List.getElem?_cons_succ, cond_dec, cond_beq, cond_bne, cond_and, c0, ptc]
  by_cases c1 : a % 4 = 1
  · simp [-getElem?_pos, List.getElem?_cons_zero, List.getElem?_cons_succ, cond_dec, cond_beq, cond_bne, cond_and, c1, ptc]
  by_cases c2 : a % 4 = 2
  · simp [-getElem?_pos, List.getElem?_cons_zero, List.getElem?_cons_succ, cond_dec, cond_beq, cond_bne, cond_and, c2, ptc]
  · have c3 : a % 4 = 3 := by omega
    simp [-getElem?_pos, List.getElem?_cons_zero, List.getElem?_cons_succ, cond_dec, cond_beq, cond_bne, cond_and, c3, ptc]
-- the reference's
end Go.Proofs.YtdcdefmdgicoeaaDoor.E
set_option linter.unusedVariables false
set_option linter.unusedSimpArgs false
namespace Go.Proofs.YtdcdefmdgicoeaaDoor.E
/-! Far pointers; the reference's words. -/
def wordR (l : List (List Int)) (s a : Int) : Option (Out × Heap) := ok (.tup (if inB l s a 1 then [U (rd (rdL l s) a), Bo true] else [U 0, Bo false]))
theorem V_Word' {l : List (List Int)} (h : Segs l) (s a : Int) : ev 37 [.pv (.sl 1 (sgs l)), .pv (I s), .pv (I a)] [] = wordR l s a := V_Word h s a
def wd (l : List (List Int)) (s a : Int) : Int := rd (rdL l s) a
theorem wd_word {l : List (List Int)} (h : Segs l) (s a : Int) : Word (wd l s a) := rd_word (rdL_words h s) a
theorem dec_kind {a : Int} (h : Word a) : (decI a).1 = a % 4 := by
  obtain ⟨h1, h2⟩ := h
  unfold decI
  repeat' split
  all_goals (simp; omega)
theorem dec_far {a : Int} (hr : Word a) (h : a % 4 = 2) : decI a = (2, 0, 0, 0, 0, 0, a / 4 % 2 == 1, a / 8 % 536870912, a / 4294967296, 0) := by
  obtain ⟨h1, h2⟩ := hr
  unfold decI
  rw [if_neg (by omega), if_neg (by omega), if_pos h, Int.emod_eq_of_lt (a := a / 4294967296) (by omega) (by omega)]
def sgl (l : List (List Int)) (a : Int) : Int × Int × Int × Int :=
  if inB l (a / 4294967296) (a / 8 % 536870912) 1 then (if wd l (a / 4294967296) (a / 8 % 536870912) % 4 = 2 then (0, 0, 0, 3) else (wd l (a / 4294967296) (a / 8 % 536870912), a / 4294967296, a / 8 % 536870912 + 1, 0)) else (0, 0, 0, 2)
def dbl (l : List (List Int)) (a : Int) : Int × Int × Int × Int :=
  if inB l (a / 4294967296) (a / 8 % 536870912) 2 then
    (if wd l (a / 4294967296) (a / 8 % 536870912) % 4 = 2 ∧ wd l (a / 4294967296) (a / 8 % 536870912) / 4 % 2 = 0 ∧ wd l (a / 4294967296) (a / 8 % 536870912 + 1) % 4 ≤ 1 ∧ (decI (wd l (a / 4294967296) (a / 8 % 536870912 + 1))).2.1 = 0
      then (wd l (a / 4294967296) (a / 8 % 536870912 + 1), wd l (a / 4294967296) (a / 8 % 536870912) / 4294967296, wd l (a / 4294967296) (a / 8 % 536870912) / 8 % 536870912, 0) else (0, 0, 0, 3)) else (0, 0, 0, 2)
/-- What Follow answers. -/
def fol (l : List (List Int)) (s a : Int) : Int × Int × Int × Int :=
  if inB l s a 1 then (if wd l s a % 4 = 2 then (if wd l s a / 4 % 2 = 1 then dbl l (wd l s a) else sgl l (wd l s a)) else (wd l s a, s, a + 1, 0)) else (0, 0, 0, 2)
def folc (t : Int × Int × Int × Int) : List PV := [U t.1, I t.2.1, I t.2.2.1, I t.2.2.2]
def plc (t : Int × Int × Int × Int) : List PV := [.agg [U t.1, I t.2.1, I t.2.2.1], I t.2.2.2]
theorem V_IsFar {a : Int} (h : Word a) : ev 38 [.pv (U a)] [] = ok (Bo (a % 4 == 2)) := by
  rw [far_IsFar_eq, V_Decode h]
  simp [-getElem?_pos, List.getElem?_cons_zero, List.getElem?_cons_succ, cond_dec, cond_beq, cond_bne, cond_and, ptc, dec_kind h]
theorem V_Landing {a : Int} (h : Word a) (hf : a % 4 = 2) : ev 51 [.pv (U a)] [] = ok (.tup [I (a / 4294967296), I (a / 8 % 536870912)]) := by
  rw [far_Landing_eq, V_Decode h, dec_far h hf]
  obtain ⟨h1, h2⟩ := h
  simp [-getElem?_pos, List.getElem?_cons_zero, List.getElem?_cons_succ, cond_dec, cond_beq, cond_bne, cond_and, ptc, w64 (x := a / 4294967296) (by omega)]
theorem V_single {l : List (List Int)} (hl : Segs l) {a : Int} (h : Word a) (hf : a % 4 = 2) : ev 39 [.pv (.sl 1 (sgs l)), .pv (U a)] [] = ok (.tup (plc (sgl l a))) := by
  rw [far_single_eq, V_Landing h hf]
  have hw := wd_word hl (a / 4294967296) (a / 8 % 536870912)
  have hx := V_IsFar hw
  unfold wd at hx
  unfold sgl plc
  by_cases hb : inB l (a / 4294967296) (a / 8 % 536870912) 1
  · by_cases hc : wd l (a / 4294967296) (a / 8 % 536870912) % 4 = 2
    · unfold wd at hc
      simp [-getElem?_pos, List.getElem?_cons_zero, List.getElem?_cons_succ, cond_dec, cond_beq, cond_bne, cond_and, V_Word' hl, wordR, hb, hx, hc, wd]
    · unfold wd at hc
      simp [-getElem?_pos, List.getElem?_cons_zero, List.getElem?_cons_succ, cond_dec, cond_beq, cond_bne, cond_and, V_Word' hl, wordR, hb, hx, hc, wd, w64 (x := a / 8 % 536870912 + 1) (by omega)]
  · simp [-getElem?_pos, List.getElem?_cons_zero, List.getElem?_cons_succ, cond_dec, cond_beq, cond_bne, cond_and, V_Word' hl, wordR, hb]
theorem two_of (L : List Int) (n : Nat) (h : n + 2 ≤ L.length) : (L.drop n).take 2 = [L.getD n 0, L.getD (n + 1) 0] := by
  rw [List.drop_eq_getElem_cons (by omega), List.drop_eq_getElem_cons (i := n + 1) (by omega), List.getD_eq_getElem?_getD, List.getD_eq_getElem?_getD, List.getElem?_eq_getElem (by omega), List.getElem?_eq_getElem (by omega)]
  rfl
theorem cut_two {l : List (List Int)} {s a : Int} (h : inB l s a 2) : cut l s a 2 = [wd l s a, wd l s (a + 1)] := by
  obtain ⟨h1, h2, h3, h4, h5⟩ := h
  unfold cut wd rd
  rw [show (2 : Int).toNat = 2 from rfl, two_of _ _ (by omega), show (a + 1).toNat = a.toNat + 1 by omega]
theorem V_double {l : List (List Int)} (hl : Segs l) {a : Int} (h : Word a) (hf : a % 4 = 2) : ev 41 [.pv (.sl 1 (sgs l)), .pv (U a)] [] = ok (.tup (plc (dbl l a))) := by
  rw [far_double_eq, V_Landing h hf]
  unfold dbl plc
  by_cases hb : inB l (a / 4294967296) (a / 8 % 536870912) 2
  case neg => simp [-getElem?_pos, List.getElem?_cons_zero, List.getElem?_cons_succ, cond_dec, cond_beq, cond_bne, cond_and, V_Slice hl, hb]
  have h1 := wd_word hl (a / 4294967296) (a / 8 % 536870912)
  have h2 := wd_word hl (a / 4294967296) (a / 8 % 536870912 + 1)
  simp only [callT_ret, onlyPV_v, Option.bind_some, pTup_v, List.getElem?_cons_zero, List.getElem?_cons_succ, V_Slice hl _ _ 2 (by decide), hb, if_true, cut_two hb]
  generalize wd l (a / 4294967296) (a / 8 % 536870912) = y at h1
  generalize wd l (a / 4294967296) (a / 8 % 536870912 + 1) = z at h2
  have k1 := dec_kind h1
  have k2 := dec_kind h2
  by_cases c1 : y % 4 = 2
  case neg => simp [-getElem?_pos, List.getElem?_cons_zero, List.getElem?_cons_succ, cond_dec, cond_beq, cond_bne, cond_and, ws, V_Decode h1, V_Decode h2, ptc, k1, c1]
  have k3 := dec_far h1 c1
  by_cases c2 : y / 4 % 2 = 1
  case pos => simp [-getElem?_pos, List.getElem?_cons_zero, List.getElem?_cons_succ, cond_dec, cond_beq, cond_bne, cond_and, ws, V_Decode h1, V_Decode h2, ptc, k3, c1, c2]
  by_cases c3 : z % 4 ≤ 1
  case neg => simp [-getElem?_pos, List.getElem?_cons_zero, List.getElem?_cons_succ, cond_dec, cond_beq, cond_bne, cond_and, ws, V_Decode h1, V_Decode h2, ptc, k2, k3, c1, c2, c3, show 1 < z % 4 by omega]
  by_cases c4 : (decI z).2.1 = 0
  case neg => simp [-getElem?_pos, List.getElem?_cons_zero, List.getElem?_cons_succ, cond_dec, cond_beq, cond_bne, cond_and, ws, V_Decode h1, V_Decode h2, ptc, k2, k3, c1, c2, c3, c4, show ¬ 1 < z % 4 by omega]
  obtain ⟨g1, g2⟩ := h1
  simp [-getElem?_pos, List.getElem?_cons_zero, List.getElem?_cons_succ, cond_dec, cond_beq, cond_bne, cond_and, ws, V_Decode ⟨g1, g2⟩, V_Decode h2, ptc, k2, k3, c1, c2, c3, c4, show ¬ 1 < z % 4 by omega, show y / 4 % 2 = 0 by omega, w64 (x := y / 4294967296) (by omega)]
theorem V_Follow {l : List (List Int)} (hl : Segs l) (s a : Int) : ev 24 [.pv (.sl 1 (sgs l)), .pv (I s), .pv (I a)] [] = ok (.tup (folc (fol l s a))) := by
  rw [far_Follow_eq, V_Word' hl]
  unfold fol folc
  by_cases hb : inB l s a 1
  case neg => simp [-getElem?_pos, List.getElem?_cons_zero, List.getElem?_cons_succ, cond_dec, cond_beq, cond_bne, cond_and, wordR, hb]
  have h0 := wd_word hl s a
  have hlen := (rdL_words hl s).1
  have ha : a + 1 ≤ 9223372036854775807 ∧ 0 ≤ a := by have := hb.2.2; omega
  simp only [wordR, hb, if_true, callT_ret, onlyPV_v, Option.bind_some, pTup_v, List.getElem?_cons_zero, List.getElem?_cons_succ, pBool_v, show rd (rdL l s) a = wd l s a from rfl]
  by_cases hf : wd l s a % 4 = 2
  case neg => simp [-getElem?_pos, List.getElem?_cons_zero, List.getElem?_cons_succ, cond_dec, cond_beq, cond_bne, cond_and, V_IsFar h0, hf, w64 (x := a + 1) (by omega), eqCells]
  generalize wd l s a = x at h0 hf
  by_cases h4 : x / 4 % 2 = 1
  · simp only [hf, h4, if_true, V_IsFar h0, V_Decode h0, V_double hl h0 hf]
    unfold dbl
    repeat' split
    all_goals (simp [-getElem?_pos, List.getElem?_cons_zero, List.getElem?_cons_succ, cond_dec, cond_beq, cond_bne, cond_and, ptc, dec_far h0 hf, plc, hf, h4, eqCells]; try (split <;> rfl))
  · simp only [hf, h4, if_true, if_false, V_IsFar h0, V_Decode h0, V_single hl h0 hf]
    unfold sgl
    repeat' split
    all_goals (simp [-getElem?_pos, List.getElem?_cons_zero, List.getElem?_cons_succ, cond_dec, cond_beq, cond_bne, cond_and, ptc, dec_far h0 hf, plc, hf, h4, eqCells]; try (split <;> rfl))
-- the reference's
end Go.Proofs.YtdcdefmdgicoeaaDoor.E
set_option linter.unusedVariables false
set_option linter.unusedSimpArgs false
namespace Go.Proofs.YtdcdefmdgicoeaaDoor.E
/-! Objects. -/
/-- A located object: kind, segment, place, data words, pointers, element kind, number, cost. -/
structure Ob where
  kind : Int
  seg : Int
  at_ : Int
  data : Int
  ptrs : Int
  elem : Int
  n : Int
  cost : Int
  deriving DecidableEq
def Ob.c (o : Ob) : List PV := [I o.kind, I o.seg, I o.at_, I o.data, I o.ptrs, I o.elem, I o.n, I o.cost]
def ob0 : Ob := ⟨0, 0, 0, 0, 0, 0, 0, 0⟩
def obR (t : Ob × Int) : List PV := [.agg t.1.c, I t.2]
def bitsOf (e : Int) : Int := if e = 1 then 1 else if e = 2 then 8 else if e = 3 then 16 else if e = 4 then 32 else if e = 5 then 64 else if e = 6 then 64 else 0
theorem bitsOf_range (e : Int) : 0 ≤ bitsOf e ∧ bitsOf e ≤ 64 := by
  unfold bitsOf
  repeat' split
  all_goals omega
/-- Words of a list. -/
def wordsOf (e c : Int) : Int := if e = 7 then c + 1 else (bitsOf e * c + 63) / 64
theorem bits_mul {e c : Int} (hc : 0 ≤ c ∧ c ≤ 536870911) : 0 ≤ bitsOf e * c ∧ bitsOf e * c ≤ 64 * 536870911 := by
  have hb := bitsOf_range e
  exact ⟨Int.mul_nonneg hb.1 hc.1, Int.mul_le_mul hb.2 hc.2 hc.1 (by omega)⟩
theorem wordsOf_range {e c : Int} (hc : 0 ≤ c ∧ c ≤ 536870911) : 0 ≤ wordsOf e c ∧ wordsOf e c ≤ 536870912 := by
  have h := bits_mul (e := e) hc
  unfold wordsOf
  split <;> omega
theorem bits_tab {e : Int} (he : 0 ≤ e ∧ e ≤ 7) : ([I 0, I 1, I 8, I 16, I 32, I 64, I 64, I 0] : List PV)[e.toNat]? = some (I (bitsOf e)) := by
  obtain ⟨h1, h2⟩ := he
  have : e = 0 ∨ e = 1 ∨ e = 2 ∨ e = 3 ∨ e = 4 ∨ e = 5 ∨ e = 6 ∨ e = 7 := by omega
  rcases this with rfl | rfl | rfl | rfl | rfl | rfl | rfl | rfl <;> rfl
theorem V_Words {e c : Int} (he : 0 ≤ e ∧ e ≤ 7) (hc : 0 ≤ c ∧ c ≤ 536870911) : ev 56 [.pv (I e), .pv (I c)] [] = ok (I (wordsOf e c)) := by
  have h := bits_mul (e := e) hc
  rw [listsize_Words_eq]
  unfold wordsOf
  by_cases h7 : e = 7
  · simp [-getElem?_pos, List.getElem?_cons_zero, List.getElem?_cons_succ, cond_dec, cond_beq, cond_bne, cond_and, h7, w64 (x := c + 1) (by omega)]
  · have hb := bits_tab he
    simp only [I] at hb
    rw [show (0 + e.toNat * 1) = e.toNat by omega]
    simp only [hb, listsize_up_eq]
    rw [if_neg h7]
    simp [-getElem?_pos, List.getElem?_cons_zero, List.getElem?_cons_succ, cond_dec, cond_beq, cond_bne, cond_and, h7, he.1, show e < 8 by omega, okBin, w64 (x := bitsOf e * c) (by omega), w64 (x := bitsOf e * c + 64) (by omega), w64 (x := bitsOf e * c + 64 - 1) (by omega)]
    rw [Int.tdiv_eq_ediv_of_nonneg (by omega), w64 (by omega), show bitsOf e * c + 64 - 1 = bitsOf e * c + 63 by omega]
def bad (e : Int) : Ob × Int := (ob0, e)
def objS (l : List (List Int)) (s st d q : Int) : Ob × Int := if inB l s st (d + q) then (⟨1, s, st, d, q, 0, 0, d + q⟩, 0) else bad 2
def objC (l : List (List Int)) (s st c : Int) : Ob × Int :=
  if inB l s st (c + 1) then
    (if (decI (wd l s st)).1 = 0 ∧ 0 ≤ (decI (wd l s st)).2.1 ∧ (decI (wd l s st)).2.1 * ((decI (wd l s st)).2.2.1 + (decI (wd l s st)).2.2.2.1) ≤ c then (⟨2, s, st + 1, (decI (wd l s st)).2.2.1, (decI (wd l s st)).2.2.2.1, 7, (decI (wd l s st)).2.1, c + 1 + (if (decI (wd l s st)).2.2.1 + (decI (wd l s st)).2.2.2.1 = 0 then (decI (wd l s st)).2.1 else 0)⟩, 0) else bad 5) else bad 2
def objL (l : List (List Int)) (s st e c : Int) : Ob × Int := if e = 7 then objC l s st c else if inB l s st (wordsOf e c) then (⟨2, s, st, 0, 0, e, c, wordsOf e c⟩, 0) else bad 2
def objP (l : List (List Int)) (s b : Int) (p : PT) : Ob × Int :=
  if p.1 = 0 then objS l s (b + p.2.1) p.2.2.1 p.2.2.2.1 else if p.1 = 1 then objL l s (b + p.2.1) p.2.2.2.2.1 p.2.2.2.2.2.1 else if p.2.2.2.2.2.2.2.2.2 = 0 then bad 6 else bad 4
/-- What Object answers. -/
def obj (l : List (List Int)) (s a : Int) : Ob × Int :=
  if (fol l s a).2.2.2 = 0 then (if (fol l s a).1 = 0 then bad 0 else objP l (fol l s a).2.1 (fol l s a).2.2.1 (decI (fol l s a).1)) else bad (fol l s a).2.2.2
/-- The parts of a decoded word are small. -/
theorem dec_small {x : Int} (h : Word x) : -536870912 ≤ (decI x).2.1 ∧ (decI x).2.1 ≤ 536870911 ∧ 0 ≤ (decI x).2.2.1 ∧ (decI x).2.2.1 ≤ 65535 ∧ 0 ≤ (decI x).2.2.2.1 ∧ (decI x).2.2.2.1 ≤ 65535 ∧ 0 ≤ (decI x).2.2.2.2.1 ∧ (decI x).2.2.2.2.1 ≤ 7 ∧ 0 ≤ (decI x).2.2.2.2.2.1 ∧ (decI x).2.2.2.2.2.1 ≤ 536870911 ∧ 0 ≤ (decI x).1 ∧ (decI x).1 ≤ 3 := by
  obtain ⟨h1, h2⟩ := h
  unfold decI sgn30
  repeat' split
  all_goals (simp only []; try split)
  all_goals (simp; try omega)
/-- The segments are not long. -/
def Sm (l : List (List Int)) : Prop := ∀ s, ((rdL l s).length : Int) ≤ 1099511627776
theorem fol_base {l : List (List Int)} (hl : Segs l) (hs : Sm l) (s a : Int) (h : (fol l s a).2.2.2 = 0) : 0 ≤ (fol l s a).2.2.1 ∧ (fol l s a).2.2.1 ≤ 1099511627777 := by
  obtain ⟨h0, h0'⟩ := wd_word hl s a
  have hs' := hs s
  unfold fol at h ⊢
  by_cases hb : inB l s a 1
  case neg => rw [if_neg hb] at h; simp at h
  rw [if_pos hb] at h ⊢
  by_cases hf : wd l s a % 4 = 2
  case neg =>
    rw [if_neg hf] at h ⊢
    unfold inB at hb
    simp only
    omega
  rw [if_pos hf] at h ⊢
  generalize wd l s a = x at *
  by_cases h4 : x / 4 % 2 = 1
  · rw [if_pos h4] at h ⊢
    unfold dbl at h ⊢
    by_cases c1 : inB l (x / 4294967296) (x / 8 % 536870912) 2
    case neg => rw [if_neg c1] at h; simp at h
    rw [if_pos c1] at h ⊢
    split at h
    · rename_i c2
      rw [if_pos c2]
      simp only
      omega
    · simp at h
  · rw [if_neg h4] at h ⊢
    unfold sgl at h ⊢
    by_cases c1 : inB l (x / 4294967296) (x / 8 % 536870912) 1
    case neg => rw [if_neg c1] at h; simp at h
    rw [if_pos c1] at h ⊢
    split at h
    · simp at h
    · rename_i c2
      rw [if_neg c2]
      simp only
      omega
theorem fol_word {l : List (List Int)} (hl : Segs l) (s a : Int) : Word (fol l s a).1 := by
  have w0 : Word 0 := ⟨by decide, by decide⟩
  unfold fol
  split
  · split
    · split
      · unfold dbl
        split
        · split
          · exact wd_word hl _ _
          · exact w0
        · exact w0
      · unfold sgl
        split
        · split
          · exact w0
          · exact wd_word hl _ _
        · exact w0
    · exact wd_word hl _ _
  · exact w0
theorem V_within {l : List (List Int)} (hl : Segs l) (o : Ob) (st n : Int) : ev 54 [.pv (.sl 1 (sgs l)), .pv (.agg o.c), .pv (I st), .pv (I n)] [] = ok (.tup (obR (if inB l o.seg st n then (o, 0) else bad 2))) := by
  rw [Ob.c, resolve_within_eq, V_InBounds hl]
  split <;> simp [-getElem?_pos, List.getElem?_cons_zero, List.getElem?_cons_succ, cond_dec, cond_beq, cond_bne, cond_and, *, obR, Ob.c, bad, ob0]
theorem V_structure {l : List (List Int)} (hl : Segs l) (p : PT) (s st : Int) (hp : 0 ≤ p.2.2.1 ∧ p.2.2.1 ≤ 65535 ∧ 0 ≤ p.2.2.2.1 ∧ p.2.2.2.1 ≤ 65535) : ev 42 [.pv (.sl 1 (sgs l)), .pv (.agg (ptc p)), .pv (I s), .pv (I st)] [] = ok (.tup (obR (objS l s st p.2.2.1 p.2.2.2.1))) := by
  rw [ptc, resolve_structure_eq, w64 (x := p.2.2.1 + p.2.2.2.1) (by omega)]
  have := V_within hl ⟨1, s, st, p.2.2.1, p.2.2.2.1, 0, 0, p.2.2.1 + p.2.2.2.1⟩ st (p.2.2.1 + p.2.2.2.1)
  simp only [Ob.c] at this
  rw [this]
  unfold objS
  split <;> simp [-getElem?_pos, List.getElem?_cons_zero, List.getElem?_cons_succ, cond_dec, cond_beq, cond_bne, cond_and, obR, Ob.c, bad, ob0]
theorem inB_one {l : List (List Int)} {s st n : Int} (h : inB l s st n) (hn : 1 ≤ n) : inB l s st 1 := by unfold inB at h ⊢; omega
theorem size_small {o n : Int} (ho : 0 ≤ o ∧ o ≤ 536870911) (hn : 0 ≤ n ∧ n ≤ 131070) : 0 ≤ o * n ∧ o * n ≤ 536870911 * 131070 := ⟨Int.mul_nonneg ho.1 hn.1, Int.mul_le_mul ho.2 hn.2 hn.1 (by omega)⟩
theorem V_composite {l : List (List Int)} (hl : Segs l) (hs : Sm l) (p : PT) (s st : Int) (hc : 0 ≤ p.2.2.2.2.2.1 ∧ p.2.2.2.2.2.1 ≤ 536870911) : ev 55 [.pv (.sl 1 (sgs l)), .pv (.agg (ptc p)), .pv (I s), .pv (I st)] [] = ok (.tup (obR (objC l s st p.2.2.2.2.2.1))) := by
  have hs' := hs s
  rw [ptc, resolve_composite_eq]
  generalize p.2.2.2.2.2.1 = c at hc
  unfold objC
  rw [w64 (x := c + 1) (by omega), V_InBounds hl]
  by_cases hb : inB l s st (c + 1)
  case neg => simp [-getElem?_pos, List.getElem?_cons_zero, List.getElem?_cons_succ, cond_dec, cond_beq, cond_bne, cond_and, hb, obR, bad, ob0, Ob.c]
  have hst : 0 ≤ st ∧ st ≤ 1099511627776 := by unfold inB at hb; omega
  have hw : ev 37 [.pv (.sl 1 (sgs l)), .pv (I s), .pv (I st)] [] = ok (.tup [U (wd l s st), Bo true]) := by
    rw [V_Word' hl, wordR, if_pos (inB_one hb (by omega))]
    rfl
  have h0 := wd_word hl s st
  have hd := dec_small h0
  rw [hw]
  simp only [hb, decide_true, Bool.not_true, cond_false, callT_ret, onlyPV_v, Option.bind_some, pBool_v, pTup_v, List.getElem?_cons_zero, List.getElem?_cons_succ, V_Decode h0, if_true]
  generalize decI (wd l s st) = q at hd
  obtain ⟨k, o, d, m, e, c', b, pd, sg, lo⟩ := q
  simp only at hd ⊢
  by_cases hk : k = 0
  case neg => simp [-getElem?_pos, List.getElem?_cons_zero, List.getElem?_cons_succ, cond_dec, cond_beq, cond_bne, cond_and, hk, ptc, obR, bad, ob0, Ob.c]
  by_cases ho : o < 0
  case pos => simp [-getElem?_pos, List.getElem?_cons_zero, List.getElem?_cons_succ, cond_dec, cond_beq, cond_bne, cond_and, hk, ho, ptc, obR, bad, ob0, Ob.c, show ¬ 0 ≤ o by omega]
  have hm := size_small (o := o) (n := d + m) (by omega) (by omega)
  by_cases hg : o * (d + m) ≤ c
  case neg => simp [-getElem?_pos, List.getElem?_cons_zero, List.getElem?_cons_succ, cond_dec, cond_beq, cond_bne, cond_and, hk, ho, ptc, obR, bad, ob0, Ob.c, hg, w64 (x := d + m) (by omega), w64 (x := o * (d + m)) (by omega), show c < o * (d + m) by omega]
  by_cases hz : d + m = 0
  · simp [-getElem?_pos, List.getElem?_cons_zero, List.getElem?_cons_succ, cond_dec, cond_beq, cond_bne, cond_and, hk, ho, ptc, obR, bad, ob0, Ob.c, hg, w64 (x := d + m) (by omega), w64 (x := o * (d + m)) (by omega), show ¬ c < o * (d + m) by omega, show 0 ≤ o by omega, hz, w64 (x := 0) (by omega), show ¬ c < 0 by omega, hc.1, w64 (x := st + 1) (by omega), w64 (x := c + 1 + o) (by omega)]
  · simp [-getElem?_pos, List.getElem?_cons_zero, List.getElem?_cons_succ, cond_dec, cond_beq, cond_bne, cond_and, hk, ho, ptc, obR, bad, ob0, Ob.c, hg, w64 (x := d + m) (by omega), w64 (x := o * (d + m)) (by omega), show ¬ c < o * (d + m) by omega, show 0 ≤ o by omega, hz, w64 (x := st + 1) (by omega)]
theorem V_list {l : List (List Int)} (hl : Segs l) (hs : Sm l) (p : PT) (s st : Int) (he : 0 ≤ p.2.2.2.2.1 ∧ p.2.2.2.2.1 ≤ 7) (hc : 0 ≤ p.2.2.2.2.2.1 ∧ p.2.2.2.2.2.1 ≤ 536870911) : ev 43 [.pv (.sl 1 (sgs l)), .pv (.agg (ptc p)), .pv (I s), .pv (I st)] [] = ok (.tup (obR (objL l s st p.2.2.2.2.1 p.2.2.2.2.2.1))) := by
  have hco := V_composite hl hs p s st hc
  rw [ptc, resolve_list_eq, V_Words he hc]
  have hco' := hco
  rw [ptc] at hco'
  unfold objL
  by_cases h7 : p.2.2.2.2.1 = 7
  · simp only [cond_beq, if_pos h7]
    rw [hco']
    simp [-getElem?_pos, List.getElem?_cons_zero, List.getElem?_cons_succ, cond_dec, cond_beq, cond_bne, cond_and, obR, Ob.c]
  · have := V_within hl ⟨2, s, st, 0, 0, p.2.2.2.2.1, p.2.2.2.2.2.1, wordsOf p.2.2.2.2.1 p.2.2.2.2.2.1⟩ st (wordsOf p.2.2.2.2.1 p.2.2.2.2.2.1)
    simp only [Ob.c] at this
    simp only [cond_beq, if_neg h7]
    simp only [callT_ret, onlyPV_v, Option.bind_some, isCell_v, Bool.and_self, cond_true, this]
    split <;> simp [-getElem?_pos, List.getElem?_cons_zero, List.getElem?_cons_succ, cond_dec, cond_beq, cond_bne, cond_and, obR, Ob.c, bad, ob0]
theorem V_other {l : List (List Int)} (p : PT) (s st : Int) (h3 : p.1 = 3) : ev 44 [.pv (.sl 1 (sgs l)), .pv (.agg (ptc p)), .pv (I s), .pv (I st)] [] = ok (.tup (obR (if p.2.2.2.2.2.2.2.2.2 = 0 then bad 6 else bad 4))) := by
  rw [ptc, resolve_other_eq, pointer_IsCapability_eq]
  by_cases h : p.2.2.2.2.2.2.2.2.2 = 0
  · simp [-getElem?_pos, List.getElem?_cons_zero, List.getElem?_cons_succ, cond_dec, cond_beq, cond_bne, cond_and, h3, h, obR, bad, ob0, Ob.c]
  · simp [-getElem?_pos, List.getElem?_cons_zero, List.getElem?_cons_succ, cond_dec, cond_beq, cond_bne, cond_and, h3, h, obR, bad, ob0, Ob.c]
theorem fol_kind {l : List (List Int)} (hl : Segs l) (s a : Int) (h : (fol l s a).2.2.2 = 0) : (fol l s a).1 % 4 ≠ 2 := by
  unfold fol at h ⊢
  split at h
  case isFalse => simp at h
  rename_i hb
  rw [if_pos hb]
  split at h
  case isFalse => rename_i hf; rw [if_neg hf]; exact hf
  rename_i hf
  rw [if_pos hf]
  split at h
  · rename_i h4
    rw [if_pos h4]
    unfold dbl at h ⊢
    split at h
    case isFalse => simp at h
    rename_i c1
    rw [if_pos c1]
    split at h
    case isFalse => simp at h
    rename_i c2
    rw [if_pos c2]
    simp only
    omega
  · rename_i h4
    rw [if_neg h4]
    unfold sgl at h ⊢
    split at h
    case isFalse => simp at h
    rename_i c1
    rw [if_pos c1]
    split at h
    case isTrue => simp at h
    rename_i c2
    rw [if_neg c2]
    exact c2
theorem V_Object {l : List (List Int)} (hl : Segs l) (hs : Sm l) (s a : Int) : ev 28 [.pv (.sl 1 (sgs l)), .pv (I s), .pv (I a)] [] = ok (.tup (obR (obj l s a))) := by
  rw [resolve_Object_eq, V_Follow hl]
  unfold obj
  have hb := fol_base hl hs s a
  have hw := fol_word hl s a
  have hk := fol_kind hl s a
  generalize fol l s a = t at hb hw hk
  obtain ⟨w, s', b, e⟩ := t
  dsimp only at hb hw hk
  dsimp only [folc, callT_ret, callT_pan, onlyPV_v, Option.bind_some, pBool_v, pTup_v, pAgg_v, aggOf_v, pSl_v, pInt_v, pI64, pU64, pU32, pU8, List.getElem?_cons_zero, List.getElem?_cons_succ, cells_v, cells_sl, cells_agg, isCell_v, isCell_sl, cnd_t, cnd_f, tt_and, ff_and, nt_t, nt_f, len1, len3, len5, len8, len10, hlen1, clen1, clen5]
  by_cases he : e = 0
  case neg =>
    rw [if_neg he, bne_iff_ne.2 he]
    rfl
  subst he
  rw [if_pos rfl, show ((0 : Int) != 0) = false from rfl]
  dsimp only [callT_ret, callT_pan, onlyPV_v, Option.bind_some, pBool_v, pTup_v, pAgg_v, aggOf_v, pSl_v, pInt_v, pI64, pU64, pU32, pU8, List.getElem?_cons_zero, List.getElem?_cons_succ, cells_v, cells_sl, cells_agg, isCell_v, isCell_sl, cnd_t, cnd_f, tt_and, ff_and, nt_t, nt_f, len1, len3, len5, len8, len10, hlen1, clen1, clen5]
  rw [pointer_IsNull_eq]
  dsimp only [callT_ret, callT_pan, onlyPV_v, Option.bind_some, pBool_v, pTup_v, pAgg_v, aggOf_v, pSl_v, pInt_v, pI64, pU64, pU32, pU8, List.getElem?_cons_zero, List.getElem?_cons_succ, cells_v, cells_sl, cells_agg, isCell_v, isCell_sl, cnd_t, cnd_f, tt_and, ff_and, nt_t, nt_f, len1, len3, len5, len8, len10, hlen1, clen1, clen5]
  by_cases hz : w = 0
  case pos =>
    rw [if_pos hz, beq_iff_eq.2 hz]
    rfl
  have hd := dec_small hw
  have hk' := hk rfl
  have hb' := hb rfl
  rw [← dec_kind hw] at hk'
  rw [if_neg hz, beq_eq_false_iff_ne.2 hz]
  dsimp only [callT_ret, callT_pan, onlyPV_v, Option.bind_some, pBool_v, pTup_v, pAgg_v, aggOf_v, pSl_v, pInt_v, pI64, pU64, pU32, pU8, List.getElem?_cons_zero, List.getElem?_cons_succ, cells_v, cells_sl, cells_agg, isCell_v, isCell_sl, cnd_t, cnd_f, tt_and, ff_and, nt_t, nt_f, len1, len3, len5, len8, len10, hlen1, clen1, clen5]
  rw [V_Decode hw]
  generalize decI w = p at hd hk'
  have h1 := V_structure hl p s' (b + p.2.1) (by omega)
  have h2 := V_list hl hs p s' (b + p.2.1) (by omega) (by omega)
  have h3 := V_other (l := l) p s' (b + p.2.1)
  have hwp := w64 (x := b + p.2.1) (by omega)
  unfold objP
  rw [ptc] at h1 h2 h3 ⊢
  dsimp only [callT_ret, callT_pan, onlyPV_v, Option.bind_some, pBool_v, pTup_v, pAgg_v, aggOf_v, pSl_v, pInt_v, pI64, pU64, pU32, pU8, List.getElem?_cons_zero, List.getElem?_cons_succ, cells_v, cells_sl, cells_agg, isCell_v, isCell_sl, cnd_t, cnd_f, tt_and, ff_and, nt_t, nt_f, len1, len3, len5, len8, len10, hlen1, clen1, clen5]
  have h4 : p.1 = 0 ∨ p.1 = 1 ∨ p.1 = 3 := by omega
  rcases h4 with h | h | h
  · rw [h] at h1 ⊢
    rw [show (decide ((0 : Int) ≤ 0) && decide ((0 : Int) < 4)) = true from rfl, show ((0 : Int) == 0) = true from rfl]
    dsimp only [callT_ret, callT_pan, onlyPV_v, Option.bind_some, pBool_v, pTup_v, pAgg_v, aggOf_v, pSl_v, pInt_v, pI64, pU64, pU32, pU8, List.getElem?_cons_zero, List.getElem?_cons_succ, cells_v, cells_sl, cells_agg, isCell_v, isCell_sl, cnd_t, cnd_f, tt_and, ff_and, nt_t, nt_f, len1, len3, len5, len8, len10, hlen1, clen1, clen5]
    rw [hwp, h1, if_pos rfl]
    rfl
  · rw [h] at h2 ⊢
    rw [show (decide ((0 : Int) ≤ 1) && decide ((1 : Int) < 4)) = true from rfl, show ((0 : Int) == 1) = false from rfl, show ((1 : Int) == 1) = true from rfl]
    dsimp only [callT_ret, callT_pan, onlyPV_v, Option.bind_some, pBool_v, pTup_v, pAgg_v, aggOf_v, pSl_v, pInt_v, pI64, pU64, pU32, pU8, List.getElem?_cons_zero, List.getElem?_cons_succ, cells_v, cells_sl, cells_agg, isCell_v, isCell_sl, cnd_t, cnd_f, tt_and, ff_and, nt_t, nt_f, len1, len3, len5, len8, len10, hlen1, clen1, clen5]
    rw [hwp, h2, if_neg (by decide), if_pos rfl]
    rfl
  · have h3' := h3 h
    rw [h] at h3' ⊢
    rw [show (decide ((0 : Int) ≤ 3) && decide ((3 : Int) < 4)) = true from rfl, show ((0 : Int) == 3) = false from rfl, show ((1 : Int) == 3) = false from rfl, show ((2 : Int) == 3) = false from rfl, show ((3 : Int) == 3) = true from rfl]
    dsimp only [callT_ret, callT_pan, onlyPV_v, Option.bind_some, pBool_v, pTup_v, pAgg_v, aggOf_v, pSl_v, pInt_v, pI64, pU64, pU32, pU8, List.getElem?_cons_zero, List.getElem?_cons_succ, cells_v, cells_sl, cells_agg, isCell_v, isCell_sl, cnd_t, cnd_f, tt_and, ff_and, nt_t, nt_f, len1, len3, len5, len8, len10, hlen1, clen1, clen5]
    rw [hwp, h3', if_neg (show ¬ (3 : Int) = 0 by decide), if_neg (show ¬ (3 : Int) = 1 by decide)]
    split <;> rfl
end Go.Proofs.YtdcdefmdgicoeaaDoor.E
set_option linter.unusedVariables false
set_option linter.unusedSimpArgs false
namespace Go.Proofs.YtdcdefmdgicoeaaDoor.E
/-! Words as bytes; the bytes of lists; budgets. -/
theorem roomy_ok {n b : Nat} (h : n * b ≤ 140737488355328) (h1 : n ≤ 140737488355328) : roomy n b = true := by simp [roomy, h, h1]
def w8 (w : Int) : List Int := (List.range 8).map fun k => w / 256 ^ k % 256
def byt (l : List Int) : List Int := l.flatMap w8
theorem w8_len (w : Int) : (w8 w).length = 8 := by simp [w8]
theorem byt_len (l : List Int) : (byt l).length = 8 * l.length := by
  induction l with
  | nil => rfl
  | cons w l ih => simp only [byt, List.flatMap_cons, List.length_append, w8_len, List.length_cons] at ih ⊢; omega
theorem byt_byte (l : List Int) : ∀ b ∈ byt l, Byte b := by
  intro b hb
  obtain ⟨w, _, hw⟩ := List.mem_flatMap.1 hb
  obtain ⟨k, _, rfl⟩ := List.mem_map.1 hw
  exact ⟨by omega, by omega⟩
theorem w8_take {w : Int} {k : Nat} (h : k < 8) : (w8 w).take (k + 1) = (w8 w).take k ++ [w / 256 ^ k % 256] := by
  rw [List.take_succ_eq_append_getElem (by simp [w8_len, h])]
  simp [w8]
theorem bs_app (a b : List Int) : bs (a ++ b) = bs a ++ bs b := by simp [bs]
theorem p256 (w : Int) (k : Nat) (hk : k < 8) : Int.fdiv w (2 ^ (min ((8 * k : Nat) : Int).toNat 64)) = w / 256 ^ k := by
  rw [Int.toNat_natCast, Nat.min_eq_left (by omega), Int.fdiv_eq_ediv_of_nonneg _ (Int.le_of_lt (Int.pow_pos (by decide))), Int.pow_mul]
  rfl
theorem wbytes_in {l : List Int} (w : Int) (n i : Int) (hi : 0 ≤ i ∧ i ≤ 9000000000000000000) (acc : List Int) (ha : acc.length + 8 ≤ 140737488355328) : ∀ (d k : Nat), k + d = 8 → word_Bytes_L2 (bs (acc ++ (w8 w).take k)) (U w) (ws l) n i k = word_Bytes_L0 (bs (acc ++ w8 w)) (ws l) n (i + 1) := by
  intro d
  induction d with
  | zero =>
    intro k hk
    obtain rfl : k = 8 := by omega
    rw [word_Bytes_L2_eq, List.take_of_length_le (by simp [w8_len])]
    rw [show decide (((8 : Nat) : Int) < 8) = false from rfl, w64 (x := i + 1) (by omega)]
    rfl
  | succ d ih =>
    intro k hk
    rw [word_Bytes_L2_eq, decide_eq_true (show (k : Int) < 8 by omega)]
    dsimp only [callT_ret, callT_pan, onlyPV_v, Option.bind_some, pBool_v, pTup_v, pAgg_v, aggOf_v, pSl_v, pInt_v, pI64, pU64, pU32, pU8, List.getElem?_cons_zero, List.getElem?_cons_succ, cells_v, cells_sl, cells_agg, isCell_v, isCell_sl, cnd_t, cnd_f, tt_and, ff_and, nt_t, nt_f, len1, len3, len5, len8, len10, hlen1, clen1, clen5]
    have e : IntKind.wrap .u64 (IntKind.wrap .i64 (8 * (k : Int))) = ((8 * k : Nat) : Int) := by rw [w64 (by omega), wu64 (by omega)]; push_cast; rfl
    have hr : roomy ((bs (acc ++ (w8 w).take k)).length + 1) 1 = true := roomy_ok (by simp [w8_len]; omega) (by simp [w8_len]; omega)
    rw [e, p256 w k (by omega), wu8_any, hr, w64 (x := (k : Int) + 1) (by omega)]
    have := ih (k + 1) (by omega)
    rw [w8_take (by omega), ← List.append_assoc, bs_app] at this
    simp only [okBin, Int.natCast_nonneg, decide_true, cond_true]
    exact this
theorem wbytes_loop (l : List Int) (hl : l.length ≤ 17592186044416) : ∀ (d i : Nat), i + d = l.length → word_Bytes_L0 (bs (byt (l.take i))) (ws l) l.length i = ok (.sl 1 (bs (byt l))) := by
  intro d
  induction d with
  | zero =>
    intro i hi
    obtain rfl : i = l.length := by omega
    rw [word_Bytes_L0_eq, decide_eq_false (by omega), List.take_length]
    rfl
  | succ d ih =>
    intro i hi
    have hil : i < l.length := by omega
    rw [word_Bytes_L0_eq, decide_eq_true (by omega)]
    have hg : (ws l)[(i : Int).toNat]? = some (U l[i]) := by rw [Int.toNat_natCast, ws_get hil]
    rw [hg]
    have := ih (i + 1) (by omega)
    have h2 := wbytes_in (l := l) l[i] l.length i (by omega) (byt (l.take i)) (by rw [byt_len]; simp; omega) 8 0 rfl
    rw [List.take_zero, List.append_nil] at h2
    have e : byt (l.take i) ++ w8 l[i] = byt (l.take (i + 1)) := by rw [List.take_succ_eq_append_getElem hil]; simp only [byt, List.flatMap_append, List.flatMap_cons, List.flatMap_nil, List.append_nil]
    rw [e] at h2
    simp only [ws_len, Int.natCast_nonneg, decide_true, Bool.true_and, decide_eq_true (show (i : Int) < l.length by omega), cond_true, Option.bind_some, cells_v, List.getElem?_cons_zero]
    exact h2.trans this
theorem V_Bytes (l : List Int) (hl : l.length ≤ 17592186044416) : ev 58 [.pv (.sl 1 (ws l))] [] = ok (.sl 1 (bs (byt l))) := by
  rw [word_Bytes_eq, ws_len, w64 (x := 8 * (l.length : Int)) (by omega), roomy_ok (by omega) (by omega)]
  simp only [decide_eq_true (show (0 : Int) ≤ 8 * (l.length : Int) by omega), decide_eq_true (show 8 * (l.length : Int) ≤ 140737488355328 by omega), Bool.and_self, cond_true]
  exact wbytes_loop l hl l.length 0 (by omega)
/-- Bytes of a list. -/
def bytesN (e c : Int) : Int := (bitsOf e * c + 7) / 8
theorem bytesN_range {e c : Int} (hc : 0 ≤ c ∧ c ≤ 536870911) : 0 ≤ bytesN e c ∧ bytesN e c ≤ 4294967296 := by
  have h := bits_mul (e := e) hc
  unfold bytesN
  omega
theorem V_BytesN {e c : Int} (he : 0 ≤ e ∧ e ≤ 7) (hc : 0 ≤ c ∧ c ≤ 536870911) : ev 61 [.pv (I e), .pv (I c)] [] = ok (I (bytesN e c)) := by
  have h := bits_mul (e := e) hc
  rw [listsize_Bytes_eq]
  have hb := bits_tab he
  simp only [I] at hb
  rw [show (0 + e.toNat * 1) = e.toNat by omega, hb, decide_eq_true he.1, decide_eq_true (show e < 8 by omega)]
  dsimp only [callT_ret, callT_pan, onlyPV_v, Option.bind_some, pBool_v, pTup_v, pAgg_v, aggOf_v, pSl_v, pInt_v, pI64, pU64, pU32, pU8, List.getElem?_cons_zero, List.getElem?_cons_succ, cells_v, cells_sl, cells_agg, isCell_v, isCell_sl, cnd_t, cnd_f, tt_and, ff_and, nt_t, nt_f, len1, len3, len5, len8, len10, hlen1, clen1, clen5]
  rw [listsize_up_eq, w64 (x := bitsOf e * c) (by omega), w64 (x := bitsOf e * c + 8) (by omega), w64 (x := bitsOf e * c + 8 - 1) (by omega), Int.tdiv_eq_ediv_of_nonneg (by omega), w64 (by omega), show bitsOf e * c + 8 - 1 = bitsOf e * c + 7 by omega]
  rfl
/-- The bytes of a list's elements: of bits, the last is cut. -/
def trimB (e c : Int) (b : List Int) : List Int :=
  if e = 1 ∧ 0 < c % 8 then b.take (bytesN e c - 1).toNat ++ [rd b (bytesN e c - 1) % 2 ^ (c % 8).toNat] else b.take (bytesN e c).toNat
theorem and8 {a : Int} (h : Byte a) {r : Nat} (hr : r ≤ 7) : IntKind.wrap .u8 (((BitVec.ofInt 8 a &&& BitVec.ofInt 8 ((2 ^ r - 1 : Nat) : Int)).toNat : Nat) : Int) = a % 2 ^ r := by
  obtain ⟨n, rfl⟩ := Int.eq_ofNat_of_zero_le h.1
  have hn : n < 256 := by have := h.2; omega
  have e1 : ∀ m : Nat, m < 256 → (BitVec.ofInt 8 (m : Int)).toNat = m := fun m hm => by simp; omega
  have hp : 2 ^ r ≤ 2 ^ 7 := Nat.pow_le_pow_right (by decide) hr
  rw [BitVec.toNat_and, e1 n hn, e1 _ (by omega), Nat.and_two_pow_sub_one_eq_mod, wu8_any]
  have : n % 2 ^ r ≤ n := Nat.mod_le _ _
  rw [Int.emod_eq_of_lt (Int.natCast_nonneg _) (by omega)]
  push_cast
  rfl
theorem V_Trim {e c : Int} {b : List Int} (he : 0 ≤ e ∧ e ≤ 7) (hc : 0 ≤ c ∧ c ≤ 536870911) (hb : ∀ x ∈ b, Byte x) (hn : bytesN e c ≤ b.length) : ev 49 [.pv (I e), .pv (I c), .pv (.sl 1 (bs b))] [] = ok (.sl 1 (bs (trimB e c b))) := by
  have hr := bytesN_range (e := e) hc
  rw [listsize_Trim_eq, V_BytesN he hc]
  dsimp only [callT_ret, callT_pan, onlyPV_v, Option.bind_some, pBool_v, pTup_v, pAgg_v, aggOf_v, pSl_v, pInt_v, pI64, pU64, pU32, pU8, List.getElem?_cons_zero, List.getElem?_cons_succ, cells_v, cells_sl, cells_agg, isCell_v, isCell_sl, cnd_t, cnd_f, tt_and, ff_and, nt_t, nt_f, len1, len3, len5, len8, len10, hlen1, clen1, clen5]
  rw [decide_eq_true hr.1, decide_eq_true (show bytesN e c ≤ ((bs b).length : Int) by simpa using hn)]
  dsimp only [callT_ret, callT_pan, onlyPV_v, Option.bind_some, pBool_v, pTup_v, pAgg_v, aggOf_v, pSl_v, pInt_v, pI64, pU64, pU32, pU8, List.getElem?_cons_zero, List.getElem?_cons_succ, cells_v, cells_sl, cells_agg, isCell_v, isCell_sl, cnd_t, cnd_f, tt_and, ff_and, nt_t, nt_f, len1, len3, len5, len8, len10, hlen1, clen1, clen5]
  have et : List.drop 0 (List.take (bytesN e c).toNat (bs b)) = bs (b.take (bytesN e c).toNat) := by simp [bs]
  rw [et, slices_Clone_byte_byte_eq, roomy_ok (by simp; omega) (by simp; omega)]
  dsimp only [callT_ret, callT_pan, onlyPV_v, Option.bind_some, pBool_v, pTup_v, pAgg_v, aggOf_v, pSl_v, pInt_v, pI64, pU64, pU32, pU8, List.getElem?_cons_zero, List.getElem?_cons_succ, cells_v, cells_sl, cells_agg, isCell_v, isCell_sl, cnd_t, cnd_f, tt_and, ff_and, nt_t, nt_f, len1, len3, len5, len8, len10, hlen1, clen1, clen5]
  rw [show pSlu 5 1 (.slu 5 1 (bs (b.take (bytesN e c).toNat))) = some (bs (b.take (bytesN e c).toNat)) from pSlu_v _ _ _]
  dsimp only [callT_ret, callT_pan, onlyPV_v, Option.bind_some, pBool_v, pTup_v, pAgg_v, aggOf_v, pSl_v, pInt_v, pI64, pU64, pU32, pU8, List.getElem?_cons_zero, List.getElem?_cons_succ, cells_v, cells_sl, cells_agg, isCell_v, isCell_sl, cnd_t, cnd_f, tt_and, ff_and, nt_t, nt_f, len1, len3, len5, len8, len10, hlen1, clen1, clen5]
  unfold trimB
  by_cases h1 : e = 1
  case neg => rw [beq_eq_false_iff_ne.2 h1, if_neg (fun h => h1 h.1)]; rfl
  subst h1
  rw [show ((1 : Int) == 1) = true from rfl, Int.tmod_eq_emod_of_nonneg hc.1]
  dsimp only [callT_ret, callT_pan, onlyPV_v, Option.bind_some, pBool_v, pTup_v, pAgg_v, aggOf_v, pSl_v, pInt_v, pI64, pU64, pU32, pU8, List.getElem?_cons_zero, List.getElem?_cons_succ, cells_v, cells_sl, cells_agg, isCell_v, isCell_sl, cnd_t, cnd_f, tt_and, ff_and, nt_t, nt_f, len1, len3, len5, len8, len10, hlen1, clen1, clen5]
  by_cases h8 : 0 < c % 8
  case neg => rw [decide_eq_false (show ¬ c % 8 > 0 by omega), if_neg (fun h => h8 h.2)]; rfl
  rw [decide_eq_true (show c % 8 > 0 by omega), if_pos ⟨rfl, h8⟩]
  have hpos : 1 ≤ bytesN 1 c := by unfold bytesN bitsOf; simp; omega
  have hlen : ((bs (b.take (bytesN 1 c).toNat)).length : Int) = bytesN 1 c := by simp; omega
  rw [hlen, w64 (x := bytesN 1 c - 1) (by omega), decide_eq_true (show 0 ≤ bytesN 1 c - 1 by omega), decide_eq_true (show bytesN 1 c - 1 < bytesN 1 c by omega)]
  have hg : (bs (b.take (bytesN 1 c).toNat))[(bytesN 1 c - 1).toNat]? = some (U8 (rd b (bytesN 1 c - 1))) := by
    rw [bs_get (by simp; omega)]
    simp only [rd, List.getD_eq_getElem?_getD, List.getElem_take]
    rw [List.getElem?_eq_getElem (show (bytesN 1 c - 1).toNat < b.length by omega)]
    rfl
  have hby : Byte (rd b (bytesN 1 c - 1)) := by
    unfold rd
    rw [List.getD_eq_getElem?_getD, List.getElem?_eq_getElem (by omega)]
    exact hb _ (List.getElem_mem _)
  dsimp only [callT_ret, callT_pan, onlyPV_v, Option.bind_some, pBool_v, pTup_v, pAgg_v, aggOf_v, pSl_v, pInt_v, pI64, pU64, pU32, pU8, List.getElem?_cons_zero, List.getElem?_cons_succ, cells_v, cells_sl, cells_agg, isCell_v, isCell_sl, cnd_t, cnd_f, tt_and, ff_and, nt_t, nt_f, len1, len3, len5, len8, len10, hlen1, clen1, clen5]
  rw [hg]
  dsimp only [callT_ret, callT_pan, onlyPV_v, Option.bind_some, pBool_v, pTup_v, pAgg_v, aggOf_v, pSl_v, pInt_v, pI64, pU64, pU32, pU8, List.getElem?_cons_zero, List.getElem?_cons_succ, cells_v, cells_sl, cells_agg, isCell_v, isCell_sl, cnd_t, cnd_f, tt_and, ff_and, nt_t, nt_f, len1, len3, len5, len8, len10, hlen1, clen1, clen5]
  have hs : IntKind.wrap .u64 (c % 8) = c % 8 := wu64 (by omega)
  have hk : (c % 8).toNat ≤ 7 := by omega
  have hmask : IntKind.wrap .u8 (IntKind.wrap .u8 (1 * 2 ^ (min (c % 8).toNat 8)) - 1) = ((2 ^ (c % 8).toNat - 1 : Nat) : Int) := by
    generalize (c % 8).toNat = r at hk
    have : r = 0 ∨ r = 1 ∨ r = 2 ∨ r = 3 ∨ r = 4 ∨ r = 5 ∨ r = 6 ∨ r = 7 := by omega
    rcases this with rfl | rfl | rfl | rfl | rfl | rfl | rfl | rfl <;> rfl
  rw [hs, hmask, and8 hby hk, show okBin .shl (c % 8) = true by simp [okBin]; omega]
  have hset : (bs (b.take (bytesN 1 c).toNat)).set (bytesN 1 c - 1).toNat (U8 (rd b (bytesN 1 c - 1) % 2 ^ (c % 8).toNat)) = bs (b.take (bytesN 1 c - 1).toNat ++ [rd b (bytesN 1 c - 1) % 2 ^ (c % 8).toNat]) := by
    have e1 : (bytesN 1 c).toNat = (bytesN 1 c - 1).toNat + 1 := by omega
    rw [e1, List.take_succ_eq_append_getElem (by omega), bs_app, bs_app]
    have hl : (bs (b.take (bytesN 1 c - 1).toNat)).length = (bytesN 1 c - 1).toNat := by simp; omega
    rw [List.set_append_right _ _ (by omega), hl, Nat.sub_self]
    rfl
  have hcell : setCells (U8 (rd b (bytesN 1 c - 1))) 0 [U8 (rd b (bytesN 1 c - 1) % 2 ^ (c % 8).toNat)] = some (U8 (rd b (bytesN 1 c - 1) % 2 ^ (c % 8).toNat)) := rfl
  dsimp only [callT_ret, callT_pan, onlyPV_v, Option.bind_some, pBool_v, pTup_v, pAgg_v, aggOf_v, pSl_v, pInt_v, pI64, pU64, pU32, pU8, List.getElem?_cons_zero, List.getElem?_cons_succ, cells_v, cells_sl, cells_agg, isCell_v, isCell_sl, cnd_t, cnd_f, tt_and, ff_and, nt_t, nt_f, len1, len3, len5, len8, len10, hlen1, clen1, clen5]
  rw [hcell]
  dsimp only [callT_ret, callT_pan, onlyPV_v, Option.bind_some, pBool_v, pTup_v, pAgg_v, aggOf_v, pSl_v, pInt_v, pI64, pU64, pU32, pU8, List.getElem?_cons_zero, List.getElem?_cons_succ, cells_v, cells_sl, cells_agg, isCell_v, isCell_sl, cnd_t, cnd_f, tt_and, ff_and, nt_t, nt_f, len1, len3, len5, len8, len10, hlen1, clen1, clen5]
  rw [hset]
  rfl
/-- An element of a composite list. -/
def elt (o : Ob) (i : Int) : Ob := ⟨1, o.seg, o.at_ + i * (o.data + o.ptrs), o.data, o.ptrs, 0, 0, 0⟩
/-- Where an object's pointers begin, and how many there are. -/
def ptsA (o : Ob) : Int := if o.kind = 1 ∧ 0 < o.ptrs then o.at_ + o.data else if o.kind = 2 ∧ o.elem = 6 ∧ 0 < o.n then o.at_ else 0
def ptsN (o : Ob) : Int := if o.kind = 1 ∧ 0 < o.ptrs then o.ptrs else if o.kind = 2 ∧ o.elem = 6 ∧ 0 < o.n then o.n else 0
theorem V_Element (o : Ob) (i : Int) (h1 : -4611686018427387904 ≤ o.data + o.ptrs ∧ o.data + o.ptrs ≤ 4611686018427387904) (h2 : -4611686018427387904 ≤ i * (o.data + o.ptrs) ∧ i * (o.data + o.ptrs) ≤ 4611686018427387904) (h3 : -4611686018427387904 ≤ o.at_ ∧ o.at_ ≤ 4611686018427387903) : ev 48 [.pv (.agg o.c), .pv (I i)] [] = ok (.agg (elt o i).c) := by
  rw [Ob.c, resolve_Element_eq, w64 (x := o.data + o.ptrs) (by omega), w64 (x := i * (o.data + o.ptrs)) (by omega), w64 (by omega)]
  rfl
theorem V_Pointers (o : Ob) (h1 : -4611686018427387904 ≤ o.at_ + o.data ∧ o.at_ + o.data ≤ 4611686018427387904) : ev 59 [.pv (.agg o.c)] [] = ok (.tup [I (ptsA o), I (ptsN o)]) := by
  rw [Ob.c, resolve_Pointers_eq, w64 (x := o.at_ + o.data) (by omega)]
  unfold ptsA ptsN
  simp only [cond_beq, cond_dec]
  by_cases k1 : o.kind = 1
  · by_cases k2 : 0 < o.ptrs
    · simp [k1, k2]
    · simp [k1, k2]
  · by_cases k3 : o.kind = 2
    · by_cases k4 : o.elem = 6
      · by_cases k5 : 0 < o.n
        · simp [k3, k4, k5]
        · simp [k3, k4, k5]
      · simp [k3, k4]
    · simp [k1, k3]
-- budgets
theorem V_Start (d w o : Int) : ev 19 [.pv (.agg [I d, I w, I o])] [] = ok (.agg [I (max w 0)]) := by
  rw [budget_Start_eq]
  have : (if 0 > w then 0 else w) = max w 0 := by omega
  rw [this]
theorem V_Enter (d w o x : Int) : ev 27 [.pv (.agg [I d, I w, I o]), .pv (I x)] [] = ok (I (if x > d then 7 else 0)) := by
  rw [budget_Enter_eq, cond_dec]
  split <;> rfl
theorem V_Charge (m c : Int) (hm : -4611686018427387904 ≤ m - c ∧ m - c ≤ 4611686018427387904) : ev 29 [.pv (.agg [I m]), .pv (I c)] [] = ok (.tup [.agg [I (if c > m then m else m - c)], I (if c > m then 8 else 0)]) := by
  rw [budget_Charge_eq, budget_counter_take_eq, w64 (x := m - c) (by omega)]
  by_cases h : c > m
  · rw [decide_eq_true h, if_pos h, if_pos h]; rfl
  · rw [decide_eq_false h, if_neg h, if_neg h]; rfl
end Go.Proofs.YtdcdefmdgicoeaaDoor.E
set_option linter.unusedVariables false
set_option linter.unusedSimpArgs false
namespace Go.Proofs.YtdcdefmdgicoeaaDoor.E
/-! Nodes: their trimmed forms. -/
inductive Nd where
  | mk (kind elem n : Int) (data : List Int) (kids : List Nd)
def Nd.kind : Nd → Int | .mk k _ _ _ _ => k
def Nd.elem : Nd → Int | .mk _ e _ _ _ => e
def Nd.n : Nd → Int | .mk _ _ n _ _ => n
def Nd.data : Nd → List Int | .mk _ _ _ d _ => d
def Nd.kids : Nd → List Nd | .mk _ _ _ _ ks => ks
def nd0 : Nd := .mk 0 0 0 [] []
theorem Nd.ind {P : Nd → Prop} (h : ∀ k e n d ks, (∀ x ∈ ks, P x) → P (.mk k e n d ks)) : ∀ x, P x
  | .mk k e n d ks => h k e n d ks fun x hx => Nd.ind h x
termination_by x => SizeOf.sizeOf x
decreasing_by
  have := List.sizeOf_lt_of_mem hx
  simp
  omega
mutual
def Nd.pv : Nd → PV
  | .mk k e n d ks => .agg [I k, I e, I n, .sl 1 (bs d), .sl 5 (pvs ks)]
def pvs : List Nd → List PV
  | [] => []
  | x :: l => x.pv :: pvs l
end
theorem pvs_eq : ∀ l : List Nd, pvs l = l.map Nd.pv
  | [] => rfl
  | x :: l => by rw [pvs, pvs_eq l]; rfl
def Nd.c (x : Nd) : List PV := [I x.kind, I x.elem, I x.n, .sl 1 (bs x.data), .sl 5 (pvs x.kids)]
theorem Nd.pv_c (x : Nd) : x.pv = .agg x.c := by cases x; rfl
@[simp] theorem pvs_len (l : List Nd) : (pvs l).length = l.length := by rw [pvs_eq]; simp
theorem pvs_get {l : List Nd} {i : Nat} (h : i < l.length) : (pvs l)[i]? = some l[i].pv := by rw [pvs_eq]; simp [h]
theorem pvs_take (l : List Nd) (n : Nat) : (pvs l).take n = pvs (l.take n) := by rw [pvs_eq, pvs_eq, List.map_take]
theorem pvs_app (a b : List Nd) : pvs (a ++ b) = pvs a ++ pvs b := by rw [pvs_eq, pvs_eq, pvs_eq, List.map_append]
theorem bs_take (l : List Int) (n : Nat) : (bs l).take n = bs (l.take n) := by simp [bs]
mutual
def good : Nd → Prop
  | .mk k e n d ks => (d.length ≤ 17592186044416 ∧ (∀ b ∈ d, Byte b) ∧ ks.length ≤ 1073741824 ∧ (k = 1 → d.length % 8 = 0)) ∧ goods ks
def goods : List Nd → Prop
  | [] => True
  | x :: l => good x ∧ goods l
end
theorem goods_iff : ∀ {l : List Nd}, goods l ↔ ∀ x ∈ l, good x
  | [] => by simp [goods]
  | x :: l => by simp [goods, goods_iff (l := l)]
/-- How much of a list is left without what ends it. -/
def keptN {α : Type} (p : α → Bool) (l : List α) : Nat := (l.reverse.dropWhile p).length
theorem keptN_le {α : Type} (p : α → Bool) (l : List α) : keptN p l ≤ l.length := by
  unfold keptN
  have := (List.dropWhile_sublist p (l := l.reverse)).length_le
  simpa using this
theorem keptN_snoc {α : Type} (p : α → Bool) (l : List α) (x : α) : keptN p (l ++ [x]) = if p x then keptN p l else l.length + 1 := by
  unfold keptN
  rw [List.reverse_append]
  simp only [List.reverse_cons, List.reverse_nil, List.nil_append, List.singleton_append, List.dropWhile_cons]
  split <;> simp
def wordsT (d : List Int) : Nat := (keptN (· == 0) d + 7) / 8
def ptrsT (ks : List Nd) : Nat := keptN (fun x => x.kind == 0) ks
mutual
def trimN : Nd → Nd
  | .mk k e n d ks => if k = 1 then .mk k e n (d.take (8 * wordsT d)) ((trimNs ks).take (ptrsT ks)) else .mk k e n d (trimNs ks)
def trimNs : List Nd → List Nd
  | [] => []
  | x :: l => trimN x :: trimNs l
end
theorem trimNs_eq : ∀ l : List Nd, trimNs l = l.map trimN
  | [] => rfl
  | x :: l => by rw [trimNs, trimNs_eq l]; rfl
theorem take_snoc {α : Type} {l : List α} {i : Nat} (h : i < l.length) : l.take (i + 1) = l.take i ++ [l[i]] := List.take_succ_eq_append_getElem h
-- the program's
theorem kept_bytes {d : List Int} (hd : d.length ≤ 17592186044416) : ∀ i : Nat, i ≤ d.length → trim_kept_byte_L0 (bs d) i = ok (I (keptN (· == 0) (d.take i) : Nat)) := by
  intro i
  induction i with
  | zero =>
    intro _
    rw [trim_kept_byte_L0_eq]
    rfl
  | succ i ih =>
    intro hi
    rw [trim_kept_byte_L0_eq, decide_eq_true (by omega), w64 (x := ((i + 1 : Nat) : Int) - 1) (by omega), show ((i + 1 : Nat) : Int) - 1 = (i : Int) by omega, decide_eq_true (by omega), decide_eq_true (by simp; omega)]
    dsimp only [callT_ret, callT_pan, onlyPV_v, Option.bind_some, pBool_v, pTup_v, pAgg_v, aggOf_v, pSl_v, pInt_v, pI64, pU64, pU32, pU8, List.getElem?_cons_zero, List.getElem?_cons_succ, cells_v, cells_sl, cells_agg, isCell_v, isCell_sl, cnd_t, cnd_f, tt_and, ff_and, nt_t, nt_f, len1, len3, len5, len8, len10, hlen1, clen1, clen5]
    rw [Int.toNat_natCast, bs_get (by omega)]
    dsimp only [callT_ret, callT_pan, onlyPV_v, Option.bind_some, pBool_v, pTup_v, pAgg_v, aggOf_v, pSl_v, pInt_v, pI64, pU64, pU32, pU8, List.getElem?_cons_zero, List.getElem?_cons_succ, cells_v, cells_sl, cells_agg, isCell_v, isCell_sl, cnd_t, cnd_f, tt_and, ff_and, nt_t, nt_f, len1, len3, len5, len8, len10, hlen1, clen1, clen5]
    rw [trim_Words_1_eq, ih (by omega), take_snoc (by omega), keptN_snoc]
    dsimp only [callT_ret, callT_pan, onlyPV_v, Option.bind_some, pBool_v, pTup_v, pAgg_v, aggOf_v, pSl_v, pInt_v, pI64, pU64, pU32, pU8, List.getElem?_cons_zero, List.getElem?_cons_succ, cells_v, cells_sl, cells_agg, isCell_v, isCell_sl, cnd_t, cnd_f, tt_and, ff_and, nt_t, nt_f, len1, len3, len5, len8, len10, hlen1, clen1, clen5]
    by_cases h0 : d[i] = 0
    · rw [beq_iff_eq.2 h0]; rfl
    · rw [beq_eq_false_iff_ne.2 h0]
      simp [show i ≤ d.length by omega]
theorem V_twords {d : List Int} (hd : d.length ≤ 17592186044416) : ev 21 [.pv (.sl 1 (bs d))] [] = ok (I (wordsT d : Nat)) := by
  have hk := keptN_le (· == 0) d
  rw [trim_Words_eq, trim_kept_byte_eq]
  have := kept_bytes hd d.length (by omega)
  rw [List.take_length] at this
  rw [bs_len, this]
  dsimp only [callT_ret, callT_pan, onlyPV_v, Option.bind_some, pBool_v, pTup_v, pAgg_v, aggOf_v, pSl_v, pInt_v, pI64, pU64, pU32, pU8, List.getElem?_cons_zero, List.getElem?_cons_succ, cells_v, cells_sl, cells_agg, isCell_v, isCell_sl, cnd_t, cnd_f, tt_and, ff_and, nt_t, nt_f, len1, len3, len5, len8, len10, hlen1, clen1, clen5]
  rw [w64 (x := (keptN (· == 0) d : Nat) + 8) (by omega), w64 (x := ((keptN (· == 0) d : Nat) : Int) + 8 - 1) (by omega), Int.tdiv_eq_ediv_of_nonneg (by omega), w64 (by omega)]
  have e : (((keptN (· == 0) d : Nat) : Int) + 8 - 1) / 8 = ((wordsT d : Nat) : Int) := by unfold wordsT; omega
  rw [e]
theorem nd_take5 (x : Nd) : PV.agg ((x.pv.cells.drop 0).take 5) = x.pv := by cases x; rfl
theorem nd_five (x : Nd) : decide (5 ≤ x.pv.cells.length) = true := by cases x; rfl
theorem kept_nodes {l : List Nd} (hl : l.length ≤ 1073741824) : ∀ i : Nat, i ≤ l.length → trim_kept_api_Node_L0 (pvs l) i = ok (I (ptrsT (l.take i) : Nat)) := by
  intro i
  induction i with
  | zero =>
    intro _
    rw [trim_kept_api_Node_L0_eq]
    rfl
  | succ i ih =>
    intro hi
    rw [trim_kept_api_Node_L0_eq, decide_eq_true (by omega), w64 (x := ((i + 1 : Nat) : Int) - 1) (by omega), show ((i + 1 : Nat) : Int) - 1 = (i : Int) by omega, decide_eq_true (by omega), decide_eq_true (by simp; omega)]
    dsimp only [callT_ret, callT_pan, onlyPV_v, Option.bind_some, pBool_v, pTup_v, pAgg_v, aggOf_v, pSl_v, pInt_v, pI64, pU64, pU32, pU8, List.getElem?_cons_zero, List.getElem?_cons_succ, cells_v, cells_sl, cells_agg, isCell_v, isCell_sl, cnd_t, cnd_f, tt_and, ff_and, nt_t, nt_f, len1, len3, len5, len8, len10, hlen1, clen1, clen5]
    rw [Int.toNat_natCast, pvs_get (by omega)]
    dsimp only [callT_ret, callT_pan, onlyPV_v, Option.bind_some, pBool_v, pTup_v, pAgg_v, aggOf_v, pSl_v, pInt_v, pI64, pU64, pU32, pU8, List.getElem?_cons_zero, List.getElem?_cons_succ, cells_v, cells_sl, cells_agg, isCell_v, isCell_sl, cnd_t, cnd_f, tt_and, ff_and, nt_t, nt_f, len1, len3, len5, len8, len10, hlen1, clen1, clen5]
    rw [nd_five, nd_take5, Nd.pv_c, Nd.c, trim_Pointers_1_eq, ih (by omega), take_snoc (by omega)]
    unfold ptrsT
    rw [keptN_snoc]
    dsimp only [callT_ret, callT_pan, onlyPV_v, Option.bind_some, pBool_v, pTup_v, pAgg_v, aggOf_v, pSl_v, pInt_v, pI64, pU64, pU32, pU8, List.getElem?_cons_zero, List.getElem?_cons_succ, cells_v, cells_sl, cells_agg, isCell_v, isCell_sl, cnd_t, cnd_f, tt_and, ff_and, nt_t, nt_f, len1, len3, len5, len8, len10, hlen1, clen1, clen5]
    by_cases h0 : l[i].kind = 0
    · rw [beq_iff_eq.2 h0]; rfl
    · rw [beq_eq_false_iff_ne.2 h0]
      simp [show i ≤ l.length by omega]
theorem V_tptrs {l : List Nd} (hl : l.length ≤ 1073741824) : ev 22 [.pv (.sl 5 (pvs l))] [] = ok (I (ptrsT l : Nat)) := by
  rw [trim_Pointers_eq, trim_kept_api_Node_eq]
  have := kept_nodes hl l.length (by omega)
  rw [List.take_length] at this
  rw [pvs_len, this]
  rfl
theorem nd_back (x : Nd) : ∃ c0 c1 c2 c3 c4, x.pv.cells = [c0, c1, c2, c3, c4] ∧ x.pv = .agg [c0, c1, c2, c3, c4] ∧ c0.isCell = true ∧ c1.isCell = true ∧ c2.isCell = true ∧ c3.isCell = true ∧ c4.isCell = true := by
  cases x; exact ⟨_, _, _, _, _, rfl, rfl, rfl, rfl, rfl, rfl, rfl⟩
theorem drop0 {α : Type} (l : List α) : l.drop 0 = l := rfl
end Go.Proofs.YtdcdefmdgicoeaaDoor.E
set_option linter.unusedVariables false
set_option linter.unusedSimpArgs false
namespace Go.Proofs.YtdcdefmdgicoeaaDoor.E
/-! What a traversal computes. -/
def cutB (l : List (List Int)) (s a n : Int) : List Int := if inB l s a n then cut l s a n else []
theorem cutB_len (l : List (List Int)) (s a n : Int) : (cutB l s a n).length ≤ n.toNat := by
  unfold cutB
  split
  · unfold cut
    rw [List.length_take]
    omega
  · simp
theorem V_SliceB {l : List (List Int)} (h : Segs l) (s a n : Int) (hn : n ≤ 17592186044416) : ev 53 [.pv (.sl 1 (sgs l)), .pv (I s), .pv (I a), .pv (I n)] [] = ok (.tup [.sl 1 (ws (cutB l s a n)), Bo (decide (inB l s a n))]) := by
  rw [V_Slice h s a n hn]
  unfold cutB
  by_cases hb : inB l s a n
  · rw [if_pos hb, if_pos hb, decide_eq_true hb]
  · rw [if_neg hb, if_neg hb, decide_eq_false hb]; rfl
/-- What is known of an object that was found. -/
def ObOk (l : List (List Int)) (o : Ob) : Prop := (0 ≤ o.at_ ∧ o.at_ ≤ 1099511627776) ∧ (0 ≤ o.data ∧ o.data ≤ 65535) ∧ (0 ≤ o.ptrs ∧ o.ptrs ≤ 65535) ∧ (0 ≤ o.elem ∧ o.elem ≤ 7) ∧ (0 ≤ o.n ∧ o.n ≤ 536870911) ∧ (0 ≤ o.cost ∧ o.cost ≤ 2147483648) ∧ (o.kind = 1 ∨ o.kind = 2) ∧ (o.kind = 2 → o.elem < 6 → inB l o.seg o.at_ o.cost ∧ o.cost = wordsOf o.elem o.n) ∧ (o.kind = 2 → o.elem ≠ 7 → o.data = 0 ∧ o.ptrs = 0)
theorem inB_at {l : List (List Int)} (hs : Sm l) {s a n : Int} (h : inB l s a n) : 0 ≤ a ∧ a + n ≤ 1099511627776 ∧ 0 ≤ n := by
  have := hs s
  obtain ⟨h1, h2, h3, h4, h5⟩ := h
  omega
theorem bad_no {e : Int} {P : Prop} (h : (bad e).2 = 0) (he : e ≠ 0) : P := absurd h he
theorem objS_ok {l : List (List Int)} (hs : Sm l) {s st d q : Int} (hd : 0 ≤ d ∧ d ≤ 65535) (hq : 0 ≤ q ∧ q ≤ 65535) (h : (objS l s st d q).2 = 0) : ObOk l (objS l s st d q).1 := by
  unfold objS at h ⊢
  by_cases hb : inB l s st (d + q)
  · rw [if_pos hb] at h ⊢
    obtain ⟨a1, a2, a3⟩ := inB_at hs hb
    exact ⟨⟨a1, by dsimp only; omega⟩, hd, hq, ⟨by dsimp only; omega, by dsimp only; omega⟩, ⟨by dsimp only; omega, by dsimp only; omega⟩, ⟨by dsimp only; omega, by dsimp only; omega⟩, .inl rfl, fun h => absurd h (by dsimp only; omega), fun h => absurd h (by dsimp only; omega)⟩
  · rw [if_neg hb] at h
    exact bad_no h (by decide)
theorem objC_ok {l : List (List Int)} (hl : Segs l) (hs : Sm l) {s st c : Int} (hc : 0 ≤ c ∧ c ≤ 536870911) (h : (objC l s st c).2 = 0) : ObOk l (objC l s st c).1 := by
  unfold objC at h ⊢
  by_cases hb : inB l s st (c + 1)
  · rw [if_pos hb] at h ⊢
    have hd := dec_small (wd_word hl s st)
    generalize decI (wd l s st) = p at h hd ⊢
    by_cases hk : p.1 = 0 ∧ 0 ≤ p.2.1 ∧ p.2.1 * (p.2.2.1 + p.2.2.2.1) ≤ c
    · rw [if_pos hk] at h ⊢
      obtain ⟨a1, a2, a3⟩ := inB_at hs hb
      refine ⟨⟨by dsimp only; omega, by dsimp only; omega⟩, ⟨by dsimp only; omega, by dsimp only; omega⟩, ⟨by dsimp only; omega, by dsimp only; omega⟩, ⟨by dsimp only; omega, by dsimp only; omega⟩, ⟨by dsimp only; omega, by dsimp only; omega⟩, ⟨by dsimp only; split <;> omega, by dsimp only; split <;> omega⟩, .inr rfl, fun _ h => absurd h (by dsimp only; omega), fun _ h => absurd rfl h⟩
    · rw [if_neg hk] at h
      exact bad_no h (by decide)
  · rw [if_neg hb] at h
    exact bad_no h (by decide)
theorem objL_ok {l : List (List Int)} (hl : Segs l) (hs : Sm l) {s st e c : Int} (he : 0 ≤ e ∧ e ≤ 7) (hc : 0 ≤ c ∧ c ≤ 536870911) (h : (objL l s st e c).2 = 0) : ObOk l (objL l s st e c).1 := by
  unfold objL at h ⊢
  by_cases h7 : e = 7
  · rw [if_pos h7] at h ⊢
    exact objC_ok hl hs hc h
  · rw [if_neg h7] at h ⊢
    by_cases hb : inB l s st (wordsOf e c)
    · rw [if_pos hb] at h ⊢
      obtain ⟨a1, a2, a3⟩ := inB_at hs hb
      have hw := wordsOf_range (e := e) hc
      exact ⟨⟨a1, by dsimp only; omega⟩, ⟨by dsimp only; omega, by dsimp only; omega⟩, ⟨by dsimp only; omega, by dsimp only; omega⟩, he, hc, ⟨hw.1, by dsimp only; omega⟩, .inr rfl, fun _ _ => ⟨hb, rfl⟩, fun _ _ => ⟨rfl, rfl⟩⟩
    · rw [if_neg hb] at h
      exact bad_no h (by decide)
theorem obj_ok {l : List (List Int)} (hl : Segs l) (hs : Sm l) {s a : Int} (h0 : (fol l s a).1 ≠ 0) (he : (fol l s a).2.2.2 = 0) (h : (obj l s a).2 = 0) : ObOk l (obj l s a).1 := by
  have hd := dec_small (fol_word hl s a)
  unfold obj at h ⊢
  rw [if_pos he, if_neg h0] at h ⊢
  unfold objP at h ⊢
  generalize decI (fol l s a).1 = p at h hd ⊢
  by_cases k0 : p.1 = 0
  · rw [if_pos k0] at h ⊢
    exact objS_ok hs (by omega) (by omega) h
  · rw [if_neg k0] at h ⊢
    by_cases k1 : p.1 = 1
    · rw [if_pos k1] at h ⊢
      exact objL_ok hl hs (by omega) (by omega) h
    · rw [if_neg k1] at h
      split at h
      · exact bad_no h (by decide)
      · exact bad_no h (by decide)
-- the spec
def kidsF (F : Int → Nat → Nd × Int × Int) : Nat → Nat → Int → List Nd → List Nd × Int × Int
  | 0, _, m, acc => (acc, m, 0)
  | c + 1, i, m, acc => if (F m i).2.2 = 0 then kidsF F c (i + 1) (F m i).2.1 (acc ++ [(F m i).1]) else ([], (F m i).2.1, (F m i).2.2)
def wrapK (t : List Nd × Int × Int) (f : List Nd → Nd) : Nd × Int × Int := (if t.2.2 = 0 then f t.1 else nd0, t.2.1, t.2.2)
def strct (F : Int → Int → Int → Nd × Int × Int) (l : List (List Int)) (m : Int) (o : Ob) : Nd × Int × Int :=
  wrapK (kidsF (fun m i => F m o.seg (o.at_ + o.data + i)) o.ptrs.toNat 0 m []) fun ks => .mk 1 0 0 (byt (cutB l o.seg o.at_ o.data)) ks
def denL (F : Int → Int → Int → Nd × Int × Int) (l : List (List Int)) (m : Int) (o : Ob) : Nd × Int × Int :=
  if o.elem < 6 then (.mk 2 o.elem o.n (trimB o.elem o.n (byt (cutB l o.seg o.at_ o.cost))) [], m, 0)
  else wrapK (kidsF (fun m i => if o.elem = 6 then F m o.seg (o.at_ + i) else strct F l m (elt o i)) o.n.toNat 0 m []) fun ks => .mk 2 o.elem o.n [] ks
def denO (F : Int → Int → Int → Nd × Int × Int) (l : List (List Int)) (m : Int) (t : Ob × Int) : Nd × Int × Int :=
  if t.2 = 0 then (if t.1.cost > m then (nd0, m, 8) else if t.1.kind = 1 then strct F l (m - t.1.cost) t.1 else denL F l (m - t.1.cost) t.1) else (nd0, m, t.2)
def den (l : List (List Int)) : Nat → Int → Int → Int → Nd × Int × Int
  | 0 => fun m s a => if (fol l s a).2.2.2 = 0 then (if (fol l s a).1 = 0 then (nd0, m, 0) else (nd0, m, 7)) else (nd0, m, (fol l s a).2.2.2)
  | D + 1 => fun m s a => if (fol l s a).2.2.2 = 0 then (if (fol l s a).1 = 0 then (nd0, m, 0) else denO (den l D) l m (obj l s a)) else (nd0, m, (fol l s a).2.2.2)
/-- A meter that is well within. -/
def Mt (m : Int) : Prop := 0 ≤ m ∧ m ≤ 4611686018427387904
/-- A traversal's answer is well-formed. -/
def Fn (t : Nd × Int × Int) : Prop := Mt t.2.1 ∧ good t.1
theorem good0 : good nd0 := by unfold nd0; rw [good]; exact ⟨⟨by simp, by simp, by simp, by simp⟩, trivial⟩
theorem kidsF_ok {F : Int → Nat → Nd × Int × Int} (hF : ∀ m i, Mt m → Fn (F m i)) : ∀ c i m acc, Mt m → goods acc → Mt (kidsF F c i m acc).2.1 ∧ goods (kidsF F c i m acc).1 ∧ (kidsF F c i m acc).1.length ≤ acc.length + c := by
  intro c
  induction c with
  | zero => intro i m acc hm ha; exact ⟨hm, ha, Nat.le_refl _⟩
  | succ c ih =>
    intro i m acc hm ha
    rw [kidsF]
    split
    · obtain ⟨a1, a2, a3⟩ := ih (i + 1) (F m i).2.1 (acc ++ [(F m i).1]) (hF m i hm).1 (goods_iff.2 fun x hx => by
        rcases List.mem_append.1 hx with h | h
        · exact goods_iff.1 ha x h
        · rw [List.mem_singleton.1 h]; exact (hF m i hm).2)
      exact ⟨a1, a2, by simp at a3; omega⟩
    · exact ⟨(hF m i hm).1, trivial, by simp⟩
theorem wrapK_ok {t : List Nd × Int × Int} {f : List Nd → Nd} (hm : Mt t.2.1) (hf : good (f t.1)) : Fn (wrapK t f) := by
  refine ⟨hm, ?_⟩
  unfold wrapK
  dsimp only
  split
  · exact hf
  · exact good0
theorem byt_words8 (l : List (List Int)) (s a n : Int) : (byt (cutB l s a n)).length % 8 = 0 := by rw [byt_len]; omega
theorem trimB_le (e c : Int) (b : List Int) : (trimB e c b).length ≤ b.length + 1 := by
  unfold trimB
  split
  · rw [List.length_append, List.length_take]; simp; omega
  · rw [List.length_take]; omega
theorem trimB_byte (e c : Int) (b : List Int) (hb : ∀ x ∈ b, Byte x) : ∀ x ∈ trimB e c b, Byte x := by
  unfold trimB
  intro x hx
  split at hx
  · rename_i h1
    rcases List.mem_append.1 hx with h | h
    · exact hb x (List.mem_of_mem_take h)
    · rw [List.mem_singleton.1 h]
      have hc : (c % 8).toNat = 0 ∨ (c % 8).toNat = 1 ∨ (c % 8).toNat = 2 ∨ (c % 8).toNat = 3 ∨ (c % 8).toNat = 4 ∨ (c % 8).toNat = 5 ∨ (c % 8).toNat = 6 ∨ (c % 8).toNat = 7 := by omega
      unfold Byte
      rcases hc with h | h | h | h | h | h | h | h <;> rw [h] <;> simp only [Nat.reducePow, Int.reducePow, Int.pow_zero, Int.pow_succ, Int.reduceMul] <;> omega
  · exact hb x (List.mem_of_mem_take hx)
theorem strct_ok {F : Int → Int → Int → Nd × Int × Int} (hF : ∀ m s a, Mt m → Fn (F m s a)) (l : List (List Int)) {m : Int} (hm : Mt m) {o : Ob} (hd : o.data ≤ 65535) (hq : o.ptrs ≤ 65535) : Fn (strct F l m o) := by
  obtain ⟨a1, a2, a3⟩ := kidsF_ok (F := fun m i => F m o.seg (o.at_ + o.data + i)) (fun m i h => hF m _ _ h) o.ptrs.toNat 0 m [] hm trivial
  refine wrapK_ok a1 ?_
  rw [good]
  have := cutB_len l o.seg o.at_ o.data
  refine ⟨⟨?_, byt_byte _, ?_, fun _ => byt_words8 l _ _ _⟩, a2⟩
  · rw [byt_len]; omega
  · simp at a3; omega
theorem denO_ok {F : Int → Int → Int → Nd × Int × Int} (hF : ∀ m s a, Mt m → Fn (F m s a)) (l : List (List Int)) {m : Int} (hm : Mt m) {t : Ob × Int} (ht : t.2 = 0 → ObOk l t.1) : Fn (denO F l m t) := by
  unfold denO
  by_cases h0 : t.2 = 0
  · rw [if_pos h0]
    obtain ⟨hat, hd, hq, he, hn, hc, hk, hw, hz⟩ := ht h0
    by_cases h8 : t.1.cost > m
    · rw [if_pos h8]; exact ⟨hm, good0⟩
    · rw [if_neg h8]
      have hm' : Mt (m - t.1.cost) := ⟨by unfold Mt at hm; omega, by unfold Mt at hm; omega⟩
      by_cases h1 : t.1.kind = 1
      · rw [if_pos h1]; exact strct_ok hF l hm' hd.2 hq.2
      · rw [if_neg h1]
        unfold denL
        by_cases h6 : t.1.elem < 6
        · rw [if_pos h6]
          refine ⟨hm', ?_⟩
          rw [good]
          have := cutB_len l t.1.seg t.1.at_ t.1.cost
          have := trimB_le t.1.elem t.1.n (byt (cutB l t.1.seg t.1.at_ t.1.cost))
          rw [byt_len] at this
          exact ⟨⟨by omega, trimB_byte _ _ _ (byt_byte _), by simp, fun h => absurd h (by decide)⟩, trivial⟩
        · rw [if_neg h6]
          obtain ⟨a1, a2, a3⟩ := kidsF_ok (F := fun m i => if t.1.elem = 6 then F m t.1.seg (t.1.at_ + i) else strct F l m (elt t.1 i)) (fun m i h => by
            split
            · exact hF m _ _ h
            · exact strct_ok hF l h hd.2 hq.2) t.1.n.toNat 0 (m - t.1.cost) [] hm' trivial
          refine wrapK_ok a1 ?_
          rw [good]
          exact ⟨⟨by simp, by simp, by simp at a3; omega, fun h => absurd h (by decide)⟩, a2⟩
  · rw [if_neg h0]; exact ⟨hm, good0⟩
theorem den_ok {l : List (List Int)} (hl : Segs l) (hs : Sm l) : ∀ D m s a, Mt m → Fn (den l D m s a) := by
  intro D
  induction D with
  | zero =>
    intro m s a hm
    unfold den
    split
    · split <;> exact ⟨hm, good0⟩
    · exact ⟨hm, good0⟩
  | succ D ih =>
    intro m s a hm
    unfold den
    split
    · rename_i he
      split
      · exact ⟨hm, good0⟩
      · rename_i h0
        exact denO_ok ih l hm fun h => obj_ok hl hs h0 he h
    · exact ⟨hm, good0⟩
end Go.Proofs.YtdcdefmdgicoeaaDoor.E
set_option linter.unusedVariables false
set_option linter.unusedSimpArgs false
namespace Go.Proofs.YtdcdefmdgicoeaaDoor.E
/-! The reference's traversal. -/
theorem pvs_snoc (acc : List Nd) (x : Nd) : pvs acc ++ [.agg [I x.kind, I x.elem, I x.n, .sl 1 (bs x.data), .sl 5 (pvs x.kids)]] = pvs (acc ++ [x]) := by
  rw [pvs_app]
  cases x; rfl
theorem kidsF_err {F : Int → Nat → Nd × Int × Int} {c i : Nat} {m : Int} {acc : List Nd} (h : (F m i).2.2 ≠ 0) : kidsF F (c + 1) i m acc = ([], (F m i).2.1, (F m i).2.2) := by rw [kidsF, if_neg h]
theorem kidsF_go {F : Int → Nat → Nd × Int × Int} {c i : Nat} {m : Int} {acc : List Nd} (h : (F m i).2.2 = 0) : kidsF F (c + 1) i m acc = kidsF F c (i + 1) (F m i).2.1 (acc ++ [(F m i).1]) := by rw [kidsF, if_pos h]
theorem den_err {l : List (List Int)} {D : Nat} {m s a : Int} (h : (fol l s a).2.2.2 ≠ 0) : den l D m s a = (nd0, m, (fol l s a).2.2.2) := by
  cases D <;> (rw [den]; dsimp only; rw [if_neg h])
theorem den_nil {l : List (List Int)} {D : Nat} {m s a : Int} (h : (fol l s a).2.2.2 = 0) (h0 : (fol l s a).1 = 0) : den l D m s a = (nd0, m, 0) := by
  cases D <;> (rw [den]; dsimp only; rw [if_pos h, if_pos h0])
theorem den_deep {l : List (List Int)} {m s a : Int} (h : (fol l s a).2.2.2 = 0) (h0 : (fol l s a).1 ≠ 0) : den l 0 m s a = (nd0, m, 7) := by
  rw [den]; dsimp only; rw [if_pos h, if_neg h0]
theorem den_obj {l : List (List Int)} {D : Nat} {m s a : Int} (h : (fol l s a).2.2.2 = 0) (h0 : (fol l s a).1 ≠ 0) : den l (D + 1) m s a = denO (den l D) l m (obj l s a) := by
  rw [den]; dsimp only; rw [if_pos h, if_neg h0]
theorem bne_t {a : Int} (h : a ≠ 0) : (a != 0) = true := by simpa using h
theorem bytes_room {l : List (List Int)} {o : Ob} (hn : 0 ≤ o.n ∧ o.n ≤ 536870911) (hb : inB l o.seg o.at_ o.cost ∧ o.cost = wordsOf o.elem o.n) (h6 : o.elem < 6) : bytesN o.elem o.n ≤ ((byt (cutB l o.seg o.at_ o.cost)).length : Int) := by
  rw [byt_len]
  unfold cutB
  rw [if_pos hb.1, cut_len hb.1]
  have hw := wordsOf_range (e := o.elem) hn
  have h2 := hb.2
  unfold wordsOf at h2
  rw [if_neg (by omega)] at h2
  unfold bytesN
  have := bits_mul (e := o.elem) hn
  omega
end Go.Proofs.YtdcdefmdgicoeaaDoor.E
set_option linter.unusedVariables false
set_option linter.unusedSimpArgs false
namespace Go.Proofs.YtdcdefmdgicoeaaDoor.E
/-! The program's traversal. -/
/-- The reader's cells. -/
abbrev hp (l : List (List Int)) (d w b m : Int) : Heap := [[.pv (.sl 1 (sgs l)), .pv (I d), .pv (I w), .pv (I b), .pv (I m)]]
/-- What a call that may fail answers. -/
def resC (l : List (List Int)) (d w b : Int) (e m : Int) (p : PV) : Option (Out × Heap) := if e = 0 then some (.ret (.pv p), hp l d w b m) else some (.pan (.ifc 56 (.agg [I e])), hp l d w b m)
theorem resC_ok {l : List (List Int)} {d w b e m : Int} {p : PV} (h : e = 0) : resC l d w b e m p = some (.ret (.pv p), [[.pv (.sl 1 (sgs l)), .pv (I d), .pv (I w), .pv (I b), .pv (I m)]]) := by rw [resC, if_pos h]
theorem resC_err {l : List (List Int)} {d w b e m : Int} {p : PV} (h : e ≠ 0) : resC l d w b e m p = some (.pan (.ifc 56 (.agg [I e])), [[.pv (.sl 1 (sgs l)), .pv (I d), .pv (I w), .pv (I b), .pv (I m)]]) := by rw [resC, if_neg h]
def Nd.x (x : Nd) : PV := .agg [I x.kind, I x.elem, I x.n, .sl 1 (bs x.data), .sl 5 (pvs x.kids)]
def CV (l : List (List Int)) (d w b : Int) (dep : Int) (F : Int → Int → Int → Nd × Int × Int) : Prop := ∀ m s a, Mt m → ev 20 [.ptr 0 0, .pv (I s), .pv (I a), .pv (I dep)] [[.pv (.sl 1 (sgs l)), .pv (I d), .pv (I w), .pv (I b), .pv (I m)]] = resC l d w b (F m s a).2.2 (F m s a).2.1 (F m s a).1.x
theorem V_check0 {e : Int} (h : e = 0) : ev 25 [.pv (I e)] [] = ok (.tup []) := by rw [denote_check_eq, h]; rfl
theorem V_checkE {e : Int} (h : e ≠ 0) : ev 25 [.pv (I e)] [] = some (.pan (.ifc 56 (.agg [I e])), []) := by rw [denote_check_eq, bne_t h]; rfl
theorem nd_allx (x : Nd) : ((decide (x.x.cells.length = 5) && x.x.cells.all PV.isCell) && true) = true := rfl
theorem pvs_snocx (acc : List Nd) (x : Nd) : pvs acc ++ [x.x] = pvs (acc ++ [x]) := pvs_snoc acc x
theorem V_cbytes {l : List (List Int)} (hl : Segs l) (d w b m : Int) (o : Ob) (a n : Int) (hn : n ≤ 8796093022208) : ev 46 [.ptr 0 0, .pv (.agg o.c), .pv (I a), .pv (I n)] [[.pv (.sl 1 (sgs l)), .pv (I d), .pv (I w), .pv (I b), .pv (I m)]] = some (.ret (.pv (.sl 1 (bs (byt (cutB l o.seg a n))))), [[.pv (.sl 1 (sgs l)), .pv (I d), .pv (I w), .pv (I b), .pv (I m)]]) := by
  have hcl := cutB_len l o.seg a n
  rw [Ob.c, denote_reader_bytes_eq, V_SliceB hl _ _ _ (by omega)]
  dsimp only [callT_ret, callT_pan, onlyPV_v, Option.bind_some, pBool_v, pTup_v, pAgg_v, aggOf_v, pSl_v, pInt_v, pI64, pU64, pU32, pU8, List.getElem?_cons_zero, List.getElem?_cons_succ, cells_v, cells_sl, cells_agg, isCell_v, isCell_sl, cnd_t, cnd_f, tt_and, ff_and, nt_t, nt_f, len1, len3, len5, len8, len10, hlen1, clen1, clen5]
  rw [V_Bytes _ (by omega)]
  rfl
theorem cptrs_loop {l : List (List Int)} {d w b dep : Int} {F : Int → Int → Int → Nd × Int × Int} (hF : CV l d w b (dep + 1) F) (hO : ∀ m s a, Mt m → Fn (F m s a)) (hdep : 0 ≤ dep ∧ dep ≤ 1099511627776) {k sg at_ dt q e n cst A Q : Int} (hA : 0 ≤ A ∧ A ≤ 2251799813685248) (hQ : 0 ≤ Q ∧ Q ≤ 536870911) : ∀ (c i : Nat) (m : Int) (acc : List Nd), i + c = Q.toNat → acc.length = i → Mt m →
    denote_reader_pointers_L0 dep (pvs acc) (I A) (I Q) i (.sl 1 (sgs l)) (I d) (I w) (I b) (I m) k sg at_ dt q e n cst = resC l d w b (kidsF (fun m i => F m sg (A + i)) c i m acc).2.2 (kidsF (fun m i => F m sg (A + i)) c i m acc).2.1 (.sl 5 (pvs (kidsF (fun m i => F m sg (A + i)) c i m acc).1)) := by
  intro c
  induction c with
  | zero =>
    intro i m acc hi ha hm
    rw [denote_reader_pointers_L0_eq]
    dsimp only [callT_ret, callT_pan, onlyPV_v, Option.bind_some, pBool_v, pTup_v, pAgg_v, aggOf_v, pSl_v, pInt_v, pI64, pU64, pU32, pU8, List.getElem?_cons_zero, List.getElem?_cons_succ, cells_v, cells_sl, cells_agg, isCell_v, isCell_sl, cnd_t, cnd_f, tt_and, ff_and, nt_t, nt_f, len1, len3, len5, len8, len10, hlen1, clen1, clen5]
    rw [decide_eq_false (by omega)]
    rfl
  | succ c ih =>
    intro i m acc hi ha hm
    rw [denote_reader_pointers_L0_eq]
    dsimp only [callT_ret, callT_pan, onlyPV_v, Option.bind_some, pBool_v, pTup_v, pAgg_v, aggOf_v, pSl_v, pInt_v, pI64, pU64, pU32, pU8, List.getElem?_cons_zero, List.getElem?_cons_succ, cells_v, cells_sl, cells_agg, isCell_v, isCell_sl, cnd_t, cnd_f, tt_and, ff_and, nt_t, nt_f, len1, len3, len5, len8, len10, hlen1, clen1, clen5]
    rw [decide_eq_true (show (i : Int) < Q by omega), w64 (x := A + i) (by omega), w64 (x := dep + 1) (by omega)]
    dsimp only [callT_ret, callT_pan, onlyPV_v, Option.bind_some, pBool_v, pTup_v, pAgg_v, aggOf_v, pSl_v, pInt_v, pI64, pU64, pU32, pU8, List.getElem?_cons_zero, List.getElem?_cons_succ, cells_v, cells_sl, cells_agg, isCell_v, isCell_sl, cnd_t, cnd_f, tt_and, ff_and, nt_t, nt_f, len1, len3, len5, len8, len10, hlen1, clen1, clen5]
    rw [hF m sg (A + i) hm]
    by_cases h0 : (F m sg (A + i)).2.2 = 0
    · rw [kidsF_go (F := fun m (i : Nat) => F m sg (A + i)) (by exact h0), resC_ok h0]
      dsimp only [callT_ret, callT_pan, onlyPV_v, Option.bind_some, pBool_v, pTup_v, pAgg_v, aggOf_v, pSl_v, pInt_v, pI64, pU64, pU32, pU8, List.getElem?_cons_zero, List.getElem?_cons_succ, cells_v, cells_sl, cells_agg, isCell_v, isCell_sl, cnd_t, cnd_f, tt_and, ff_and, nt_t, nt_f, len1, len3, len5, len8, len10, hlen1, clen1, clen5]
      rw [nd_allx]
      dsimp only [callT_ret, callT_pan, onlyPV_v, Option.bind_some, pBool_v, pTup_v, pAgg_v, aggOf_v, pSl_v, pInt_v, pI64, pU64, pU32, pU8, List.getElem?_cons_zero, List.getElem?_cons_succ, cells_v, cells_sl, cells_agg, isCell_v, isCell_sl, cnd_t, cnd_f, tt_and, ff_and, nt_t, nt_f, len1, len3, len5, len8, len10, hlen1, clen1, clen5]
      rw [roomy_ok (by simp; omega) (by simp; omega), pvs_snocx, w64 (x := (i : Int) + 1) (by omega)]
      exact ih (i + 1) _ _ (by omega) (by simp; omega) (hO m sg _ hm).1
    · rw [kidsF_err (F := fun m (i : Nat) => F m sg (A + i)) (by exact h0), resC_err h0, resC_err h0]
      rfl
theorem V_cptrs {l : List (List Int)} {d w b dep : Int} {F : Int → Int → Int → Nd × Int × Int} (hF : CV l d w b (dep + 1) F) (hO : ∀ m s a, Mt m → Fn (F m s a)) (hdep : 0 ≤ dep ∧ dep ≤ 1099511627776) {o : Ob} (hat : 0 ≤ o.at_ ∧ o.at_ ≤ 1125899906842624) (hdt : 0 ≤ o.data ∧ o.data ≤ 65535) {A Q : Int} (hA : ptsA o = A) (hQ : ptsN o = Q) (hA' : 0 ≤ A ∧ A ≤ 2251799813685248) (hQ' : 0 ≤ Q ∧ Q ≤ 536870911) {m : Int} (hm : Mt m) : ev 47 [.ptr 0 0, .pv (.agg o.c), .pv (I dep)] [[.pv (.sl 1 (sgs l)), .pv (I d), .pv (I w), .pv (I b), .pv (I m)]] = resC l d w b (kidsF (fun m i => F m o.seg (A + i)) Q.toNat 0 m []).2.2 (kidsF (fun m i => F m o.seg (A + i)) Q.toNat 0 m []).2.1 (.sl 5 (pvs (kidsF (fun m i => F m o.seg (A + i)) Q.toNat 0 m []).1)) := by
  have hp := V_Pointers o (by omega)
  rw [hA, hQ] at hp
  rw [Ob.c] at hp ⊢
  rw [denote_reader_pointers_eq, hp]
  dsimp only [callT_ret, callT_pan, onlyPV_v, Option.bind_some, pBool_v, pTup_v, pAgg_v, aggOf_v, pSl_v, pInt_v, pI64, pU64, pU32, pU8, List.getElem?_cons_zero, List.getElem?_cons_succ, cells_v, cells_sl, cells_agg, isCell_v, isCell_sl, cnd_t, cnd_f, tt_and, ff_and, nt_t, nt_f, len1, len3, len5, len8, len10, hlen1, clen1, clen5]
  exact cptrs_loop hF hO hdep hA' hQ' Q.toNat 0 m [] (by omega) rfl hm
theorem kidsF_base {F : Int → Int → Int → Nd × Int × Int} (sg : Int) {A A' Q : Int} {m : Int} (h : 0 < Q → A' = A) : kidsF (fun m (i : Nat) => F m sg (A' + i)) (if 0 < Q then Q else 0).toNat 0 m [] = kidsF (fun m (i : Nat) => F m sg (A + i)) Q.toNat 0 m [] := by
  by_cases hQ : 0 < Q
  · rw [if_pos hQ, h hQ]
  · rw [if_neg hQ, show Q.toNat = 0 by omega]; rfl
theorem wrapK_ok0 {t : List Nd × Int × Int} {f : List Nd → Nd} (h : t.2.2 = 0) : wrapK t f = (f t.1, t.2.1, t.2.2) := by
  unfold wrapK
  rw [if_pos h]
theorem wrapK_no {t : List Nd × Int × Int} {f : List Nd → Nd} (h : t.2.2 ≠ 0) : wrapK t f = (nd0, t.2.1, t.2.2) := by
  unfold wrapK
  rw [if_neg h]
theorem V_cstruct {l : List (List Int)} (hl : Segs l) {d w b dep : Int} {F : Int → Int → Int → Nd × Int × Int} (hF : CV l d w b (dep + 1) F) (hO : ∀ m s a, Mt m → Fn (F m s a)) (hdep : 0 ≤ dep ∧ dep ≤ 1099511627776) {o : Ob} (hat : 0 ≤ o.at_ ∧ o.at_ ≤ 1125899906842624) (hdt : 0 ≤ o.data ∧ o.data ≤ 65535) (hq : 0 ≤ o.ptrs ∧ o.ptrs ≤ 65535) (hk : o.kind = 1) {m : Int} (hm : Mt m) : ev 30 [.ptr 0 0, .pv (.agg o.c), .pv (I dep)] [[.pv (.sl 1 (sgs l)), .pv (I d), .pv (I w), .pv (I b), .pv (I m)]] = resC l d w b (strct F l m o).2.2 (strct F l m o).2.1 (strct F l m o).1.x := by
  have e1 := V_cbytes hl d w b m o o.at_ o.data (by omega)
  have hA : ptsA o = if 0 < o.ptrs then o.at_ + o.data else 0 := by
    unfold ptsA
    by_cases h : 0 < o.ptrs
    · rw [if_pos ⟨hk, h⟩, if_pos h]
    · rw [if_neg (fun x => h x.2), if_neg (fun x => absurd x.1 (by omega)), if_neg h]
  have hQ : ptsN o = if 0 < o.ptrs then o.ptrs else 0 := by
    unfold ptsN
    by_cases h : 0 < o.ptrs
    · rw [if_pos ⟨hk, h⟩, if_pos h]
    · rw [if_neg (fun x => h x.2), if_neg (fun x => absurd x.1 (by omega)), if_neg h]
  have e2 := V_cptrs hF hO hdep hat hdt hA hQ (by split <;> omega) (by split <;> omega) hm
  rw [kidsF_base (F := F) o.seg (A := o.at_ + o.data) (fun h => if_pos h)] at e2
  rw [Ob.c] at e1 e2 ⊢
  rw [denote_reader_structure_eq, e1]
  dsimp only [callT_ret, callT_pan, onlyPV_v, Option.bind_some, pBool_v, pTup_v, pAgg_v, aggOf_v, pSl_v, pInt_v, pI64, pU64, pU32, pU8, List.getElem?_cons_zero, List.getElem?_cons_succ, cells_v, cells_sl, cells_agg, isCell_v, isCell_sl, cnd_t, cnd_f, tt_and, ff_and, nt_t, nt_f, len1, len3, len5, len8, len10, hlen1, clen1, clen5]
  rw [e2]
  unfold strct
  generalize hK : kidsF (fun m (i : Nat) => F m o.seg (o.at_ + o.data + i)) o.ptrs.toNat 0 m [] = K
  by_cases h0 : K.2.2 = 0
  · rw [resC_ok h0, wrapK_ok0 h0]
    dsimp only [callT_ret, callT_pan, onlyPV_v, Option.bind_some, pBool_v, pTup_v, pAgg_v, aggOf_v, pSl_v, pInt_v, pI64, pU64, pU32, pU8, List.getElem?_cons_zero, List.getElem?_cons_succ, cells_v, cells_sl, cells_agg, isCell_v, isCell_sl, cnd_t, cnd_f, tt_and, ff_and, nt_t, nt_f, len1, len3, len5, len8, len10, hlen1, clen1, clen5]
    rw [resC_ok h0]
    rfl
  · rw [resC_err h0, wrapK_no h0]
    dsimp only [callT_ret, callT_pan, onlyPV_v, Option.bind_some, pBool_v, pTup_v, pAgg_v, aggOf_v, pSl_v, pInt_v, pI64, pU64, pU32, pU8, List.getElem?_cons_zero, List.getElem?_cons_succ, cells_v, cells_sl, cells_agg, isCell_v, isCell_sl, cnd_t, cnd_f, tt_and, ff_and, nt_t, nt_f, len1, len3, len5, len8, len10, hlen1, clen1, clen5]
    rw [resC_err h0]
theorem clist_loop {l : List (List Int)} (hl : Segs l) {d w b dep : Int} {F : Int → Int → Int → Nd × Int × Int} (hF : CV l d w b (dep + 1) F) (hO : ∀ m s a, Mt m → Fn (F m s a)) (hdep : 0 ≤ dep ∧ dep ≤ 1099511627776) {o : Ob} (hat : 0 ≤ o.at_ ∧ o.at_ ≤ 1099511627776) (hdt : 0 ≤ o.data ∧ o.data ≤ 65535) (hq : 0 ≤ o.ptrs ∧ o.ptrs ≤ 65535) (hn : 0 ≤ o.n ∧ o.n ≤ 536870911) : ∀ (c i : Nat) (m : Int) (acc : List Nd), i + c = o.n.toNat → acc.length = i → Mt m →
    denote_reader_list_L1 dep o.n i (.sl 1 (sgs l)) (I d) (I w) (I b) (I m) o.kind o.seg o.at_ o.data o.ptrs o.elem o.n o.cost 0 0 0 [] [] 2 o.elem o.n [] (pvs acc) = resC l d w b (kidsF (fun m (i : Nat) => strct F l m (elt o i)) c i m acc).2.2 (kidsF (fun m (i : Nat) => strct F l m (elt o i)) c i m acc).2.1 (.agg [I 2, I o.elem, I o.n, .sl 1 [], .sl 5 (pvs (kidsF (fun m (i : Nat) => strct F l m (elt o i)) c i m acc).1)]) := by
  intro c
  induction c with
  | zero =>
    intro i m acc hi ha hm
    rw [denote_reader_list_L1_eq, decide_eq_false (by omega)]
    rfl
  | succ c ih =>
    intro i m acc hi ha hm
    have hmul : 0 ≤ (i : Int) * (o.data + o.ptrs) ∧ (i : Int) * (o.data + o.ptrs) ≤ 536870911 * 131070 := size_small (by omega) (by omega)
    have hel := V_Element o i (by omega) (by omega) (by omega)
    rw [Ob.c] at hel
    rw [denote_reader_list_L1_eq, decide_eq_true (by omega), hel]
    dsimp only [callT_ret, callT_pan, onlyPV_v, Option.bind_some, pBool_v, pTup_v, pAgg_v, aggOf_v, pSl_v, pInt_v, pI64, pU64, pU32, pU8, List.getElem?_cons_zero, List.getElem?_cons_succ, cells_v, cells_sl, cells_agg, isCell_v, isCell_sl, cnd_t, cnd_f, tt_and, ff_and, nt_t, nt_f, len1, len3, len5, len8, len10, hlen1, clen1, clen5]
    rw [V_cstruct hl hF hO hdep (o := elt o i) ⟨by dsimp only [elt]; omega, by dsimp only [elt]; omega⟩ hdt hq rfl hm]
    have hk := strct_ok hO l hm (o := elt o i) hdt.2 hq.2
    by_cases h0 : (strct F l m (elt o i)).2.2 = 0
    · rw [kidsF_go (F := fun m (i : Nat) => strct F l m (elt o i)) (by exact h0), resC_ok h0]
      dsimp only [callT_ret, callT_pan, onlyPV_v, Option.bind_some, pBool_v, pTup_v, pAgg_v, aggOf_v, pSl_v, pInt_v, pI64, pU64, pU32, pU8, List.getElem?_cons_zero, List.getElem?_cons_succ, cells_v, cells_sl, cells_agg, isCell_v, isCell_sl, cnd_t, cnd_f, tt_and, ff_and, nt_t, nt_f, len1, len3, len5, len8, len10, hlen1, clen1, clen5]
      rw [nd_allx]
      dsimp only [callT_ret, callT_pan, onlyPV_v, Option.bind_some, pBool_v, pTup_v, pAgg_v, aggOf_v, pSl_v, pInt_v, pI64, pU64, pU32, pU8, List.getElem?_cons_zero, List.getElem?_cons_succ, cells_v, cells_sl, cells_agg, isCell_v, isCell_sl, cnd_t, cnd_f, tt_and, ff_and, nt_t, nt_f, len1, len3, len5, len8, len10, hlen1, clen1, clen5]
      rw [roomy_ok (by simp; omega) (by simp; omega), pvs_snocx, w64 (x := (i : Int) + 1) (by omega)]
      exact ih (i + 1) _ _ (by omega) (by simp; omega) hk.1
    · rw [kidsF_err (F := fun m (i : Nat) => strct F l m (elt o i)) (by exact h0), resC_err h0, resC_err h0]
      rfl
theorem V_clist {l : List (List Int)} (hl : Segs l) {d w b dep : Int} {F : Int → Int → Int → Nd × Int × Int} (hF : CV l d w b (dep + 1) F) (hO : ∀ m s a, Mt m → Fn (F m s a)) (hdep : 0 ≤ dep ∧ dep ≤ 1099511627776) {o : Ob} (hok : ObOk l o) (hk : o.kind = 2) {m : Int} (hm : Mt m) : ev 31 [.ptr 0 0, .pv (.agg o.c), .pv (I dep)] [[.pv (.sl 1 (sgs l)), .pv (I d), .pv (I w), .pv (I b), .pv (I m)]] = resC l d w b (denL F l m o).2.2 (denL F l m o).2.1 (denL F l m o).1.x := by
  obtain ⟨hat, hdt, hq, hel, hn, hc, hk', hw, hz⟩ := hok
  unfold denL
  by_cases h6 : o.elem < 6
  · have e1 := V_cbytes hl d w b m o o.at_ o.cost (by omega)
    rw [Ob.c] at e1 ⊢
    rw [denote_reader_list_eq, beq_eq_false_iff_ne.2 (show o.elem ≠ 6 by omega), beq_eq_false_iff_ne.2 (show o.elem ≠ 7 by omega), e1, if_pos h6]
    dsimp only [callT_ret, callT_pan, onlyPV_v, Option.bind_some, pBool_v, pTup_v, pAgg_v, aggOf_v, pSl_v, pInt_v, pI64, pU64, pU32, pU8, List.getElem?_cons_zero, List.getElem?_cons_succ, cells_v, cells_sl, cells_agg, isCell_v, isCell_sl, cnd_t, cnd_f, tt_and, ff_and, nt_t, nt_f, len1, len3, len5, len8, len10, hlen1, clen1, clen5]
    rw [V_Trim hel hn (byt_byte _) (bytes_room hn (hw hk h6) h6)]
    rfl
  · rw [if_neg h6]
    by_cases h7 : o.elem = 6
    · have hE : (fun m (i : Nat) => if o.elem = 6 then F m o.seg (o.at_ + i) else strct F l m (elt o i)) = fun m (i : Nat) => F m o.seg (o.at_ + i) := by funext m i; rw [if_pos h7]
      rw [hE]
      have hA : ptsA o = if 0 < o.n then o.at_ else 0 := by
        unfold ptsA
        rw [if_neg (fun x => absurd x.1 (by omega))]
        by_cases h : 0 < o.n
        · rw [if_pos ⟨hk, h7, h⟩, if_pos h]
        · rw [if_neg (fun x => h x.2.2), if_neg h]
      have hQ : ptsN o = if 0 < o.n then o.n else 0 := by
        unfold ptsN
        rw [if_neg (fun x => absurd x.1 (by omega))]
        by_cases h : 0 < o.n
        · rw [if_pos ⟨hk, h7, h⟩, if_pos h]
        · rw [if_neg (fun x => h x.2.2), if_neg h]
      have e2 := V_cptrs hF hO hdep (o := o) ⟨hat.1, by omega⟩ hdt hA hQ (by split <;> omega) (by split <;> omega) hm
      rw [kidsF_base (F := F) o.seg (A := o.at_) (fun h => if_pos h)] at e2
      rw [Ob.c] at e2 ⊢
      rw [denote_reader_list_eq, beq_iff_eq.2 h7, e2]
      generalize hK : kidsF (fun m (i : Nat) => F m o.seg (o.at_ + i)) o.n.toNat 0 m [] = K
      by_cases h0 : K.2.2 = 0
      · rw [resC_ok h0, wrapK_ok0 h0]
        dsimp only [callT_ret, callT_pan, onlyPV_v, Option.bind_some, pBool_v, pTup_v, pAgg_v, aggOf_v, pSl_v, pInt_v, pI64, pU64, pU32, pU8, List.getElem?_cons_zero, List.getElem?_cons_succ, cells_v, cells_sl, cells_agg, isCell_v, isCell_sl, cnd_t, cnd_f, tt_and, ff_and, nt_t, nt_f, len1, len3, len5, len8, len10, hlen1, clen1, clen5]
        rw [resC_ok h0]
        rfl
      · rw [resC_err h0, wrapK_no h0]
        dsimp only [callT_ret, callT_pan, onlyPV_v, Option.bind_some, pBool_v, pTup_v, pAgg_v, aggOf_v, pSl_v, pInt_v, pI64, pU64, pU32, pU8, List.getElem?_cons_zero, List.getElem?_cons_succ, cells_v, cells_sl, cells_agg, isCell_v, isCell_sl, cnd_t, cnd_f, tt_and, ff_and, nt_t, nt_f, len1, len3, len5, len8, len10, hlen1, clen1, clen5]
        rw [resC_err h0]
    · have hE : (fun m (i : Nat) => if o.elem = 6 then F m o.seg (o.at_ + i) else strct F l m (elt o i)) = fun m (i : Nat) => strct F l m (elt o i) := by funext m i; rw [if_neg h7]
      rw [hE, Ob.c, denote_reader_list_eq, beq_eq_false_iff_ne.2 h7, beq_iff_eq.2 (show o.elem = 7 by omega)]
      dsimp only [callT_ret, callT_pan, onlyPV_v, Option.bind_some, pBool_v, pTup_v, pAgg_v, aggOf_v, pSl_v, pInt_v, pI64, pU64, pU32, pU8, List.getElem?_cons_zero, List.getElem?_cons_succ, cells_v, cells_sl, cells_agg, isCell_v, isCell_sl, cnd_t, cnd_f, tt_and, ff_and, nt_t, nt_f, len1, len3, len5, len8, len10, hlen1, clen1, clen5]
      refine (clist_loop hl hF hO hdep hat hdt hq hn o.n.toNat 0 m [] (by omega) rfl hm).trans ?_
      generalize hK : kidsF (fun m (i : Nat) => strct F l m (elt o i)) o.n.toNat 0 m [] = K
      by_cases h0 : K.2.2 = 0
      · rw [resC_ok h0, wrapK_ok0 h0]
        dsimp only
        rw [resC_ok h0]
        rfl
      · rw [resC_err h0, wrapK_no h0]
        dsimp only
        rw [resC_err h0]
theorem V_value {l : List (List Int)} (hl : Segs l) (hs : Sm l) {d w b : Int} (hd : d ≤ 1099511627775) : ∀ (D : Nat) (dep : Int), 0 ≤ dep → dep ≤ 1099511627776 → (d + 1 - dep).toNat = D → CV l d w b dep (den l D) := by
  intro D
  induction D with
  | zero =>
    intro dep h0 h1 hD m s a hm
    rw [denote_reader_value_eq, V_Follow hl]
    dsimp only [folc, callT_ret, callT_pan, onlyPV_v, Option.bind_some, pBool_v, pTup_v, pAgg_v, aggOf_v, pSl_v, pInt_v, pI64, pU64, pU32, pU8, List.getElem?_cons_zero, List.getElem?_cons_succ, cells_v, cells_sl, cells_agg, isCell_v, isCell_sl, cnd_t, cnd_f, tt_and, ff_and, nt_t, nt_f, len1, len3, len5, len8, len10, hlen1, clen1, clen5]
    by_cases he : (fol l s a).2.2.2 = 0
    · rw [V_check0 he]
      dsimp only [callT_ret, callT_pan, onlyPV_v, Option.bind_some, pBool_v, pTup_v, pAgg_v, aggOf_v, pSl_v, pInt_v, pI64, pU64, pU32, pU8, List.getElem?_cons_zero, List.getElem?_cons_succ, cells_v, cells_sl, cells_agg, isCell_v, isCell_sl, cnd_t, cnd_f, tt_and, ff_and, nt_t, nt_f, len1, len3, len5, len8, len10, hlen1, clen1, clen5]
      rw [pointer_IsNull_eq]
      dsimp only [callT_ret, callT_pan, onlyPV_v, Option.bind_some, pBool_v, pTup_v, pAgg_v, aggOf_v, pSl_v, pInt_v, pI64, pU64, pU32, pU8, List.getElem?_cons_zero, List.getElem?_cons_succ, cells_v, cells_sl, cells_agg, isCell_v, isCell_sl, cnd_t, cnd_f, tt_and, ff_and, nt_t, nt_f, len1, len3, len5, len8, len10, hlen1, clen1, clen5]
      by_cases hz : (fol l s a).1 = 0
      · rw [beq_iff_eq.2 hz, den_nil he hz]
        rfl
      · rw [beq_eq_false_iff_ne.2 hz, V_Enter, if_pos (show dep > d by omega), den_deep he hz]
        dsimp only [callT_ret, callT_pan, onlyPV_v, Option.bind_some, pBool_v, pTup_v, pAgg_v, aggOf_v, pSl_v, pInt_v, pI64, pU64, pU32, pU8, List.getElem?_cons_zero, List.getElem?_cons_succ, cells_v, cells_sl, cells_agg, isCell_v, isCell_sl, cnd_t, cnd_f, tt_and, ff_and, nt_t, nt_f, len1, len3, len5, len8, len10, hlen1, clen1, clen5]
        rw [V_checkE (by decide)]
        rfl
    · rw [V_checkE he, den_err he, resC_err he]
      rfl
  | succ D ih =>
    intro dep h0 h1 hD m s a hm
    have hF := ih (dep + 1) (by omega) (by omega) (by omega)
    have hO := den_ok hl hs D
    rw [denote_reader_value_eq, V_Follow hl]
    dsimp only [folc, callT_ret, callT_pan, onlyPV_v, Option.bind_some, pBool_v, pTup_v, pAgg_v, aggOf_v, pSl_v, pInt_v, pI64, pU64, pU32, pU8, List.getElem?_cons_zero, List.getElem?_cons_succ, cells_v, cells_sl, cells_agg, isCell_v, isCell_sl, cnd_t, cnd_f, tt_and, ff_and, nt_t, nt_f, len1, len3, len5, len8, len10, hlen1, clen1, clen5]
    by_cases he : (fol l s a).2.2.2 = 0
    · rw [V_check0 he]
      dsimp only [callT_ret, callT_pan, onlyPV_v, Option.bind_some, pBool_v, pTup_v, pAgg_v, aggOf_v, pSl_v, pInt_v, pI64, pU64, pU32, pU8, List.getElem?_cons_zero, List.getElem?_cons_succ, cells_v, cells_sl, cells_agg, isCell_v, isCell_sl, cnd_t, cnd_f, tt_and, ff_and, nt_t, nt_f, len1, len3, len5, len8, len10, hlen1, clen1, clen5]
      rw [pointer_IsNull_eq]
      dsimp only [callT_ret, callT_pan, onlyPV_v, Option.bind_some, pBool_v, pTup_v, pAgg_v, aggOf_v, pSl_v, pInt_v, pI64, pU64, pU32, pU8, List.getElem?_cons_zero, List.getElem?_cons_succ, cells_v, cells_sl, cells_agg, isCell_v, isCell_sl, cnd_t, cnd_f, tt_and, ff_and, nt_t, nt_f, len1, len3, len5, len8, len10, hlen1, clen1, clen5]
      by_cases hz : (fol l s a).1 = 0
      · rw [beq_iff_eq.2 hz, den_nil he hz]
        rfl
      · have hok := obj_ok hl hs hz he
        rw [beq_eq_false_iff_ne.2 hz, V_Enter, if_neg (show ¬ dep > d by omega), den_obj he hz]
        dsimp only [callT_ret, callT_pan, onlyPV_v, Option.bind_some, pBool_v, pTup_v, pAgg_v, aggOf_v, pSl_v, pInt_v, pI64, pU64, pU32, pU8, List.getElem?_cons_zero, List.getElem?_cons_succ, cells_v, cells_sl, cells_agg, isCell_v, isCell_sl, cnd_t, cnd_f, tt_and, ff_and, nt_t, nt_f, len1, len3, len5, len8, len10, hlen1, clen1, clen5]
        rw [V_check0 rfl, V_Object hl hs]
        generalize obj l s a = t at hok ⊢
        dsimp only [obR, Ob.c, callT_ret, callT_pan, onlyPV_v, Option.bind_some, pBool_v, pTup_v, pAgg_v, aggOf_v, pSl_v, pInt_v, pI64, pU64, pU32, pU8, List.getElem?_cons_zero, List.getElem?_cons_succ, cells_v, cells_sl, cells_agg, isCell_v, isCell_sl, cnd_t, cnd_f, tt_and, ff_and, nt_t, nt_f, len1, len3, len5, len8, len10, hlen1, clen1, clen5]
        unfold denO
        by_cases hf : t.2 = 0
        · have hok := hok hf
          obtain ⟨hat, hdt, hq, hel, hn, hc, hk, hw, hz'⟩ := id hok
          obtain ⟨o, f⟩ := t
          dsimp only at hf hok hat hdt hq hel hn hc hk hw hz' ⊢
          rw [V_check0 hf, if_pos hf]
          dsimp only [callT_ret, callT_pan, onlyPV_v, Option.bind_some, pBool_v, pTup_v, pAgg_v, aggOf_v, pSl_v, pInt_v, pI64, pU64, pU32, pU8, List.getElem?_cons_zero, List.getElem?_cons_succ, cells_v, cells_sl, cells_agg, isCell_v, isCell_sl, cnd_t, cnd_f, tt_and, ff_and, nt_t, nt_f, len1, len3, len5, len8, len10, hlen1, clen1, clen5]
          rw [V_Charge m o.cost (by unfold Mt at hm; omega)]
          dsimp only [callT_ret, callT_pan, onlyPV_v, Option.bind_some, pBool_v, pTup_v, pAgg_v, aggOf_v, pSl_v, pInt_v, pI64, pU64, pU32, pU8, List.getElem?_cons_zero, List.getElem?_cons_succ, cells_v, cells_sl, cells_agg, isCell_v, isCell_sl, cnd_t, cnd_f, tt_and, ff_and, nt_t, nt_f, len1, len3, len5, len8, len10, hlen1, clen1, clen5]
          by_cases h8 : o.cost > m
          · rw [if_pos h8, if_pos h8, if_pos h8, V_checkE (by decide)]
            rfl
          · have hm' : Mt (m - o.cost) := ⟨by unfold Mt at hm; omega, by unfold Mt at hm; omega⟩
            rw [if_neg h8, if_neg h8, if_neg h8, V_check0 rfl]
            dsimp only [callT_ret, callT_pan, onlyPV_v, Option.bind_some, pBool_v, pTup_v, pAgg_v, aggOf_v, pSl_v, pInt_v, pI64, pU64, pU32, pU8, List.getElem?_cons_zero, List.getElem?_cons_succ, cells_v, cells_sl, cells_agg, isCell_v, isCell_sl, cnd_t, cnd_f, tt_and, ff_and, nt_t, nt_f, len1, len3, len5, len8, len10, hlen1, clen1, clen5]
            by_cases hk1 : o.kind = 1
            · rw [beq_iff_eq.2 hk1, if_pos hk1]
              dsimp only [callT_ret, callT_pan, onlyPV_v, Option.bind_some, pBool_v, pTup_v, pAgg_v, aggOf_v, pSl_v, pInt_v, pI64, pU64, pU32, pU8, List.getElem?_cons_zero, List.getElem?_cons_succ, cells_v, cells_sl, cells_agg, isCell_v, isCell_sl, cnd_t, cnd_f, tt_and, ff_and, nt_t, nt_f, len1, len3, len5, len8, len10, hlen1, clen1, clen5]
              have := V_cstruct hl hF hO ⟨h0, by omega⟩ (o := o) ⟨hat.1, by omega⟩ hdt hq hk1 hm'
              rw [Ob.c] at this
              rw [this]
              generalize strct (den l D) l (m - o.cost) o = K
              by_cases h9 : K.2.2 = 0
              · rw [resC_ok h9]; rfl
              · rw [resC_err h9]; rfl
            · have hk2 : o.kind = 2 := by omega
              rw [beq_eq_false_iff_ne.2 hk1, if_neg hk1]
              dsimp only [callT_ret, callT_pan, onlyPV_v, Option.bind_some, pBool_v, pTup_v, pAgg_v, aggOf_v, pSl_v, pInt_v, pI64, pU64, pU32, pU8, List.getElem?_cons_zero, List.getElem?_cons_succ, cells_v, cells_sl, cells_agg, isCell_v, isCell_sl, cnd_t, cnd_f, tt_and, ff_and, nt_t, nt_f, len1, len3, len5, len8, len10, hlen1, clen1, clen5]
              have := V_clist hl hF hO ⟨h0, by omega⟩ hok hk2 hm'
              rw [Ob.c] at this
              rw [this]
              generalize denL (den l D) l (m - o.cost) o = K
              by_cases h9 : K.2.2 = 0
              · rw [resC_ok h9]; rfl
              · rw [resC_err h9]; rfl
        · rw [if_neg hf, V_checkE hf, resC_err hf]
          rfl
    · rw [V_checkE he, den_err he, resC_err he]
      rfl
end Go.Proofs.YtdcdefmdgicoeaaDoor.E
set_option linter.unusedVariables false
set_option linter.unusedSimpArgs false
namespace Go.Proofs.YtdcdefmdgicoeaaDoor.E
/-! Messages: what Message and Measure answer. -/
def emp (l : List (List Int)) : Prop := 0 < l.length ∧ (rdL l 0).length = 0
instance (l : List (List Int)) : Decidable (emp l) := by unfold emp; infer_instance
/-- The traversal of a message. -/
def runT (l : List (List Int)) (d w : Int) : Nd × Int × Int := if emp l then (nd0, max w 0, 0) else den l d.toNat (max w 0) 0 0
def msgN (l : List (List Int)) (d w : Int) : Nd := if (runT l d w).2.2 = 0 then trimN (runT l d w).1 else nd0
def msgE (l : List (List Int)) (d w : Int) : Int := (runT l d w).2.2
def meaC (l : List (List Int)) (d w : Int) : Int := if (runT l d w).2.2 = 0 then max w 0 - (runT l d w).2.1 else 0
theorem clA1 (a : PV) : decide ((PV.agg [a]).cells.length = 1) = true := rfl
theorem trimN0 : trimN nd0 = nd0 := rfl
theorem runT_ok {l : List (List Int)} (hl : Segs l) (hs : Sm l) {d w : Int} (hw : w ≤ 4611686018427387904) : Fn (runT l d w) := by
  have hm : Mt (max w 0) := ⟨by omega, by omega⟩
  unfold runT
  split
  · exact ⟨hm, good0⟩
  · exact den_ok hl hs _ _ _ _ hm
theorem sgs0 {l : List (List Int)} (h : 0 < l.length) : (sgs l)[0]? = some (.sl 1 (ws (rdL l 0))) := by
  have := sgs_rd (l := l) (i := 0) (by omega) (by omega)
  exact this
def runV (t : Nd × Int × Int) : PV := .tup [if t.2.2 = 0 then t.1.x else nd0.x, .agg [if t.2.2 = 0 then I t.2.1 else I 0], I t.2.2]
theorem nd0x : nd0.x = .agg [I 0, I 0, I 0, .sl 1 [], .sl 5 []] := rfl
theorem V_run {l : List (List Int)} (hl : Segs l) (hs : Sm l) {d w b : Int} (hd : d ≤ 1099511627775) (hw : w ≤ 4611686018427387904) : ev 13 [.pv (.sl 1 (sgs l)), .pv (.agg [I d, I w, I b])] [] = ok (runV (runT l d w)) := by
  have hm : Mt (max w 0) := ⟨by omega, by omega⟩
  have hv := V_value hl hs (d := d) (w := w) (b := b) hd d.toNat 1 (by omega) (by omega) (by omega) (max w 0) 0 0 hm
  rw [denote_run_eq, V_Start]
  dsimp only [callT_ret, onlyPV_v, Option.bind_some]
  rw [clA1]
  dsimp only [callT_ret, callT_pan, onlyPV_v, Option.bind_some, pBool_v, pTup_v, pAgg_v, aggOf_v, pSl_v, pInt_v, pI64, pU64, pU32, pU8, List.getElem?_cons_zero, List.getElem?_cons_succ, cells_v, cells_sl, cells_agg, isCell_v, isCell_sl, cnd_t, cnd_f, tt_and, ff_and, nt_t, nt_f, len1, len3, len5, len8, len10, hlen1, clen1, clen5]
  by_cases h0 : 0 < l.length
  · rw [decide_eq_true (show ((sgs l).length : Int) > 0 by rw [sgs_len]; omega), sgs0 h0]
    dsimp only [callT_ret, callT_pan, onlyPV_v, Option.bind_some, pBool_v, pTup_v, pAgg_v, aggOf_v, pSl_v, pInt_v, pI64, pU64, pU32, pU8, List.getElem?_cons_zero, List.getElem?_cons_succ, cells_v, cells_sl, cells_agg, isCell_v, isCell_sl, cnd_t, cnd_f, tt_and, ff_and, nt_t, nt_f, len1, len3, len5, len8, len10, hlen1, clen1, clen5]
    by_cases he : (rdL l 0).length = 0
    · rw [ws_len, he, show (((0 : Nat) : Int) == 0) = true from rfl]
      dsimp only [callT_ret, callT_pan, onlyPV_v, Option.bind_some, pBool_v, pTup_v, pAgg_v, aggOf_v, pSl_v, pInt_v, pI64, pU64, pU32, pU8, List.getElem?_cons_zero, List.getElem?_cons_succ, cells_v, cells_sl, cells_agg, isCell_v, isCell_sl, cnd_t, cnd_f, tt_and, ff_and, nt_t, nt_f, len1, len3, len5, len8, len10, hlen1, clen1, clen5]
      rw [runT, if_pos ⟨h0, he⟩]
      rfl
    · rw [ws_len, beq_eq_false_iff_ne.2 (show ((rdL l 0).length : Int) ≠ 0 by omega)]
      dsimp only [callT_ret, callT_pan, onlyPV_v, Option.bind_some, pBool_v, pTup_v, pAgg_v, aggOf_v, pSl_v, pInt_v, pI64, pU64, pU32, pU8, List.getElem?_cons_zero, List.getElem?_cons_succ, cells_v, cells_sl, cells_agg, isCell_v, isCell_sl, cnd_t, cnd_f, tt_and, ff_and, nt_t, nt_f, len1, len3, len5, len8, len10, hlen1, clen1, clen5]
      rw [hv, runT, if_neg (fun h => he h.2)]
      generalize den l d.toNat (max w 0) 0 0 = K
      by_cases h9 : K.2.2 = 0
      · rw [resC_ok h9, runV, if_pos h9, if_pos h9, h9]; rfl
      · rw [resC_err h9, runV, if_neg h9, if_neg h9]; rfl
  · rw [decide_eq_false (show ¬ ((sgs l).length : Int) > 0 by rw [sgs_len]; omega)]
    dsimp only [callT_ret, callT_pan, onlyPV_v, Option.bind_some, pBool_v, pTup_v, pAgg_v, aggOf_v, pSl_v, pInt_v, pI64, pU64, pU32, pU8, List.getElem?_cons_zero, List.getElem?_cons_succ, cells_v, cells_sl, cells_agg, isCell_v, isCell_sl, cnd_t, cnd_f, tt_and, ff_and, nt_t, nt_f, len1, len3, len5, len8, len10, hlen1, clen1, clen5]
    rw [hv, runT, if_neg (fun h => h0 h.1)]
    generalize den l d.toNat (max w 0) 0 0 = K
    by_cases h9 : K.2.2 = 0
    · rw [resC_ok h9, runV, if_pos h9, if_pos h9, h9]; rfl
    · rw [resC_err h9, runV, if_neg h9, if_neg h9]; rfl
theorem pv_x (x : Nd) : x.pv = x.x := by cases x; rfl
theorem V_Measure {l : List (List Int)} (hl : Segs l) (hs : Sm l) {d w b : Int} (hd : d ≤ 1099511627775) (hw : w ≤ 4611686018427387904) : ev 9 [.pv (.sl 1 (sgs l)), .pv (.agg [I d, I w, I b])] [] = ok (.tup [I (meaC l d w), I (msgE l d w)]) := by
  have hr := runT_ok hl hs (d := d) hw
  rw [denote_Measure_eq, V_run hl hs hd hw]
  unfold meaC msgE
  generalize runT l d w = K at hr
  have hm := hr.1
  unfold Mt at hm
  unfold runV
  by_cases h9 : K.2.2 = 0
  · rw [if_pos h9, if_pos h9, if_pos h9, h9]
    dsimp only [Nd.x, callT_ret, callT_pan, onlyPV_v, Option.bind_some, pBool_v, pTup_v, pAgg_v, aggOf_v, pSl_v, pInt_v, pI64, pU64, pU32, pU8, List.getElem?_cons_zero, List.getElem?_cons_succ, cells_v, cells_sl, cells_agg, isCell_v, isCell_sl, cnd_t, cnd_f, tt_and, ff_and, nt_t, nt_f, len1, len3, len5, len8, len10, hlen1, clen1, clen5]
    rw [show ((0 : Int) != 0) = false from rfl, budget_Used_eq, V_Start]
    dsimp only [List.length_cons, callT_ret, callT_pan, onlyPV_v, Option.bind_some, pBool_v, pTup_v, pAgg_v, aggOf_v, pSl_v, pInt_v, pI64, pU64, pU32, pU8, List.getElem?_cons_zero, List.getElem?_cons_succ, cells_v, cells_sl, cells_agg, isCell_v, isCell_sl, cnd_t, cnd_f, tt_and, ff_and, nt_t, nt_f, len1, len3, len5, len8, len10, hlen1, clen1, clen5]
    rw [w64 (by omega)]
    rfl
  · rw [if_neg h9, if_neg h9, if_neg h9, nd0x]
    dsimp only [callT_ret, callT_pan, onlyPV_v, Option.bind_some, pBool_v, pTup_v, pAgg_v, aggOf_v, pSl_v, pInt_v, pI64, pU64, pU32, pU8, List.getElem?_cons_zero, List.getElem?_cons_succ, cells_v, cells_sl, cells_agg, isCell_v, isCell_sl, cnd_t, cnd_f, tt_and, ff_and, nt_t, nt_f, len1, len3, len5, len8, len10, hlen1, clen1, clen5]
    rw [bne_t h9]
    rfl
theorem same_loop {d : List Int} (hd : d.length ≤ 17592186044416) : ∀ (c i : Nat), i + c = d.length → capnpref01_Same_L0 (bs d) (bs d) i = ok (Bo true) := by
  intro c
  induction c with
  | zero => intro i hi; rw [capnpref01_Same_L0_eq, decide_eq_false (by simp; omega)]; rfl
  | succ c ih =>
    intro i hi
    rw [capnpref01_Same_L0_eq, decide_eq_true (show (i : Int) < ((bs d).length : Int) by simp; omega), decide_eq_true (show 0 ≤ (i : Int) by omega)]
    dsimp only [callT_ret, callT_pan, onlyPV_v, Option.bind_some, pBool_v, pTup_v, pAgg_v, aggOf_v, pSl_v, pInt_v, pI64, pU64, pU32, pU8, List.getElem?_cons_zero, List.getElem?_cons_succ, cells_v, cells_sl, cells_agg, isCell_v, isCell_sl, cnd_t, cnd_f, tt_and, ff_and, nt_t, nt_f, len1, len3, len5, len8, len10, hlen1, clen1, clen5]
    rw [Int.toNat_natCast, bs_get (by omega)]
    dsimp only [callT_ret, callT_pan, onlyPV_v, Option.bind_some, pBool_v, pTup_v, pAgg_v, aggOf_v, pSl_v, pInt_v, pI64, pU64, pU32, pU8, List.getElem?_cons_zero, List.getElem?_cons_succ, cells_v, cells_sl, cells_agg, isCell_v, isCell_sl, cnd_t, cnd_f, tt_and, ff_and, nt_t, nt_f, len1, len3, len5, len8, len10, hlen1, clen1, clen5]
    rw [show (d[i] != d[i]) = false from by simp, w64 (x := (i : Int) + 1) (by omega)]
    exact ih (i + 1) (by omega)
theorem equal_loop {l : List Nd} (hl : l.length ≤ 1073741824) (hv : ∀ x ∈ l, ev 11 [.pv x.pv, .pv x.pv] [] = ok (Bo true)) (a b c a' b' c' : Int) (x y : List PV) : ∀ (c0 i : Nat), i + c0 = l.length → capnpref10_Equal_L0 i a b c x (pvs l) a' b' c' y (pvs l) = ok (Bo true) := by
  intro c0
  induction c0 with
  | zero => intro i hi; rw [capnpref10_Equal_L0_eq, decide_eq_false (by simp; omega)]; rfl
  | succ c0 ih =>
    intro i hi
    have hil : i < l.length := by omega
    rw [capnpref10_Equal_L0_eq, decide_eq_true (show (i : Int) < ((pvs l).length : Int) by simp; omega), decide_eq_true (show 0 ≤ (i : Int) by omega)]
    dsimp only [callT_ret, callT_pan, onlyPV_v, Option.bind_some, pBool_v, pTup_v, pAgg_v, aggOf_v, pSl_v, pInt_v, pI64, pU64, pU32, pU8, List.getElem?_cons_zero, List.getElem?_cons_succ, cells_v, cells_sl, cells_agg, isCell_v, isCell_sl, cnd_t, cnd_f, tt_and, ff_and, nt_t, nt_f, len1, len3, len5, len8, len10, hlen1, clen1, clen5]
    rw [Int.toNat_natCast, pvs_get hil]
    dsimp only [callT_ret, callT_pan, onlyPV_v, Option.bind_some, pBool_v, pTup_v, pAgg_v, aggOf_v, pSl_v, pInt_v, pI64, pU64, pU32, pU8, List.getElem?_cons_zero, List.getElem?_cons_succ, cells_v, cells_sl, cells_agg, isCell_v, isCell_sl, cnd_t, cnd_f, tt_and, ff_and, nt_t, nt_f, len1, len3, len5, len8, len10, hlen1, clen1, clen5]
    rw [nd_five, nd_take5, hv _ (List.getElem_mem hil), w64 (x := (i : Int) + 1) (by omega)]
    exact ih (i + 1) (by omega)
theorem V_Equal_pv (x : Nd) : good x → ev 11 [.pv x.pv, .pv x.pv] [] = ok (Bo true) := by
  induction x using Nd.ind with
  | h k e n d ks ih =>
    intro hg
    rw [good, goods_iff] at hg
    obtain ⟨⟨hd, hb, hk, h8⟩, hks⟩ := hg
    rw [Nd.pv, capnpref10_Equal_eq, show (k != k) = false from by simp, show (e != e) = false from by simp, show (n != n) = false from by simp, capnpref01_Same_eq, show (((bs d).length : Int) != ((bs d).length : Int)) = false from by simp]
    dsimp only [callT_ret, callT_pan, onlyPV_v, Option.bind_some, pBool_v, pTup_v, pAgg_v, aggOf_v, pSl_v, pInt_v, pI64, pU64, pU32, pU8, List.getElem?_cons_zero, List.getElem?_cons_succ, cells_v, cells_sl, cells_agg, isCell_v, isCell_sl, cnd_t, cnd_f, tt_and, ff_and, nt_t, nt_f, len1, len3, len5, len8, len10, hlen1, clen1, clen5]
    have hsm : capnpref01_Same_L0 (bs d) (bs d) 0 = ok (Bo true) := same_loop hd d.length 0 (by omega)
    rw [hsm, show (((pvs ks).length : Int) != ((pvs ks).length : Int)) = false from by simp]
    dsimp only [callT_ret, callT_pan, onlyPV_v, Option.bind_some, pBool_v, pTup_v, pAgg_v, aggOf_v, pSl_v, pInt_v, pI64, pU64, pU32, pU8, List.getElem?_cons_zero, List.getElem?_cons_succ, cells_v, cells_sl, cells_agg, isCell_v, isCell_sl, cnd_t, cnd_f, tt_and, ff_and, nt_t, nt_f, len1, len3, len5, len8, len10, hlen1, clen1, clen5]
    exact equal_loop hk (fun x hx => ih x hx (hks x hx)) k e n k e n (bs d) (bs d) ks.length 0 (by omega)
theorem V_Equal {x : Nd} (h : good x) : ev 11 [.pv x.x, .pv x.x] [] = ok (Bo true) := by
  have := V_Equal_pv x h
  rwa [pv_x] at this
theorem good_trim (x : Nd) : good x → good (trimN x) := by
  induction x using Nd.ind with
  | h k e n d ks ih =>
    intro hg
    rw [good, goods_iff] at hg
    obtain ⟨⟨hd, hb, hk, h8⟩, hks⟩ := hg
    rw [trimN, trimNs_eq]
    by_cases h1 : k = 1
    · rw [if_pos h1, good, goods_iff]
      have h88 := h8 h1
      refine ⟨⟨by rw [List.length_take]; omega, fun b hx => hb b (List.mem_of_mem_take hx), by rw [List.length_take, List.length_map]; omega, fun _ => ?_⟩, ?_⟩
      · rw [List.length_take]
        have := keptN_le (· == 0) d
        unfold wordsT
        omega
      · intro y hy
        obtain ⟨x, hx, rfl⟩ := List.mem_map.1 (List.mem_of_mem_take hy)
        exact ih x hx (hks x hx)
    · rw [if_neg h1, good, goods_iff]
      refine ⟨⟨hd, hb, by rw [List.length_map]; omega, fun h => absurd h h1⟩, ?_⟩
      intro y hy
      obtain ⟨x, hx, rfl⟩ := List.mem_map.1 hy
      exact ih x hx (hks x hx)
theorem msgN_ok {l : List (List Int)} (hl : Segs l) (hs : Sm l) {d w : Int} (hw : w ≤ 4611686018427387904) : good (msgN l d w) := by
  unfold msgN
  split
  · exact good_trim _ (runT_ok hl hs hw).2
  · exact good0
-- small messages
theorem few_loop {l : List (List Int)} (hl : Segs l) : ∀ (c i : Nat), i + c = l.length → (∀ j, j < i → (rdL l j).length ≤ 300) → ∃ bl : Bool, capnpref04_Few_L0 (sgs l) i = ok (Bo bl) ∧ (bl = true → l.length ≤ 20 ∧ ∀ j : Nat, j < l.length → (rdL l j).length ≤ 300) := by
  intro c
  induction c with
  | zero =>
    intro i hi hj
    refine ⟨decide (((sgs l).length : Int) ≤ 20), ?_, ?_⟩
    · rw [capnpref04_Few_L0_eq, decide_eq_false (by simp; omega)]; rfl
    · intro h
      have := of_decide_eq_true h
      simp at this
      exact ⟨by omega, fun j h => hj j (by omega)⟩
  | succ c ih =>
    intro i hi hj
    have hil : i < l.length := by omega
    have hb := hl.1
    by_cases h3 : (rdL l (i : Int)).length ≤ 300
    · obtain ⟨bl, e, hbl⟩ := ih (i + 1) (by omega) fun j hjj => by
        rcases Nat.lt_or_ge j i with h | h
        · exact hj j h
        · rw [show j = i by omega]; exact h3
      refine ⟨bl, ?_, hbl⟩
      rw [capnpref04_Few_L0_eq, decide_eq_true (show (i : Int) < ((sgs l).length : Int) by simp; omega), decide_eq_true (show 0 ≤ (i : Int) by omega), sgs_rd (by omega) (by omega)]
      dsimp only [callT_ret, callT_pan, onlyPV_v, Option.bind_some, pBool_v, pTup_v, pAgg_v, aggOf_v, pSl_v, pInt_v, pI64, pU64, pU32, pU8, List.getElem?_cons_zero, List.getElem?_cons_succ, cells_v, cells_sl, cells_agg, isCell_v, isCell_sl, cnd_t, cnd_f, tt_and, ff_and, nt_t, nt_f, len1, len3, len5, len8, len10, hlen1, clen1, clen5]
      rw [decide_eq_false (by simp; omega), w64 (x := (i : Int) + 1) (by omega)]
      exact e
    · refine ⟨false, ?_, fun h => absurd h (by decide)⟩
      rw [capnpref04_Few_L0_eq, decide_eq_true (show (i : Int) < ((sgs l).length : Int) by simp; omega), decide_eq_true (show 0 ≤ (i : Int) by omega), sgs_rd (by omega) (by omega)]
      dsimp only [callT_ret, callT_pan, onlyPV_v, Option.bind_some, pBool_v, pTup_v, pAgg_v, aggOf_v, pSl_v, pInt_v, pI64, pU64, pU32, pU8, List.getElem?_cons_zero, List.getElem?_cons_succ, cells_v, cells_sl, cells_agg, isCell_v, isCell_sl, cnd_t, cnd_f, tt_and, ff_and, nt_t, nt_f, len1, len3, len5, len8, len10, hlen1, clen1, clen5]
      rw [decide_eq_true (by simp; omega)]
      rfl
/-- What Small says of a message. -/
theorem V_Small {l : List (List Int)} (hl : Segs l) (d w b : Int) : ∃ bl : Bool, ev 5 [.pv (.sl 1 (sgs l)), .pv (.agg [I d, I w, I b])] [] = ok (Bo bl) ∧ (bl = true → d ≤ 40 ∧ w ≤ 2000 ∧ l.length ≤ 20 ∧ ∀ j : Nat, j < l.length → (rdL l j).length ≤ 300) := by
  obtain ⟨bl, e, hb⟩ := few_loop hl l.length 0 (by omega) (fun j h => absurd h (by omega))
  by_cases h1 : d ≤ 40
  · by_cases h2 : w ≤ 2000
    · refine ⟨bl, ?_, fun h => ⟨h1, h2, hb h⟩⟩
      have e' : capnpref04_Few_L0 (sgs l) 0 = ok (Bo bl) := e
      rw [capnpref12_Small_eq, decide_eq_true h1, decide_eq_true h2, capnpref04_Few_eq, e']
      rfl
    · refine ⟨false, ?_, fun h => absurd h (by decide)⟩
      rw [capnpref12_Small_eq, decide_eq_true h1, decide_eq_false h2]
      rfl
  · refine ⟨false, ?_, fun h => absurd h (by decide)⟩
    rw [capnpref12_Small_eq, decide_eq_false h1]
    rfl
theorem sm_of {l : List (List Int)} (h : ∀ j : Nat, j < l.length → (rdL l j).length ≤ 300) : Sm l := by
  intro s
  unfold rdL
  rcases Nat.lt_or_ge s.toNat l.length with h1 | h1
  · have := h s.toNat h1
    unfold rdL at this
    rw [Int.toNat_natCast] at this
    omega
  · rw [List.getD_eq_getElem?_getD, List.getElem?_eq_none h1]
    simp
end Go.Proofs.YtdcdefmdgicoeaaDoor.E
