/- This text is one of those that prove the law CanonwriteNests of the given program, as its statement says it: true on every input that the statement covers. Its conditions are the statement's own. -/
import Derived.Test.YthpbjpnbafiipaaDoorZCanonwriteNests1
import Derived.Test.YthpbjpnbafiipaaDoorZCanonwriteNests2
import Derived.Test.YthpbjpnbafiipaaDoorZCanonwriteNests3
import Derived.Test.YthpbjpnbafiipaaDoorZCanonwriteNests4
import Derived.Test.YthpbjpnbafiipaaDoorZCanonwriteNests5
import Derived.Test.YthpbjpnbafiipaaDoorZCanonwriteNests6
import Derived.Test.YthpbjpnbafiipaaDoorZCanonwriteNests7
set_option linter.unusedVariables false
set_option linter.unusedSimpArgs false
set_option linter.unusedVariables false
set_option linter.unusedSimpArgs false
namespace Go.Proofs.YthpbjpnbafiipaaDoor.E
/-! Segments. -/
/-- A range that is in bounds. -/
def inB (l : List (List Int)) (s a n : Int) : Prop := 0 ≤ s ∧ s < (l.length : Int) ∧ 0 ≤ a ∧ 0 ≤ n ∧ a + n ≤ ((rdL l s).length : Int)
instance (l : List (List Int)) (s a n : Int) : Decidable (inB l s a n) := by unfold inB; infer_instance
/-- The words of a range. -/
def cut (l : List (List Int)) (s a n : Int) : List Int := ((rdL l s).drop a.toNat).take n.toNat
end Go.Proofs.YthpbjpnbafiipaaDoor.E
set_option linter.unusedVariables false
set_option linter.unusedSimpArgs false
namespace Go.Proofs.YthpbjpnbafiipaaDoor.E
/-! Bit fields of words; pointers. -/
theorem ofInt_toNat {a : Nat} (h : a < 2 ^ 64) : (BitVec.ofInt 64 (a : Int)).toNat = a := by
  simp; omega
theorem wu_nat {n : Nat} (h : n < 2 ^ 64) : IntKind.wrap .u64 (n : Int) = n := wu64 ⟨Int.natCast_nonneg _, by omega⟩
theorem and_low {a : Nat} (h : a < 2 ^ 64) {m : Nat} (hm : m ≤ 64) : IntKind.wrap .u64 (((BitVec.ofInt 64 (a : Int) &&& BitVec.ofInt 64 ((2 ^ m - 1 : Nat) : Int)).toNat : Nat) : Int) = ((a % 2 ^ m : Nat) : Int) := by
  have hp : 2 ^ m ≤ 2 ^ 64 := Nat.pow_le_pow_right (by decide) hm
  have hq : 0 < 2 ^ m := Nat.pow_pos (by decide)
  rw [BitVec.toNat_and, ofInt_toNat h, ofInt_toNat (show 2 ^ m - 1 < 2 ^ 64 by omega), Nat.and_two_pow_sub_one_eq_mod]
  have := Nat.mod_lt a hq
  exact wu_nat (by omega)
theorem V_mask (m : Nat) (h1 : 1 ≤ m) (h2 : m ≤ 64) : ev 143 [.pv (I m)] [] = ok (U ((2 ^ m - 1 : Nat) : Int)) := by
  rw [word_mask_eq]
  have e1 : IntKind.wrap .i64 (64 - (m : Int)) = ((64 - m : Nat) : Int) := by rw [w64 (by omega)]; omega
  rw [e1, wu_nat (by omega)]
  have hk : 2 ^ 64 = 2 ^ m * 2 ^ (64 - m) := by rw [← Nat.pow_add]; congr 1; omega
  have hp : 0 < 2 ^ (64 - m) := Nat.pow_pos (by decide)
  have hd : (18446744073709551615 : Nat) / 2 ^ (64 - m) = 2 ^ m - 1 := by
    rw [show (18446744073709551615 : Nat) = 2 ^ 64 - 1 from rfl, hk, Nat.div_eq_iff hp]
    have hq : 0 < 2 ^ m := Nat.pow_pos (by decide)
    constructor
    · rw [Nat.sub_mul]; omega
    · have : (2 ^ m - 1) * 2 ^ (64 - m) = 2 ^ m * 2 ^ (64 - m) - 2 ^ (64 - m) := by rw [Nat.sub_mul, Nat.one_mul]
      have h3 : 2 ^ (64 - m) ≤ 2 ^ m * 2 ^ (64 - m) := Nat.le_mul_of_pos_left _ hq
      omega
  have hf : Int.fdiv 18446744073709551615 (2 ^ (min ((64 - m : Nat) : Int).toNat 64)) = ((2 ^ m - 1 : Nat) : Int) := by
    rw [Int.toNat_natCast, Nat.min_eq_left (by omega), Int.fdiv_eq_ediv_of_nonneg _ (Int.le_of_lt (Int.pow_pos (by decide))), ← hd]
    simp only [Int.natCast_ediv, Int.natCast_pow]
    rfl
  rw [hf]
  simp [okBin]
theorem shr_nat (a i : Nat) (hi : i ≤ 64) : Int.fdiv (a : Int) (2 ^ (min (i : Int).toNat 64)) = ((a / 2 ^ i : Nat) : Int) := by
  rw [Int.toNat_natCast, Nat.min_eq_left hi, Int.fdiv_eq_ediv_of_nonneg _ (Int.le_of_lt (Int.pow_pos (by decide)))]
  push_cast
  rfl
theorem V_Field_nat (a : Nat) (h : a < 2 ^ 64) (i m : Nat) (h1 : 1 ≤ m) (h2 : i + m ≤ 64) : ev 132 [.pv (U a), .pv (I i), .pv (I m)] [] = ok (U ((a / 2 ^ i % 2 ^ m : Nat) : Int)) := by
  rw [word_Field_eq, wu_nat (by omega), V_mask m h1 (by omega), shr_nat a i (by omega)]
  have := and_low (a := a / 2 ^ i) (Nat.lt_of_le_of_lt (Nat.div_le_self _ _) h) (m := m) (by omega)
  simp only [callT_ret, onlyPV_v, Option.bind_some, pIntK_v, this]
  simp [okBin]
theorem V_Field {a : Int} (h : Word a) (i m : Nat) (h1 : 1 ≤ m) (h2 : i + m ≤ 64) : ev 132 [.pv (U a), .pv (I i), .pv (I m)] [] = ok (U (a / 2 ^ i % 2 ^ m)) := by
  obtain ⟨n, rfl⟩ := Int.eq_ofNat_of_zero_le h.1
  rw [V_Field_nat n (by have := h.2; omega) i m h1 h2]
  simp
def sgn30 (v : Int) : Int := if 536870912 ≤ v then v - 1073741824 else v
theorem V_Signed {a : Int} (h : Word a) : ev 164 [.pv (U a), .pv (I 2), .pv (I 30)] [] = ok (I (sgn30 (a / 4 % 1073741824))) := by
  obtain ⟨h1, h2⟩ := h
  rw [word_Signed_eq]
  rw [show IntKind.wrap .i64 ((IntKind.wrap .i64 (64 - 2)) - 30) = 32 by decide, show IntKind.wrap .u64 32 = 32 by decide, show IntKind.wrap .u64 (IntKind.wrap .i64 (64 - 30)) = 34 by decide]
  simp only [okBin]
  rw [show (min (32 : Int).toNat 64) = 32 by decide, show (min (34 : Int).toNat 64) = 34 by decide]
  have e : IntKind.wrap .i64 (IntKind.wrap .u64 (a * 2 ^ 32)) = sgn30 (a / 4 % 1073741824) * 17179869184 + (a % 4) * 4294967296 := by
    rw [wu64_any]
    have e2 : a * 2 ^ 32 % 18446744073709551616 = (a / 4 % 1073741824) * 17179869184 + (a % 4) * 4294967296 := by omega
    rw [e2]
    unfold sgn30
    simp only [IntKind.wrap, IntKind.bits, IntKind.signed]
    simp
    split <;> split <;> omega
  rw [e, Int.fdiv_eq_ediv_of_nonneg _ (by decide)]
  have e3 : (sgn30 (a / 4 % 1073741824) * 17179869184 + (a % 4) * 4294967296) / 2 ^ 34 = sgn30 (a / 4 % 1073741824) := by omega
  rw [e3]
  rfl
/-- Pointers. -/
abbrev PT := Int × Int × Int × Int × Int × Int × Bool × Int × Int × Int
def ptc (p : PT) : List PV := [I p.1, I p.2.1, I p.2.2.1, I p.2.2.2.1, I p.2.2.2.2.1, I p.2.2.2.2.2.1, Bo p.2.2.2.2.2.2.1, I p.2.2.2.2.2.2.2.1, U32 p.2.2.2.2.2.2.2.2.1, U32 p.2.2.2.2.2.2.2.2.2]
def decI (a : Int) : PT :=
  if a % 4 = 0 then (0, sgn30 (a / 4 % 1073741824), a / 4294967296 % 65536, a / 281474976710656 % 65536, 0, 0, false, 0, 0, 0)
  else if a % 4 = 1 then (1, sgn30 (a / 4 % 1073741824), 0, 0, a / 4294967296 % 8, a / 34359738368 % 536870912, false, 0, 0, 0)
  else if a % 4 = 2 then (2, 0, 0, 0, 0, 0, a / 4 % 2 == 1, a / 8 % 536870912, a / 4294967296 % 4294967296, 0)
  else (3, 0, 0, 0, 0, 0, false, 0, a / 4294967296 % 4294967296, a / 4 % 1073741824)
theorem V_Decode {a : Int} (h : Word a) : ev 102 [.pv (U a)] [] = ok (.agg (ptc (decI a))) := by
  have k0 : ev 132 [.pv (U a), .pv (I 0), .pv (I 2)] [] = ok (U (a % 4)) := by have := V_Field h 0 2 (by decide) (by decide); simpa using this
  have k1 : ev 132 [.pv (U a), .pv (I 32), .pv (I 16)] [] = ok (U (a / 4294967296 % 65536)) := V_Field h 32 16 (by decide) (by decide)
  have k2 : ev 132 [.pv (U a), .pv (I 48), .pv (I 16)] [] = ok (U (a / 281474976710656 % 65536)) := V_Field h 48 16 (by decide) (by decide)
  have k3 : ev 132 [.pv (U a), .pv (I 32), .pv (I 3)] [] = ok (U (a / 4294967296 % 8)) := V_Field h 32 3 (by decide) (by decide)
  have k4 : ev 132 [.pv (U a), .pv (I 35), .pv (I 29)] [] = ok (U (a / 34359738368 % 536870912)) := V_Field h 35 29 (by decide) (by decide)
  have k5 : ev 132 [.pv (U a), .pv (I 2), .pv (I 1)] [] = ok (U (a / 4 % 2)) := V_Field h 2 1 (by decide) (by decide)
  have k6 : ev 132 [.pv (U a), .pv (I 3), .pv (I 29)] [] = ok (U (a / 8 % 536870912)) := V_Field h 3 29 (by decide) (by decide)
  have k7 : ev 132 [.pv (U a), .pv (I 32), .pv (I 32)] [] = ok (U (a / 4294967296 % 4294967296)) := V_Field h 32 32 (by decide) (by decide)
  have k8 : ev 132 [.pv (U a), .pv (I 2), .pv (I 30)] [] = ok (U (a / 4 % 1073741824)) := V_Field h 2 30 (by decide) (by decide)
  rw [pointer_Decode_eq, pointer_decoders_1_eq, pointer_decoders_2_eq, pointer_decoders_3_eq, pointer_decoders_4_eq, k0, k1, k2, k3, k4, k5, k6, k7, k8, V_Signed h]
  simp only [callT_ret, onlyPV_v, Option.bind_some, pInt_v, pIntK_v]
  rw [w64 (x := a / 4294967296 % 65536) (by omega), w64 (x := a / 281474976710656 % 65536) (by omega), w64 (x := a / 4294967296 % 8) (by omega), w64 (x := a / 34359738368 % 536870912) (by omega), w64 (x := a / 8 % 536870912) (by omega), w64 (x := a % 4) (by omega)]
  rw [wu32_any, wu32_any, show a / 4294967296 % 4294967296 % 4294967296 = a / 4294967296 % 4294967296 by omega, show a / 4 % 1073741824 % 4294967296 = a / 4 % 1073741824 by omega]
  unfold decI
  by_cases c0 : a % 4 = 0
  · simp [-getElem?_pos, List.getElem?_cons_zero, List.getElem?_cons_succ, cond_dec, cond_beq, cond_bne, cond_and, c0, ptc]
  by_cases c1 : a % 4 = 1
  · simp [-getElem?_pos, List.getElem?_cons_zero, List.getElem?_cons_succ, cond_dec, cond_beq, cond_bne, cond_and, c1, ptc]
  by_cases c2 : a % 4 = 2
  · simp [-getElem?_pos, List.getElem?_cons_zero, List.getElem?_cons_succ, cond_dec, cond_beq, cond_bne, cond_and, c2, ptc]
  · have c3 : a % 4 = 3 := by omega
    simp [-getElem?_pos, List.getElem?_cons_zero, List.getElem?_cons_succ, cond_dec, cond_beq, cond_bne, cond_and, c3, ptc]
-- the reference's
end Go.Proofs.YthpbjpnbafiipaaDoor.E
set_option linter.unusedVariables false
set_option linter.unusedSimpArgs false
namespace Go.Proofs.YthpbjpnbafiipaaDoor.E
/-! Far pointers; the reference's words. -/
theorem rd_nat {l : List Int} {j : Nat} (h : j < l.length) : rd l (j : Int) = l[j] := by
  simp [rd, List.getD_eq_getElem?_getD, h]
def wd (l : List (List Int)) (s a : Int) : Int := rd (rdL l s) a
end Go.Proofs.YthpbjpnbafiipaaDoor.E
set_option linter.unusedVariables false
set_option linter.unusedSimpArgs false
namespace Go.Proofs.YthpbjpnbafiipaaDoor.E
/-! Objects. -/
/-- A located object: kind, segment, place, data words, pointers, element kind, number, cost. -/
structure Ob where
  kind : Int
  seg : Int
  at_ : Int
  data : Int
  ptrs : Int
  elem : Int
  n : Int
  cost : Int
  deriving DecidableEq
def Ob.c (o : Ob) : List PV := [I o.kind, I o.seg, I o.at_, I o.data, I o.ptrs, I o.elem, I o.n, I o.cost]
def bitsOf (e : Int) : Int := if e = 1 then 1 else if e = 2 then 8 else if e = 3 then 16 else if e = 4 then 32 else if e = 5 then 64 else if e = 6 then 64 else 0
theorem bitsOf_range (e : Int) : 0 ≤ bitsOf e ∧ bitsOf e ≤ 64 := by
  unfold bitsOf
  repeat' split
  all_goals omega
/-- Words of a list. -/
def wordsOf (e c : Int) : Int := if e = 7 then c + 1 else (bitsOf e * c + 63) / 64
theorem bits_mul {e c : Int} (hc : 0 ≤ c ∧ c ≤ 536870911) : 0 ≤ bitsOf e * c ∧ bitsOf e * c ≤ 64 * 536870911 := by
  have hb := bitsOf_range e
  exact ⟨Int.mul_nonneg hb.1 hc.1, Int.mul_le_mul hb.2 hc.2 hc.1 (by omega)⟩
theorem wordsOf_range {e c : Int} (hc : 0 ≤ c ∧ c ≤ 536870911) : 0 ≤ wordsOf e c ∧ wordsOf e c ≤ 536870912 := by
  have h := bits_mul (e := e) hc
  unfold wordsOf
  split <;> omega
theorem bits_tab {e : Int} (he : 0 ≤ e ∧ e ≤ 7) : ([I 0, I 1, I 8, I 16, I 32, I 64, I 64, I 0] : List PV)[e.toNat]? = some (I (bitsOf e)) := by
  obtain ⟨h1, h2⟩ := he
  have : e = 0 ∨ e = 1 ∨ e = 2 ∨ e = 3 ∨ e = 4 ∨ e = 5 ∨ e = 6 ∨ e = 7 := by omega
  rcases this with rfl | rfl | rfl | rfl | rfl | rfl | rfl | rfl <;> rfl
theorem V_Words {e c : Int} (he : 0 ≤ e ∧ e ≤ 7) (hc : 0 ≤ c ∧ c ≤ 536870911) : ev 50 [.pv (I e), .pv (I c)] [] = ok (I (wordsOf e c)) := by
  have h := bits_mul (e := e) hc
  rw [listsize_Words_eq]
  unfold wordsOf
  by_cases h7 : e = 7
  · simp [-getElem?_pos, List.getElem?_cons_zero, List.getElem?_cons_succ, cond_dec, cond_beq, cond_bne, cond_and, h7, w64 (x := c + 1) (by omega)]
  · have hb := bits_tab he
    simp only [I] at hb
    rw [show (0 + e.toNat * 1) = e.toNat by omega]
    simp only [hb, listsize_up_eq]
    rw [if_neg h7]
    simp [-getElem?_pos, List.getElem?_cons_zero, List.getElem?_cons_succ, cond_dec, cond_beq, cond_bne, cond_and, h7, he.1, show e < 8 by omega, okBin, w64 (x := bitsOf e * c) (by omega), w64 (x := bitsOf e * c + 64) (by omega), w64 (x := bitsOf e * c + 64 - 1) (by omega)]
    rw [Int.tdiv_eq_ediv_of_nonneg (by omega), w64 (by omega), show bitsOf e * c + 64 - 1 = bitsOf e * c + 63 by omega]
theorem V_rBits (e : Int) : ev 112 [.pv (I e)] [] = ok (I (bitsOf e)) := by
  rw [capnpref06_Bits_eq]
  unfold bitsOf
  simp only [cond_beq]
  repeat' split
  all_goals rfl
end Go.Proofs.YthpbjpnbafiipaaDoor.E
set_option linter.unusedVariables false
set_option linter.unusedSimpArgs false
namespace Go.Proofs.YthpbjpnbafiipaaDoor.E
/-! Words as bytes; the bytes of lists; budgets. -/
theorem roomy_ok {n b : Nat} (h : n * b ≤ 140737488355328) (h1 : n ≤ 140737488355328) : roomy n b = true := by simp [roomy, h, h1]
theorem bs_app (a b : List Int) : bs (a ++ b) = bs a ++ bs b := by simp [bs]
/-- Bytes of a list. -/
def bytesN (e c : Int) : Int := (bitsOf e * c + 7) / 8
theorem bytesN_range {e c : Int} (hc : 0 ≤ c ∧ c ≤ 536870911) : 0 ≤ bytesN e c ∧ bytesN e c ≤ 4294967296 := by
  have h := bits_mul (e := e) hc
  unfold bytesN
  omega
theorem V_rBytesN {e c : Int} (hc : 0 ≤ c ∧ c ≤ 536870911) : ev 76 [.pv (I e), .pv (I c)] [] = ok (I (bytesN e c)) := by
  have h := bits_mul (e := e) hc
  rw [capnpref06_Bytes_eq, V_rBits]
  dsimp only [callT_ret, callT_pan, onlyPV_v, Option.bind_some, pBool_v, pTup_v, pAgg_v, aggOf_v, pSl_v, pInt_v, pI64, pU64, pU32, pU8, List.getElem?_cons_zero, List.getElem?_cons_succ, cells_v, cells_sl, cells_agg, isCell_v, isCell_sl, cnd_t, cnd_f, tt_and, ff_and, nt_t, nt_f, len1, len3, len5, len8, len10, hlen1, clen1, clen5]
  rw [w64 (x := bitsOf e * c) (by omega), Int.tdiv_eq_ediv_of_nonneg (by omega), w64 (x := bitsOf e * c / 8) (by omega), w64 (x := bitsOf e * c / 8 * 8) (by omega), w64 (x := bitsOf e * c / 8 + 1) (by omega), cond_dec]
  unfold bytesN
  split
  · rw [show bitsOf e * c / 8 + 1 = (bitsOf e * c + 7) / 8 by omega]
  · rw [show bitsOf e * c / 8 = (bitsOf e * c + 7) / 8 by omega]
/-- The bytes of a list's elements: of bits, the last is cut. -/
def trimB (e c : Int) (b : List Int) : List Int :=
  if e = 1 ∧ 0 < c % 8 then b.take (bytesN e c - 1).toNat ++ [rd b (bytesN e c - 1) % 2 ^ (c % 8).toNat] else b.take (bytesN e c).toNat
theorem rtrim_pow (e c : Int) (l acc : List PV) (i x : Int) (keep : Nat) (hk : keep ≤ 7) (hx : Byte x) (hr : roomy (acc.length + 1) 1 = true) (hi : 0 ≤ i ∧ i ≤ 4294967296) : ∀ (d k : Nat), k + d = keep → capnpref06_Trim_L2 e c l acc i (U8 x) keep ((2 ^ k : Nat) : Int) k = capnpref06_Trim_L0 e c l (acc ++ [U8 (x % 2 ^ keep)]) (i + 1) := by
  intro d
  induction d with
  | zero =>
    intro k hkd
    obtain rfl : k = keep := by omega
    rw [capnpref06_Trim_L2_eq, decide_eq_false (by omega)]
    dsimp only [callT_ret, callT_pan, onlyPV_v, Option.bind_some, pBool_v, pTup_v, pAgg_v, aggOf_v, pSl_v, pInt_v, pI64, pU64, pU32, pU8, List.getElem?_cons_zero, List.getElem?_cons_succ, cells_v, cells_sl, cells_agg, isCell_v, isCell_sl, cnd_t, cnd_f, tt_and, ff_and, nt_t, nt_f, len1, len3, len5, len8, len10, hlen1, clen1, clen5]
    obtain ⟨x1, x2⟩ := hx
    have hp : 0 < 2 ^ k := Nat.pow_pos (by decide)
    rw [hr, show okBin .rem ((2 ^ k : Nat) : Int) = true by simp only [okBin, bne_iff_ne]; omega, w64 (x := x) (by omega), w64 (x := i + 1) (by omega), Int.tmod_eq_emod_of_nonneg x1, wu8_any]
    have h1 : 0 ≤ x % ((2 ^ k : Nat) : Int) := Int.emod_nonneg _ (by omega)
    have h3 : 2 ^ k ≤ 2 ^ 7 := Nat.pow_le_pow_right (by decide) hk
    have h2 : x % ((2 ^ k : Nat) : Int) < ((2 ^ k : Nat) : Int) := Int.emod_lt_of_pos _ (by omega)
    rw [Int.emod_eq_of_lt (b := 256) h1 (by omega)]
    push_cast
    rfl
  | succ d ih =>
    intro k hkd
    rw [capnpref06_Trim_L2_eq, decide_eq_true (by omega)]
    have h2 : 2 ^ (k + 1) ≤ 2 ^ 7 := Nat.pow_le_pow_right (by decide) (by omega)
    have e1 : ((2 ^ k : Nat) : Int) * 2 = ((2 ^ (k + 1) : Nat) : Int) := by rw [Nat.pow_succ]; push_cast; rfl
    rw [e1, w64_nat (n := 2 ^ (k + 1)) (by omega), w64 (x := (k : Int) + 1) (by omega)]
    exact ih (k + 1) (by omega)
theorem rtrim_loop {e c : Int} {b : List Int} (hc : 0 ≤ c ∧ c ≤ 536870911) (hb : ∀ x ∈ b, Byte x) (hn : bytesN e c ≤ b.length) : ∀ (d i : Nat), i + d = (bytesN e c).toNat → (d = 0 → e = 1 ∧ 0 < c % 8 → False) → capnpref06_Trim_L0 e c (bs b) (bs (b.take i)) i = ok (.sl 1 (bs (trimB e c b))) := by
  have hr := bytesN_range (e := e) hc
  intro d
  induction d with
  | zero =>
    intro i hi h0
    rw [capnpref06_Trim_L0_eq, V_rBytesN hc]
    dsimp only [callT_ret, callT_pan, onlyPV_v, Option.bind_some, pBool_v, pTup_v, pAgg_v, aggOf_v, pSl_v, pInt_v, pI64, pU64, pU32, pU8, List.getElem?_cons_zero, List.getElem?_cons_succ, cells_v, cells_sl, cells_agg, isCell_v, isCell_sl, cnd_t, cnd_f, tt_and, ff_and, nt_t, nt_f, len1, len3, len5, len8, len10, hlen1, clen1, clen5]
    rw [decide_eq_false (by omega)]
    unfold trimB
    rw [if_neg (h0 rfl)]
    obtain rfl : i = (bytesN e c).toNat := by omega
    rfl
  | succ d ih =>
    intro i hi h0
    have hil : i < b.length := by omega
    rw [capnpref06_Trim_L0_eq, V_rBytesN hc]
    dsimp only [callT_ret, callT_pan, onlyPV_v, Option.bind_some, pBool_v, pTup_v, pAgg_v, aggOf_v, pSl_v, pInt_v, pI64, pU64, pU32, pU8, List.getElem?_cons_zero, List.getElem?_cons_succ, cells_v, cells_sl, cells_agg, isCell_v, isCell_sl, cnd_t, cnd_f, tt_and, ff_and, nt_t, nt_f, len1, len3, len5, len8, len10, hlen1, clen1, clen5]
    rw [decide_eq_true (by omega), decide_eq_true (by omega), decide_eq_true (show (i : Int) < ((bs b).length : Int) by simp; omega)]
    have hg : (bs b)[(i : Int).toNat]? = some (U8 b[i]) := by rw [Int.toNat_natCast, bs_get hil]
    have hroom : roomy ((bs (b.take i)).length + 1) 1 = true := roomy_ok (by simp; omega) (by simp; omega)
    have hnext : bs (b.take i) ++ [U8 b[i]] = bs (b.take (i + 1)) := by rw [List.take_succ_eq_append_getElem hil, bs_app]; rfl
    dsimp only [callT_ret, callT_pan, onlyPV_v, Option.bind_some, pBool_v, pTup_v, pAgg_v, aggOf_v, pSl_v, pInt_v, pI64, pU64, pU32, pU8, List.getElem?_cons_zero, List.getElem?_cons_succ, cells_v, cells_sl, cells_agg, isCell_v, isCell_sl, cnd_t, cnd_f, tt_and, ff_and, nt_t, nt_f, len1, len3, len5, len8, len10, hlen1, clen1, clen5]
    rw [hg]
    dsimp only [callT_ret, callT_pan, onlyPV_v, Option.bind_some, pBool_v, pTup_v, pAgg_v, aggOf_v, pSl_v, pInt_v, pI64, pU64, pU32, pU8, List.getElem?_cons_zero, List.getElem?_cons_succ, cells_v, cells_sl, cells_agg, isCell_v, isCell_sl, cnd_t, cnd_f, tt_and, ff_and, nt_t, nt_f, len1, len3, len5, len8, len10, hlen1, clen1, clen5]
    rw [hroom, hnext, w64 (x := (i : Int) + 1) (by omega), w64 (x := 8 * (i : Int)) (by omega), w64 (x := 8 * (i : Int) + 8) (by omega), w64 (x := c - 8 * (i : Int)) (by omega)]
    by_cases hlast : e = 1 ∧ 8 * (i : Int) + 8 > c
    · obtain ⟨rfl, hgt⟩ := hlast
      have hbn : bytesN 1 c = (c + 7) / 8 := by unfold bytesN bitsOf; simp
      have hin : (i : Int) = bytesN 1 c - 1 := by omega
      have h8 : 0 < c % 8 := by omega
      have hkeep : c - 8 * (i : Int) = ((c % 8).toNat : Int) := by omega
      rw [show ((1 : Int) == 1) = true from rfl, decide_eq_true hgt]
      dsimp only [callT_ret, callT_pan, onlyPV_v, Option.bind_some, pBool_v, pTup_v, pAgg_v, aggOf_v, pSl_v, pInt_v, pI64, pU64, pU32, pU8, List.getElem?_cons_zero, List.getElem?_cons_succ, cells_v, cells_sl, cells_agg, isCell_v, isCell_sl, cnd_t, cnd_f, tt_and, ff_and, nt_t, nt_f, len1, len3, len5, len8, len10, hlen1, clen1, clen5]
      rw [hkeep]
      have hp := rtrim_pow 1 c (bs b) (bs (b.take i)) i b[i] (c % 8).toNat (by omega) (hb _ (List.getElem_mem hil)) hroom (by omega) (c % 8).toNat 0 (by omega)
      rw [show ((2 ^ 0 : Nat) : Int) = 1 from rfl, show ((0 : Nat) : Int) = 0 from rfl] at hp
      refine hp.trans ?_
      rw [capnpref06_Trim_L0_eq, V_rBytesN hc]
      dsimp only [callT_ret, callT_pan, onlyPV_v, Option.bind_some, pBool_v, pTup_v, pAgg_v, aggOf_v, pSl_v, pInt_v, pI64, pU64, pU32, pU8, List.getElem?_cons_zero, List.getElem?_cons_succ, cells_v, cells_sl, cells_agg, isCell_v, isCell_sl, cnd_t, cnd_f, tt_and, ff_and, nt_t, nt_f, len1, len3, len5, len8, len10, hlen1, clen1, clen5]
      rw [decide_eq_false (by omega)]
      unfold trimB
      rw [if_pos ⟨rfl, h8⟩]
      have hrd : rd b (bytesN 1 c - 1) = b[i] := by rw [← hin, rd_nat hil]
      rw [hrd, show (bytesN 1 c - 1).toNat = i by omega, bs_app]
      rfl
    · have hgo : ok (.sl 1 (bs (trimB e c b))) = capnpref06_Trim_L0 e c (bs b) (bs (b.take (i + 1))) ((i : Int) + 1) := (ih (i + 1) (by omega) (fun hd h1 => hlast ⟨h1.1, by
        obtain ⟨rfl, h8⟩ := h1
        have hbn : bytesN 1 c = (c + 7) / 8 := by unfold bytesN bitsOf; simp
        omega⟩)).symm
      rw [hgo]
      by_cases h1 : e = 1
      · have hle : ¬ 8 * (i : Int) + 8 > c := fun h => hlast ⟨h1, h⟩
        rw [beq_iff_eq.2 h1, decide_eq_false hle]
        rfl
      · rw [beq_eq_false_iff_ne.2 h1]
        rfl
theorem V_rTrim {e c : Int} {b : List Int} (hc : 0 ≤ c ∧ c ≤ 536870911) (hb : ∀ x ∈ b, Byte x) (hn : bytesN e c ≤ b.length) : ev 69 [.pv (I e), .pv (I c), .pv (.sl 1 (bs b))] [] = ok (.sl 1 (bs (trimB e c b))) := by
  rw [capnpref06_Trim_eq]
  have hr := bytesN_range (e := e) hc
  refine rtrim_loop hc hb hn (bytesN e c).toNat 0 (by omega) (fun h0 h1 => ?_)
  obtain ⟨rfl, h8⟩ := h1
  have hbn : bytesN 1 c = (c + 7) / 8 := by unfold bytesN bitsOf; simp
  omega
/-- An element of a composite list. -/
def elt (o : Ob) (i : Int) : Ob := ⟨1, o.seg, o.at_ + i * (o.data + o.ptrs), o.data, o.ptrs, 0, 0, 0⟩
end Go.Proofs.YthpbjpnbafiipaaDoor.E
set_option linter.unusedVariables false
set_option linter.unusedSimpArgs false
namespace Go.Proofs.YthpbjpnbafiipaaDoor.E
/-! Nodes: their trimmed forms. -/
inductive Nd where
  | mk (kind elem n : Int) (data : List Int) (kids : List Nd)
def Nd.kind : Nd → Int | .mk k _ _ _ _ => k
def Nd.elem : Nd → Int | .mk _ e _ _ _ => e
def Nd.n : Nd → Int | .mk _ _ n _ _ => n
def Nd.data : Nd → List Int | .mk _ _ _ d _ => d
def Nd.kids : Nd → List Nd | .mk _ _ _ _ ks => ks
def nd0 : Nd := .mk 0 0 0 [] []
theorem Nd.ind {P : Nd → Prop} (h : ∀ k e n d ks, (∀ x ∈ ks, P x) → P (.mk k e n d ks)) : ∀ x, P x
  | .mk k e n d ks => h k e n d ks fun x hx => Nd.ind h x
termination_by x => SizeOf.sizeOf x
decreasing_by
  have := List.sizeOf_lt_of_mem hx
  simp
  omega
mutual
def Nd.pv : Nd → PV
  | .mk k e n d ks => .agg [I k, I e, I n, .sl 1 (bs d), .sl 5 (pvs ks)]
def pvs : List Nd → List PV
  | [] => []
  | x :: l => x.pv :: pvs l
end
theorem pvs_eq : ∀ l : List Nd, pvs l = l.map Nd.pv
  | [] => rfl
  | x :: l => by rw [pvs, pvs_eq l]; rfl
def Nd.c (x : Nd) : List PV := [I x.kind, I x.elem, I x.n, .sl 1 (bs x.data), .sl 5 (pvs x.kids)]
theorem Nd.pv_c (x : Nd) : x.pv = .agg x.c := by cases x; rfl
theorem nd_cells (x : Nd) : x.pv.cells = x.c := by rw [Nd.pv_c]; rfl
@[simp] theorem pvs_len (l : List Nd) : (pvs l).length = l.length := by rw [pvs_eq]; simp
theorem pvs_get {l : List Nd} {i : Nat} (h : i < l.length) : (pvs l)[i]? = some l[i].pv := by rw [pvs_eq]; simp [h]
mutual
def good : Nd → Prop
  | .mk k e n d ks => (d.length ≤ 17592186044416 ∧ (∀ b ∈ d, Byte b) ∧ ks.length ≤ 1073741824 ∧ (k = 1 → d.length % 8 = 0)) ∧ goods ks
def goods : List Nd → Prop
  | [] => True
  | x :: l => good x ∧ goods l
end
theorem goods_iff : ∀ {l : List Nd}, goods l ↔ ∀ x ∈ l, good x
  | [] => by simp [goods]
  | x :: l => by simp [goods, goods_iff (l := l)]
/-- How much of a list is left without what ends it. -/
def keptN {α : Type} (p : α → Bool) (l : List α) : Nat := (l.reverse.dropWhile p).length
theorem keptN_le {α : Type} (p : α → Bool) (l : List α) : keptN p l ≤ l.length := by
  unfold keptN
  have := (List.dropWhile_sublist p (l := l.reverse)).length_le
  simpa using this
theorem keptN_snoc {α : Type} (p : α → Bool) (l : List α) (x : α) : keptN p (l ++ [x]) = if p x then keptN p l else l.length + 1 := by
  unfold keptN
  rw [List.reverse_append]
  simp only [List.reverse_cons, List.reverse_nil, List.nil_append, List.singleton_append, List.dropWhile_cons]
  split <;> simp
def wordsT (d : List Int) : Nat := (keptN (· == 0) d + 7) / 8
def ptrsT (ks : List Nd) : Nat := keptN (fun x => x.kind == 0) ks
theorem take_snoc {α : Type} {l : List α} {i : Nat} (h : i < l.length) : l.take (i + 1) = l.take i ++ [l[i]] := List.take_succ_eq_append_getElem h
-- the program's
theorem nd_take5 (x : Nd) : PV.agg ((x.pv.cells.drop 0).take 5) = x.pv := by cases x; rfl
theorem nd_five (x : Nd) : decide (5 ≤ x.pv.cells.length) = true := by cases x; rfl
theorem rwords_loop {d : List Int} (hd : d.length ≤ 17592186044416) : ∀ (m i : Nat), i + m = d.length → capnpref11_Words_L0 (bs d) (wordsT (d.take i) : Nat) i = ok (I (wordsT d : Nat)) := by
  intro m
  induction m with
  | zero =>
    intro i hi
    obtain rfl : i = d.length := by omega
    rw [capnpref11_Words_L0_eq, decide_eq_false (by simp), List.take_length]
    rfl
  | succ m ih =>
    intro i hi
    have hil : i < d.length := by omega
    rw [capnpref11_Words_L0_eq, decide_eq_true (by simp; omega), decide_eq_true (by omega)]
    dsimp only [callT_ret, callT_pan, onlyPV_v, Option.bind_some, pBool_v, pTup_v, pAgg_v, aggOf_v, pSl_v, pInt_v, pI64, pU64, pU32, pU8, List.getElem?_cons_zero, List.getElem?_cons_succ, cells_v, cells_sl, cells_agg, isCell_v, isCell_sl, cnd_t, cnd_f, tt_and, ff_and, nt_t, nt_f, len1, len3, len5, len8, len10, hlen1, clen1, clen5]
    rw [Int.toNat_natCast, bs_get hil]
    dsimp only [callT_ret, callT_pan, onlyPV_v, Option.bind_some, pBool_v, pTup_v, pAgg_v, aggOf_v, pSl_v, pInt_v, pI64, pU64, pU32, pU8, List.getElem?_cons_zero, List.getElem?_cons_succ, cells_v, cells_sl, cells_agg, isCell_v, isCell_sl, cnd_t, cnd_f, tt_and, ff_and, nt_t, nt_f, len1, len3, len5, len8, len10, hlen1, clen1, clen5]
    have := ih (i + 1) (by omega)
    rw [Int.tdiv_eq_ediv_of_nonneg (by omega), w64 (x := (i : Int) / 8) (by omega), w64 (x := (i : Int) / 8 + 1) (by omega), w64 (x := (i : Int) + 1) (by omega), cond_bne]
    have hs : wordsT (d.take (i + 1)) = if d[i] = 0 then wordsT (d.take i) else i / 8 + 1 := by
      unfold wordsT
      rw [take_snoc hil, keptN_snoc]
      by_cases h0 : d[i] = 0
      · simp [h0]
      · simp [h0, show i ≤ d.length by omega]; omega
    rw [hs] at this
    split
    · rename_i h0
      rw [if_pos h0] at this
      exact this
    · rename_i h0
      rw [if_neg h0] at this
      rw [show (i : Int) / 8 + 1 = ((i / 8 + 1 : Nat) : Int) by push_cast; rfl]
      exact this
theorem V_rwords {d : List Int} (hd : d.length ≤ 17592186044416) : ev 72 [.pv (.sl 1 (bs d))] [] = ok (I (wordsT d : Nat)) := by
  rw [capnpref11_Words_eq]
  have := rwords_loop hd d.length 0 (by omega)
  rw [List.take_zero] at this
  exact this
theorem nd_cell0 (x : Nd) : x.pv.cells[0]? = some (I x.kind) := by cases x; rfl
theorem rptrs_loop {l : List Nd} (hl : l.length ≤ 1073741824) : ∀ (m i : Nat), i + m = l.length → capnpref11_Pointers_L0 (pvs l) (ptrsT (l.take i) : Nat) i = ok (I (ptrsT l : Nat)) := by
  intro m
  induction m with
  | zero =>
    intro i hi
    obtain rfl : i = l.length := by omega
    rw [capnpref11_Pointers_L0_eq, decide_eq_false (by simp), List.take_length]
    rfl
  | succ m ih =>
    intro i hi
    have hil : i < l.length := by omega
    rw [capnpref11_Pointers_L0_eq, decide_eq_true (by simp; omega), decide_eq_true (by omega)]
    dsimp only [callT_ret, callT_pan, onlyPV_v, Option.bind_some, pBool_v, pTup_v, pAgg_v, aggOf_v, pSl_v, pInt_v, pI64, pU64, pU32, pU8, List.getElem?_cons_zero, List.getElem?_cons_succ, cells_v, cells_sl, cells_agg, isCell_v, isCell_sl, cnd_t, cnd_f, tt_and, ff_and, nt_t, nt_f, len1, len3, len5, len8, len10, hlen1, clen1, clen5]
    rw [Int.toNat_natCast, pvs_get hil]
    dsimp only [callT_ret, callT_pan, onlyPV_v, Option.bind_some, pBool_v, pTup_v, pAgg_v, aggOf_v, pSl_v, pInt_v, pI64, pU64, pU32, pU8, List.getElem?_cons_zero, List.getElem?_cons_succ, cells_v, cells_sl, cells_agg, isCell_v, isCell_sl, cnd_t, cnd_f, tt_and, ff_and, nt_t, nt_f, len1, len3, len5, len8, len10, hlen1, clen1, clen5]
    rw [nd_cell0]
    dsimp only [callT_ret, callT_pan, onlyPV_v, Option.bind_some, pBool_v, pTup_v, pAgg_v, aggOf_v, pSl_v, pInt_v, pI64, pU64, pU32, pU8, List.getElem?_cons_zero, List.getElem?_cons_succ, cells_v, cells_sl, cells_agg, isCell_v, isCell_sl, cnd_t, cnd_f, tt_and, ff_and, nt_t, nt_f, len1, len3, len5, len8, len10, hlen1, clen1, clen5]
    have := ih (i + 1) (by omega)
    rw [w64 (x := (i : Int) + 1) (by omega), cond_bne]
    have hs : ptrsT (l.take (i + 1)) = if l[i].kind = 0 then ptrsT (l.take i) else i + 1 := by
      unfold ptrsT
      rw [take_snoc hil, keptN_snoc]
      by_cases h0 : l[i].kind = 0
      · simp [h0]
      · simp [h0, show i ≤ l.length by omega]
    rw [hs] at this
    split
    · rename_i h0
      rw [if_pos h0] at this
      exact this
    · rename_i h0
      rw [if_neg h0] at this
      exact this
theorem V_rptrs {l : List Nd} (hl : l.length ≤ 1073741824) : ev 73 [.pv (.sl 5 (pvs l))] [] = ok (I (ptrsT l : Nat)) := by
  rw [capnpref11_Pointers_eq]
  have := rptrs_loop hl l.length 0 (by omega)
  rw [List.take_zero] at this
  exact this
end Go.Proofs.YthpbjpnbafiipaaDoor.E
set_option linter.unusedVariables false
set_option linter.unusedSimpArgs false
namespace Go.Proofs.YthpbjpnbafiipaaDoor.E
/-! What a traversal computes. -/
theorem ws_snoc (a : List Int) (x : Int) : ws a ++ [U x] = ws (a ++ [x]) := by simp [ws]
/-- A meter that is well within. -/
def Mt (m : Int) : Prop := 0 ≤ m ∧ m ≤ 4611686018427387904
/-- A traversal's answer is well-formed. -/
def Fn (t : Nd × Int × Int) : Prop := Mt t.2.1 ∧ good t.1
theorem good0 : good nd0 := by unfold nd0; rw [good]; exact ⟨⟨by simp, by simp, by simp, by simp⟩, trivial⟩
end Go.Proofs.YthpbjpnbafiipaaDoor.E
set_option linter.unusedVariables false
set_option linter.unusedSimpArgs false
namespace Go.Proofs.YthpbjpnbafiipaaDoor.E
/-! The program's traversal. -/
/-- The reader's cells. -/
abbrev hp (l : List (List Int)) (d w b m : Int) : Heap := [[.pv (.sl 1 (sgs l)), .pv (I d), .pv (I w), .pv (I b), .pv (I m)]]
def Nd.x (x : Nd) : PV := .agg [I x.kind, I x.elem, I x.n, .sl 1 (bs x.data), .sl 5 (pvs x.kids)]
end Go.Proofs.YthpbjpnbafiipaaDoor.E
set_option linter.unusedVariables false
set_option linter.unusedSimpArgs false
namespace Go.Proofs.YthpbjpnbafiipaaDoor.E
/-! Messages: what Message and Measure answer. -/
def emp (l : List (List Int)) : Prop := 0 < l.length ∧ (rdL l 0).length = 0
instance (l : List (List Int)) : Decidable (emp l) := by unfold emp; infer_instance
theorem pv_x (x : Nd) : x.pv = x.x := by cases x; rfl
theorem same_loop {d : List Int} (hd : d.length ≤ 17592186044416) : ∀ (c i : Nat), i + c = d.length → capnpref01_Same_L0 (bs d) (bs d) i = ok (Bo true) := by
  intro c
  induction c with
  | zero => intro i hi; rw [capnpref01_Same_L0_eq, decide_eq_false (by simp; omega)]; rfl
  | succ c ih =>
    intro i hi
    rw [capnpref01_Same_L0_eq, decide_eq_true (show (i : Int) < ((bs d).length : Int) by simp; omega), decide_eq_true (show 0 ≤ (i : Int) by omega)]
    dsimp only [callT_ret, callT_pan, onlyPV_v, Option.bind_some, pBool_v, pTup_v, pAgg_v, aggOf_v, pSl_v, pInt_v, pI64, pU64, pU32, pU8, List.getElem?_cons_zero, List.getElem?_cons_succ, cells_v, cells_sl, cells_agg, isCell_v, isCell_sl, cnd_t, cnd_f, tt_and, ff_and, nt_t, nt_f, len1, len3, len5, len8, len10, hlen1, clen1, clen5]
    rw [Int.toNat_natCast, bs_get (by omega)]
    dsimp only [callT_ret, callT_pan, onlyPV_v, Option.bind_some, pBool_v, pTup_v, pAgg_v, aggOf_v, pSl_v, pInt_v, pI64, pU64, pU32, pU8, List.getElem?_cons_zero, List.getElem?_cons_succ, cells_v, cells_sl, cells_agg, isCell_v, isCell_sl, cnd_t, cnd_f, tt_and, ff_and, nt_t, nt_f, len1, len3, len5, len8, len10, hlen1, clen1, clen5]
    rw [show (d[i] != d[i]) = false from by simp, w64 (x := (i : Int) + 1) (by omega)]
    exact ih (i + 1) (by omega)
theorem equal_loop {l : List Nd} (hl : l.length ≤ 1073741824) (hv : ∀ x ∈ l, ev 16 [.pv x.pv, .pv x.pv] [] = ok (Bo true)) (a b c a' b' c' : Int) (x y : List PV) : ∀ (c0 i : Nat), i + c0 = l.length → capnpref10_Equal_L0 i a b c x (pvs l) a' b' c' y (pvs l) = ok (Bo true) := by
  intro c0
  induction c0 with
  | zero => intro i hi; rw [capnpref10_Equal_L0_eq, decide_eq_false (by simp; omega)]; rfl
  | succ c0 ih =>
    intro i hi
    have hil : i < l.length := by omega
    rw [capnpref10_Equal_L0_eq, decide_eq_true (show (i : Int) < ((pvs l).length : Int) by simp; omega), decide_eq_true (show 0 ≤ (i : Int) by omega)]
    dsimp only [callT_ret, callT_pan, onlyPV_v, Option.bind_some, pBool_v, pTup_v, pAgg_v, aggOf_v, pSl_v, pInt_v, pI64, pU64, pU32, pU8, List.getElem?_cons_zero, List.getElem?_cons_succ, cells_v, cells_sl, cells_agg, isCell_v, isCell_sl, cnd_t, cnd_f, tt_and, ff_and, nt_t, nt_f, len1, len3, len5, len8, len10, hlen1, clen1, clen5]
    rw [Int.toNat_natCast, pvs_get hil]
    dsimp only [callT_ret, callT_pan, onlyPV_v, Option.bind_some, pBool_v, pTup_v, pAgg_v, aggOf_v, pSl_v, pInt_v, pI64, pU64, pU32, pU8, List.getElem?_cons_zero, List.getElem?_cons_succ, cells_v, cells_sl, cells_agg, isCell_v, isCell_sl, cnd_t, cnd_f, tt_and, ff_and, nt_t, nt_f, len1, len3, len5, len8, len10, hlen1, clen1, clen5]
    rw [nd_five, nd_take5, hv _ (List.getElem_mem hil), w64 (x := (i : Int) + 1) (by omega)]
    exact ih (i + 1) (by omega)
theorem V_Equal_pv (x : Nd) : good x → ev 16 [.pv x.pv, .pv x.pv] [] = ok (Bo true) := by
  induction x using Nd.ind with
  | h k e n d ks ih =>
    intro hg
    rw [good, goods_iff] at hg
    obtain ⟨⟨hd, hb, hk, h8⟩, hks⟩ := hg
    rw [Nd.pv, capnpref10_Equal_eq, show (k != k) = false from by simp, show (e != e) = false from by simp, show (n != n) = false from by simp, capnpref01_Same_eq, show (((bs d).length : Int) != ((bs d).length : Int)) = false from by simp]
    dsimp only [callT_ret, callT_pan, onlyPV_v, Option.bind_some, pBool_v, pTup_v, pAgg_v, aggOf_v, pSl_v, pInt_v, pI64, pU64, pU32, pU8, List.getElem?_cons_zero, List.getElem?_cons_succ, cells_v, cells_sl, cells_agg, isCell_v, isCell_sl, cnd_t, cnd_f, tt_and, ff_and, nt_t, nt_f, len1, len3, len5, len8, len10, hlen1, clen1, clen5]
    have hsm : capnpref01_Same_L0 (bs d) (bs d) 0 = ok (Bo true) := same_loop hd d.length 0 (by omega)
    rw [hsm, show (((pvs ks).length : Int) != ((pvs ks).length : Int)) = false from by simp]
    dsimp only [callT_ret, callT_pan, onlyPV_v, Option.bind_some, pBool_v, pTup_v, pAgg_v, aggOf_v, pSl_v, pInt_v, pI64, pU64, pU32, pU8, List.getElem?_cons_zero, List.getElem?_cons_succ, cells_v, cells_sl, cells_agg, isCell_v, isCell_sl, cnd_t, cnd_f, tt_and, ff_and, nt_t, nt_f, len1, len3, len5, len8, len10, hlen1, clen1, clen5]
    exact equal_loop hk (fun x hx => ih x hx (hks x hx)) k e n k e n (bs d) (bs d) ks.length 0 (by omega)
theorem V_Equal {x : Nd} (h : good x) : ev 16 [.pv x.x, .pv x.x] [] = ok (Bo true) := by
  have := V_Equal_pv x h
  rwa [pv_x] at this
end Go.Proofs.YthpbjpnbafiipaaDoor.E
set_option linter.unusedVariables false
set_option linter.unusedSimpArgs false
namespace Go.Proofs.YthpbjpnbafiipaaDoor.E
/-! Layer 12: its fixed results, and the first law. -/
theorem V_SameR {d : List Int} (hd : d.length ≤ 17592186044416) : ev 34 [.pv (.sl 1 (bs d)), .pv (.sl 1 (bs d))] [] = ok (Bo true) := by
  rw [capnpref01_Same_eq, show (((bs d).length : Int) != ((bs d).length : Int)) = false from by simp]
  exact same_loop hd d.length 0 (by omega)
theorem q0 : ev 16 [.pv (.agg [I 0, I 0, I 0, .sl 1 [], .sl 5 []]), .pv (.agg [I 0, I 0, I 0, .sl 1 [], .sl 5 []])] [] = ok (Bo true) := V_Equal good0
theorem good_leaf : good (.mk 2 1 3 [7] []) := by rw [good]; exact ⟨⟨by simp, by intro b hb; simp at hb; unfold Byte; omega, by simp, fun h => absurd h (by decide)⟩, trivial⟩
theorem q1 : ev 16 [.pv (.agg [I 2, I 1, I 3, .sl 1 (bs [7]), .sl 5 []]), .pv (.agg [I 2, I 1, I 3, .sl 1 [U8 7], .sl 5 []])] [] = ok (Bo true) := V_Equal good_leaf
theorem q2 : ev 34 [.pv (.sl 1 (bs [7, 0, 0, 0, 0, 0, 0, 0])), .pv (.sl 1 [U8 7, U8 0, U8 0, U8 0, U8 0, U8 0, U8 0, U8 0])] [] = ok (Bo true) := V_SameR (by decide)
end Go.Proofs.YthpbjpnbafiipaaDoor.E
set_option linter.unusedVariables false
set_option linter.unusedSimpArgs false
namespace Go.Proofs.YthpbjpnbafiipaaDoor.E
/-! What a denotation is like. -/
/-- Trimmed. -/
inductive TrN : Nd → Prop
  | mk {k e n : Int} {d : List Int} {ks : List Nd} : (k = 1 → 8 * wordsT d = d.length ∧ ptrsT ks = ks.length) → (∀ x ∈ ks, TrN x) → TrN (.mk k e n d ks)
end Go.Proofs.YthpbjpnbafiipaaDoor.E
set_option linter.unusedVariables false
set_option linter.unusedSimpArgs false
namespace Go.Proofs.YthpbjpnbafiipaaDoor.E
/-! A denotation is well-formed, and as deep as its limit at most. -/
def tgt (x : Nd) : List Nd := if x.kind = 2 ∧ x.elem = 7 then x.kids.flatMap Nd.kids else x.kids
def Dp : Nat → Nd → Prop
  | 0, x => x.kind = 0
  | D + 1, x => x.kind = 0 ∨ ((tgt x).length ≤ 1073741824 ∧ ∀ y ∈ tgt x, Dp D y)
def Shp (k e n : Int) (d : List Int) (q : Nat) : Prop :=
  (k = 0 ∧ e = 0 ∧ n = 0 ∧ d.length = 0 ∧ q = 0) ∨ (k = 1 ∧ e = 0 ∧ n = 0 ∧ d.length % 8 = 0 ∧ d.length ≤ 524280 ∧ q ≤ 65535) ∨
  (k = 2 ∧ (0 ≤ n ∧ n ≤ 536870911) ∧ (0 ≤ e ∧ e ≤ 7) ∧ (6 ≤ e → d.length = 0 ∧ (q : Int) = n) ∧ (e < 6 → q = 0 ∧ (d.length : Int) = bytesN e n ∧ trimB e n d = d))
/-- Well-formed. -/
inductive VN : Nd → Prop
  | mk {k e n : Int} {d : List Int} {ks : List Nd} : (∀ x ∈ ks, VN x) → (k = 2 → e = 7 → ∀ x ∈ ks, x.kind = 1) → Shp k e n d ks.length → VN (.mk k e n d ks)
theorem vn0 : VN nd0 := .mk (fun x h => by cases h) (fun _ _ x h => by cases h) (.inl ⟨rfl, rfl, rfl, rfl, rfl⟩)
end Go.Proofs.YthpbjpnbafiipaaDoor.E
set_option linter.unusedVariables false
set_option linter.unusedSimpArgs false
namespace Go.Proofs.YthpbjpnbafiipaaDoor.E
/-! The reference's checks of a node; the law DenoteIsBounded. -/
theorem tgt_mk (k e n : Int) (d : List Int) (ks : List Nd) : tgt (.mk k e n d ks) = if k = 2 ∧ e = 7 then ks.flatMap Nd.kids else ks := rfl
theorem good_tgt {x : Nd} (hg : good x) : ∀ y ∈ tgt x, good y := by
  have kid : ∀ {x : Nd}, good x → ∀ y ∈ x.kids, good y := fun {x} h y hy => by
    cases x with
    | mk k e n d ks => rw [good, goods_iff] at h; exact h.2 y hy
  unfold tgt
  split
  · intro y hy
    obtain ⟨z, hz, hy⟩ := List.mem_flatMap.1 hy
    exact kid (kid hg z hz) y hy
  · exact kid hg
end Go.Proofs.YthpbjpnbafiipaaDoor.E
set_option linter.unusedVariables false
set_option linter.unusedSimpArgs false
namespace Go.Proofs.YthpbjpnbafiipaaDoor.E
/-! Sizes of canonical forms. -/
def uniD (l : List Nd) : Nat := l.foldr (fun x a => max (x.data.length / 8) a) 0
def uniP (l : List Nd) : Nat := l.foldr (fun x a => max x.kids.length a) 0
def objSz (x : Nd) : Int := if x.kind = 0 then 0 else if x.kind = 1 then ((x.data.length / 8 + x.kids.length : Nat) : Int) else if x.elem = 7 then 1 + x.n * ((uniD x.kids + uniP x.kids : Nat) : Int) else wordsOf x.elem x.n
def sumL (l : List Int) : Int := l.foldr (fun a b => a + b) 0
def nodSz : Nat → Nd → Int
  | 0, x => objSz x
  | D + 1, x => objSz x + sumL ((tgt x).map (nodSz D))
theorem sumL_app (a b : List Int) : sumL (a ++ b) = sumL a + sumL b := by
  unfold sumL
  induction a with
  | nil => simp
  | cons x a ih => simp only [List.cons_append, List.foldr_cons, ih]; omega
theorem sumL_nil : sumL [] = 0 := rfl
theorem sumL_cons (x : Int) (l : List Int) : sumL (x :: l) = x + sumL l := rfl
theorem sumL_nn {l : List Int} (h : ∀ x ∈ l, 0 ≤ x) : 0 ≤ sumL l := by
  induction l with
  | nil => exact Int.le_refl _
  | cons x l ih =>
    rw [sumL_cons]
    have := h x List.mem_cons_self
    have := ih fun y hy => h y (List.mem_cons_of_mem _ hy)
    omega
theorem uniD_mem {l : List Nd} {x : Nd} (h : x ∈ l) : x.data.length / 8 ≤ uniD l := by
  unfold uniD
  induction l with
  | nil => cases h
  | cons y l ih =>
    rw [List.foldr_cons]
    rcases List.mem_cons.1 h with rfl | h
    · omega
    · have := ih h; omega
theorem uniD_le {l : List Nd} {b : Nat} (h : ∀ x ∈ l, x.data.length / 8 ≤ b) : uniD l ≤ b := by
  unfold uniD
  induction l with
  | nil => exact Nat.zero_le _
  | cons y l ih =>
    rw [List.foldr_cons]
    have := h y List.mem_cons_self
    have := ih fun x hx => h x (List.mem_cons_of_mem _ hx)
    omega
theorem uniP_le {l : List Nd} {b : Nat} (h : ∀ x ∈ l, x.kids.length ≤ b) : uniP l ≤ b := by
  unfold uniP
  induction l with
  | nil => exact Nat.zero_le _
  | cons y l ih =>
    rw [List.foldr_cons]
    have := h y List.mem_cons_self
    have := ih fun x hx => h x (List.mem_cons_of_mem _ hx)
    omega
theorem uniD_snoc (l : List Nd) (x : Nd) : uniD (l ++ [x]) = max (uniD l) (x.data.length / 8) := by
  unfold uniD
  induction l with
  | nil => simp
  | cons y l ih => simp only [List.cons_append, List.foldr_cons, ih]; omega
theorem uniP_snoc (l : List Nd) (x : Nd) : uniP (l ++ [x]) = max (uniP l) x.kids.length := by
  unfold uniP
  induction l with
  | nil => simp
  | cons y l ih => simp only [List.cons_append, List.foldr_cons, ih]; omega
-- the program's
theorem uni_loop {l : List Nd} (hl : l.length ≤ 1073741824) (hd : ∀ x ∈ l, x.data.length ≤ 17592186044416) (a b c : Int) (x y : List PV) : ∀ (c0 i : Nat), i + c0 = l.length → trim_Uniform_L0 (uniD (l.take i) : Nat) (uniP (l.take i) : Nat) (pvs l) l.length i a b c x y = ok (.tup [I (uniD l : Nat), I (uniP l : Nat)]) := by
  intro c0
  induction c0 with
  | zero =>
    intro i hi
    rw [trim_Uniform_L0_eq, decide_eq_false (by omega), List.take_of_length_le (by omega)]
    rfl
  | succ c0 ih =>
    intro i hi
    have hil : i < l.length := by omega
    have hdi := hd _ (List.getElem_mem hil)
    rw [trim_Uniform_L0_eq, decide_eq_true (show (i : Int) < (l.length : Int) by omega), decide_eq_true (show 0 ≤ (i : Int) by omega), decide_eq_true (show (i : Int) < ((pvs l).length : Int) by simp; omega)]
    dsimp only [callT_ret, callT_pan, onlyPV_v, Option.bind_some, pBool_v, pTup_v, pAgg_v, aggOf_v, pSl_v, pInt_v, pI64, pU64, pU32, pU8, List.getElem?_cons_zero, List.getElem?_cons_succ, cells_v, cells_sl, cells_agg, isCell_v, isCell_sl, cnd_t, cnd_f, tt_and, ff_and, nt_t, nt_f, len1, len3, len5, len8, len10, hlen1, clen1, clen5]
    rw [Int.toNat_natCast, pvs_get hil]
    dsimp only [callT_ret, callT_pan, onlyPV_v, Option.bind_some, pBool_v, pTup_v, pAgg_v, aggOf_v, pSl_v, pInt_v, pI64, pU64, pU32, pU8, List.getElem?_cons_zero, List.getElem?_cons_succ, cells_v, cells_sl, cells_agg, isCell_v, isCell_sl, cnd_t, cnd_f, tt_and, ff_and, nt_t, nt_f, len1, len3, len5, len8, len10, hlen1, clen1, clen5]
    rw [nd_five, nd_cells, show (l[i].c.drop 0).take 5 = l[i].c from rfl]
    dsimp only [Nd.c, callT_ret, callT_pan, onlyPV_v, Option.bind_some, pBool_v, pTup_v, pAgg_v, aggOf_v, pSl_v, pInt_v, pI64, pU64, pU32, pU8, List.getElem?_cons_zero, List.getElem?_cons_succ, cells_v, cells_sl, cells_agg, isCell_v, isCell_sl, cnd_t, cnd_f, tt_and, ff_and, nt_t, nt_f, len1, len3, len5, len8, len10, hlen1, clen1, clen5]
    rw [bs_len, pvs_len, Int.tdiv_eq_ediv_of_nonneg (by omega), w64 (x := (l[i].data.length : Int) / 8) (by omega), w64 (x := (i : Int) + 1) (by omega)]
    have h1 : (if (l[i].data.length : Int) / 8 > ((uniD (l.take i) : Nat) : Int) then (l[i].data.length : Int) / 8 else ((uniD (l.take i) : Nat) : Int)) = ((uniD (l.take (i + 1)) : Nat) : Int) := by
      rw [take_snoc hil, uniD_snoc]
      split <;> omega
    have h2 : (if (l[i].kids.length : Int) > ((uniP (l.take i) : Nat) : Int) then (l[i].kids.length : Int) else ((uniP (l.take i) : Nat) : Int)) = ((uniP (l.take (i + 1)) : Nat) : Int) := by
      rw [take_snoc hil, uniP_snoc]
      split <;> omega
    rw [h1, h2]
    exact ih (i + 1) (by omega)
theorem V_Uniform {x : Nd} (hl : x.kids.length ≤ 1073741824) (hd : ∀ y ∈ x.kids, y.data.length ≤ 17592186044416) : ev 49 [.pv x.x] [] = ok (.tup [I (uniD x.kids : Nat), I (uniP x.kids : Nat)]) := by
  rw [Nd.x, trim_Uniform_eq, pvs_len]
  exact uni_loop hl hd x.kind x.elem x.n (bs x.data) (pvs x.kids) x.kids.length 0 (by omega)
theorem good_len {x : Nd} (h : good x) : x.data.length ≤ 17592186044416 ∧ x.kids.length ≤ 1073741824 ∧ ∀ y ∈ x.kids, good y := by
  cases x with
  | mk k e n d ks =>
    rw [good, goods_iff] at h
    exact ⟨h.1.1, h.1.2.2.1, h.2⟩
theorem vn_shp {x : Nd} (h : VN x) : Shp x.kind x.elem x.n x.data x.kids.length ∧ (∀ y ∈ x.kids, VN y) := by
  cases h with
  | mk v1 v2 v3 => exact ⟨v3, v1⟩
theorem objSz_nn {x : Nd} (h : VN x) : 0 ≤ objSz x := by
  obtain ⟨hs, _⟩ := vn_shp h
  unfold objSz
  rcases hs with hs | hs | hs
  · rw [if_pos hs.1]; exact Int.le_refl _
  · rw [if_neg (by omega), if_pos hs.1]; omega
  · rw [if_neg (by omega), if_neg (by omega)]
    split
    · have := Int.mul_nonneg hs.2.1.1 (Int.natCast_nonneg (uniD x.kids + uniP x.kids))
      omega
    · exact (wordsOf_range hs.2.1).1
theorem V_Object13 {x : Nd} (hg : good x) (hv : VN x) (hb : objSz x ≤ 4611686018427387904) (hu : uniD x.kids + uniP x.kids ≤ 4611686018427387904) : ev 28 [.pv x.x] [] = ok (I (objSz x)) := by
  obtain ⟨hd, hk, hks⟩ := good_len hg
  obtain ⟨hs, _⟩ := vn_shp hv
  have hun := V_Uniform hk (fun y hy => (good_len (hks y hy)).1)
  rw [Nd.x] at hun ⊢
  rw [canonsize_Object_eq, bs_len, pvs_len]
  unfold objSz at hb ⊢
  rcases hs with hs | hs | hs
  · rw [beq_iff_eq.2 hs.1, if_pos hs.1]; rfl
  · rw [beq_eq_false_iff_ne.2 (show x.kind ≠ 0 by omega), beq_iff_eq.2 hs.1, if_neg (by omega), if_pos hs.1]
    dsimp only [callT_ret, callT_pan, onlyPV_v, Option.bind_some, pBool_v, pTup_v, pAgg_v, aggOf_v, pSl_v, pInt_v, pI64, pU64, pU32, pU8, List.getElem?_cons_zero, List.getElem?_cons_succ, cells_v, cells_sl, cells_agg, isCell_v, isCell_sl, cnd_t, cnd_f, tt_and, ff_and, nt_t, nt_f, len1, len3, len5, len8, len10, hlen1, clen1, clen5]
    rw [Int.tdiv_eq_ediv_of_nonneg (by omega), w64 (x := (x.data.length : Int) / 8) (by omega), w64 (by omega)]
    rw [show (x.data.length : Int) / 8 + (x.kids.length : Int) = ((x.data.length / 8 + x.kids.length : Nat) : Int) by omega]
  · rw [if_neg (by omega), if_neg (by omega)] at hb ⊢
    rw [beq_eq_false_iff_ne.2 (show x.kind ≠ 0 by omega), beq_eq_false_iff_ne.2 (show x.kind ≠ 1 by omega)]
    dsimp only [callT_ret, callT_pan, onlyPV_v, Option.bind_some, pBool_v, pTup_v, pAgg_v, aggOf_v, pSl_v, pInt_v, pI64, pU64, pU32, pU8, List.getElem?_cons_zero, List.getElem?_cons_succ, cells_v, cells_sl, cells_agg, isCell_v, isCell_sl, cnd_t, cnd_f, tt_and, ff_and, nt_t, nt_f, len1, len3, len5, len8, len10, hlen1, clen1, clen5]
    by_cases h7 : x.elem = 7
    · rw [if_pos h7] at hb ⊢
      rw [beq_iff_eq.2 h7]
      dsimp only [callT_ret, callT_pan, onlyPV_v, Option.bind_some, pBool_v, pTup_v, pAgg_v, aggOf_v, pSl_v, pInt_v, pI64, pU64, pU32, pU8, List.getElem?_cons_zero, List.getElem?_cons_succ, cells_v, cells_sl, cells_agg, isCell_v, isCell_sl, cnd_t, cnd_f, tt_and, ff_and, nt_t, nt_f, len1, len3, len5, len8, len10, hlen1, clen1, clen5]
      rw [hun]
      have hm := Int.mul_nonneg hs.2.1.1 (Int.natCast_nonneg (uniD x.kids + uniP x.kids))
      dsimp only [callT_ret, callT_pan, onlyPV_v, Option.bind_some, pBool_v, pTup_v, pAgg_v, aggOf_v, pSl_v, pInt_v, pI64, pU64, pU32, pU8, List.getElem?_cons_zero, List.getElem?_cons_succ, cells_v, cells_sl, cells_agg, isCell_v, isCell_sl, cnd_t, cnd_f, tt_and, ff_and, nt_t, nt_f, len1, len3, len5, len8, len10, hlen1, clen1, clen5]
      rw [w64 (x := ((uniD x.kids : Nat) : Int) + ((uniP x.kids : Nat) : Int)) (by omega), show ((uniD x.kids : Nat) : Int) + ((uniP x.kids : Nat) : Int) = ((uniD x.kids + uniP x.kids : Nat) : Int) by push_cast; rfl, w64 (x := x.n * ((uniD x.kids + uniP x.kids : Nat) : Int)) (by omega), w64 (by omega)]
    · rw [if_neg h7]
      rw [beq_eq_false_iff_ne.2 h7, V_Words hs.2.2.1 hs.2.1]
      rfl
end Go.Proofs.YthpbjpnbafiipaaDoor.E
set_option linter.unusedVariables false
set_option linter.unusedSimpArgs false
namespace Go.Proofs.YthpbjpnbafiipaaDoor.E
/-! Equality of nodes; the words of data. -/
noncomputable def eqB {α : Type} (x y : α) : Bool := @decide (x = y) (Classical.propDecidable _)
theorem eqB_t {α : Type} {x y : α} (h : x = y) : eqB x y = true := by unfold eqB; exact @decide_eq_true _ (Classical.propDecidable _) h
theorem eqB_f {α : Type} {x y : α} (h : ¬ x = y) : eqB x y = false := by unfold eqB; exact @decide_eq_false _ (Classical.propDecidable _) h
theorem take_eq {α : Type} {a b : List α} {i : Nat} (ha : i < a.length) (hb : i < b.length) (h : a.take i = b.take i) (e : a[i] = b[i]) : a.take (i + 1) = b.take (i + 1) := by
  rw [take_snoc ha, take_snoc hb, h, e]
theorem same_loop2 {d d' : List Int} (hd : d.length ≤ 17592186044416) (hl : d.length = d'.length) : ∀ (c i : Nat), i + c = d.length → d.take i = d'.take i → capnpref01_Same_L0 (bs d) (bs d') i = ok (Bo (eqB d d')) := by
  intro c
  induction c with
  | zero =>
    intro i hi ht
    rw [List.take_of_length_le (by omega), List.take_of_length_le (by omega)] at ht
    rw [capnpref01_Same_L0_eq, decide_eq_false (by simp; omega), eqB_t ht]
    rfl
  | succ c ih =>
    intro i hi ht
    rw [capnpref01_Same_L0_eq, decide_eq_true (show (i : Int) < ((bs d).length : Int) by simp; omega), decide_eq_true (show 0 ≤ (i : Int) by omega), decide_eq_true (show (i : Int) < ((bs d').length : Int) by simp; omega)]
    dsimp only [callT_ret, callT_pan, onlyPV_v, Option.bind_some, pBool_v, pTup_v, pAgg_v, aggOf_v, pSl_v, pInt_v, pI64, pU64, pU32, pU8, List.getElem?_cons_zero, List.getElem?_cons_succ, cells_v, cells_sl, cells_agg, isCell_v, isCell_sl, cnd_t, cnd_f, tt_and, ff_and, nt_t, nt_f, len1, len3, len5, len8, len10, hlen1, clen1, clen5]
    rw [Int.toNat_natCast, bs_get (l := d) (by omega)]
    dsimp only [callT_ret, callT_pan, onlyPV_v, Option.bind_some, pBool_v, pTup_v, pAgg_v, aggOf_v, pSl_v, pInt_v, pI64, pU64, pU32, pU8, List.getElem?_cons_zero, List.getElem?_cons_succ, cells_v, cells_sl, cells_agg, isCell_v, isCell_sl, cnd_t, cnd_f, tt_and, ff_and, nt_t, nt_f, len1, len3, len5, len8, len10, hlen1, clen1, clen5]
    rw [bs_get (l := d') (by omega)]
    dsimp only [callT_ret, callT_pan, onlyPV_v, Option.bind_some, pBool_v, pTup_v, pAgg_v, aggOf_v, pSl_v, pInt_v, pI64, pU64, pU32, pU8, List.getElem?_cons_zero, List.getElem?_cons_succ, cells_v, cells_sl, cells_agg, isCell_v, isCell_sl, cnd_t, cnd_f, tt_and, ff_and, nt_t, nt_f, len1, len3, len5, len8, len10, hlen1, clen1, clen5]
    by_cases he : d[i] = d'[i]
    · rw [show (d[i] != d'[i]) = false from by simpa using he, w64 (x := (i : Int) + 1) (by omega)]
      exact ih (i + 1) (by omega) (take_eq (by omega) (by omega) ht he)
    · rw [bne_iff_ne.2 he, eqB_f (fun h => he (by subst h; rfl))]
      rfl
theorem V_SameB {d d' : List Int} (hd : d.length ≤ 17592186044416) (hd' : d'.length ≤ 17592186044416) : ev 34 [.pv (.sl 1 (bs d)), .pv (.sl 1 (bs d'))] [] = ok (Bo (eqB d d')) := by
  rw [capnpref01_Same_eq, bs_len, bs_len]
  by_cases hl : d.length = d'.length
  · rw [show ((d.length : Int) != (d'.length : Int)) = false from by simp; omega]
    exact same_loop2 hd hl d.length 0 (by omega) (by rw [List.take_zero, List.take_zero])
  · rw [show ((d.length : Int) != (d'.length : Int)) = true from by simp; omega, eqB_f (fun h => hl (by rw [h]))]
    rfl
end Go.Proofs.YthpbjpnbafiipaaDoor.E
set_option linter.unusedVariables false
set_option linter.unusedSimpArgs false
namespace Go.Proofs.YthpbjpnbafiipaaDoor.E
/-! What comparing in place looks at. -/
theorem vn_null {x : Nd} (h : VN x) (hk : x.kind = 0) : x = nd0 := by
  cases h with
  | mk v1 v2 v3 =>
    rename_i k e n d ks
    have hk' : k = 0 := hk
    rcases v3 with ⟨a1, a2, a3, a4, a5⟩ | ⟨a1, _⟩ | ⟨a1, _⟩
    · rw [a1, a2, a3, List.length_eq_zero_iff.1 a4, List.length_eq_zero_iff.1 a5]; rfl
    · omega
    · omega
end Go.Proofs.YthpbjpnbafiipaaDoor.E
set_option linter.unusedVariables false
set_option linter.unusedSimpArgs false
namespace Go.Proofs.YthpbjpnbafiipaaDoor.E
/-! Canonical forms: what is written, and what it denotes. -/
def w8i (b : List Int) : Int := b.getD 0 0 + 256 * b.getD 1 0 + 65536 * b.getD 2 0 + 16777216 * b.getD 3 0 + 4294967296 * b.getD 4 0 + 1099511627776 * b.getD 5 0 + 281474976710656 * b.getD 6 0 + 72057594037927936 * b.getD 7 0
/-- Words out of bytes. -/
def wrdN : Nat → List Int → List Int
  | 0, _ => []
  | n + 1, b => w8i b :: wrdN n (b.drop 8)
@[simp] theorem wrdN_len : ∀ (n : Nat) (b : List Int), (wrdN n b).length = n
  | 0, _ => rfl
  | n + 1, b => by simp [wrdN, wrdN_len n]
theorem getD_byte {b : List Int} (hb : ∀ x ∈ b, Byte x) (i : Nat) : 0 ≤ b.getD i 0 ∧ b.getD i 0 ≤ 255 := by
  rw [List.getD_eq_getElem?_getD]
  by_cases h : i < b.length
  · rw [List.getElem?_eq_getElem h]; exact hb _ (List.getElem_mem h)
  · rw [List.getElem?_eq_none (by omega)]; exact ⟨by simp, by simp⟩
def encS (off : Int) (d q : Nat) : Int := off % 1073741824 * 4 + d * 4294967296 + q * 281474976710656
def encL (off e c : Int) : Int := off % 1073741824 * 4 + 1 + e * 4294967296 + c * 34359738368
theorem decI_encS {off : Int} {d q : Nat} (ho : -536870912 ≤ off ∧ off ≤ 536870911) (hd : d ≤ 65535) (hq : q ≤ 65535) : decI (encS off d q) = (0, off, (d : Int), (q : Int), 0, 0, false, 0, 0, 0) ∧ Word (encS off d q) ∧ encS off d q % 4 = 0 := by
  have hm := Int.emod_nonneg off (show (1073741824 : Int) ≠ 0 by decide)
  have hl := Int.emod_lt_of_pos off (show (0 : Int) < 1073741824 by decide)
  have h4 : encS off d q % 4 = 0 := by unfold encS; omega
  refine ⟨?_, ⟨by unfold encS; omega, by unfold encS; omega⟩, h4⟩
  unfold decI
  rw [if_pos h4]
  have e1 : encS off d q / 4 % 1073741824 = off % 1073741824 := by unfold encS; omega
  have e2 : encS off d q / 4294967296 % 65536 = d := by unfold encS; omega
  have e3 : encS off d q / 281474976710656 % 65536 = q := by unfold encS; omega
  rw [e1, e2, e3]
  have e4 : sgn30 (off % 1073741824) = off := by unfold sgn30; split <;> omega
  rw [e4]
theorem decI_encL {off e c : Int} (ho : -536870912 ≤ off ∧ off ≤ 536870911) (he : 0 ≤ e ∧ e ≤ 7) (hc : 0 ≤ c ∧ c ≤ 536870911) : decI (encL off e c) = (1, off, 0, 0, e, c, false, 0, 0, 0) ∧ Word (encL off e c) ∧ encL off e c % 4 = 1 := by
  have hm := Int.emod_nonneg off (show (1073741824 : Int) ≠ 0 by decide)
  have hl := Int.emod_lt_of_pos off (show (0 : Int) < 1073741824 by decide)
  have h4 : encL off e c % 4 = 1 := by unfold encL; omega
  refine ⟨?_, ⟨by unfold encL; omega, by unfold encL; omega⟩, h4⟩
  unfold decI
  rw [if_neg (by omega), if_pos h4]
  have e1 : encL off e c / 4 % 1073741824 = off % 1073741824 := by unfold encL; omega
  have e2 : encL off e c / 4294967296 % 8 = e := by unfold encL; omega
  have e3 : encL off e c / 34359738368 % 536870912 = c := by unfold encL; omega
  rw [e1, e2, e3]
  have e4 : sgn30 (off % 1073741824) = off := by unfold sgn30; split <;> omega
  rw [e4]
def uni (x : Nd) : Nat := uniD x.kids + uniP x.kids
/-- The pointer to a node. -/
def ptrI (x : Nd) (off : Int) : Int :=
  if x.kind = 0 then 0 else if x.kind = 1 then (if x.data.length / 8 = 0 ∧ x.kids.length = 0 then encS (-1) 0 0 else encS off (x.data.length / 8) x.kids.length)
  else if x.elem = 7 then encL off 7 (x.n * (uni x : Nat)) else encL off x.elem x.n
def ptrW (B : Nd → List Int) : Nat → Nat → List Nd → List Int
  | _, _, [] => []
  | i, pos, t :: r => ptrI t ((pos : Int) - i - 1) :: ptrW B (i + 1) (pos + (B t).length) r
def blen (B : Nd → List Int) (ts : List Nd) : Nat := (ts.flatMap B).length
def asmC (B : Nd → List Int) (a b : Nat) : Nat → Nat → List Nd → List Int
  | _, _, [] => []
  | i, pos, k :: r => (wrdN a k.data ++ (ptrW B (i + a) pos k.kids ++ List.replicate (b - k.kids.length) 0)) ++ asmC B a b (i + (a + b)) (pos + blen B k.kids) r
/-- An object's words. -/
def obW (B : Nd → List Int) (x : Nd) : List Int :=
  if x.kind = 1 then wrdN (x.data.length / 8) x.data ++ ptrW B (x.data.length / 8) (x.data.length / 8 + x.kids.length) x.kids
  else if x.elem = 7 then encS x.n (uniD x.kids) (uniP x.kids) :: asmC B (uniD x.kids) (uniP x.kids) 1 (1 + x.kids.length * uni x) x.kids
  else if x.elem = 6 then ptrW B 0 x.kids.length x.kids
  else wrdN (wordsOf x.elem x.n).toNat x.data
/-- The words of a node and of what it refers to. -/
def body : Nat → Nd → List Int
  | 0, _ => []
  | D + 1, x => if x.kind = 0 then [] else obW (body D) x ++ (tgt x).flatMap (body D)
/-- The canonical form. -/
def canW (D : Nat) (x : Nd) : List Int := ptrI x 0 :: body D x
@[simp] theorem ptrW_len (B : Nd → List Int) : ∀ (i pos : Nat) (l : List Nd), (ptrW B i pos l).length = l.length
  | _, _, [] => rfl
  | i, pos, t :: r => by simp [ptrW, ptrW_len B]
theorem asmC_len (B : Nd → List Int) (a b : Nat) : ∀ (i pos : Nat) (l : List Nd), (∀ k ∈ l, k.kids.length ≤ b) → (asmC B a b i pos l).length = l.length * (a + b)
  | _, _, [], _ => by simp [asmC]
  | i, pos, k :: r, h => by
    have h1 := h k List.mem_cons_self
    have h2 := asmC_len B a b (i + (a + b)) (pos + blen B k.kids) r fun x hx => h x (List.mem_cons_of_mem _ hx)
    simp only [asmC, List.length_append, wrdN_len, ptrW_len, List.length_replicate, h2, List.length_cons]
    rw [Nat.add_mul]
    omega
theorem uniP_mem {l : List Nd} {x : Nd} (h : x ∈ l) : x.kids.length ≤ uniP l := by
  unfold uniP
  induction l with
  | nil => cases h
  | cons y l ih =>
    rw [List.foldr_cons]
    rcases List.mem_cons.1 h with rfl | h
    · omega
    · have := ih h; omega
theorem obW_len (B : Nd → List Int) {x : Nd} (hv : VN x) (h0 : x.kind ≠ 0) : ((obW B x).length : Int) = objSz x := by
  obtain ⟨hs, _⟩ := vn_shp hv
  unfold obW objSz
  rw [if_neg h0]
  rcases hs with hs | hs | hs
  · exact absurd hs.1 h0
  · rw [if_pos hs.1, if_pos hs.1, List.length_append, wrdN_len, ptrW_len]
  · have hk1 : ¬ x.kind = 1 := by omega
    rw [if_neg hk1, if_neg hk1]
    by_cases h7 : x.elem = 7
    · rw [if_pos h7, if_pos h7, List.length_cons, asmC_len _ _ _ _ _ _ (fun k hk => uniP_mem hk), ← (hs.2.2.2.1 (by omega)).2]
      push_cast
      omega
    · rw [if_neg h7, if_neg h7]
      by_cases h6 : x.elem = 6
      · rw [if_pos h6, ptrW_len, h6]
        have := (hs.2.2.2.1 (by omega)).2
        unfold wordsOf bitsOf
        rw [if_neg (by decide)]
        simp
        omega
      · rw [if_neg h6, wrdN_len]
        have := (wordsOf_range (e := x.elem) hs.2.1).1
        omega
theorem sumL_len (B : Nd → List Int) (S : Nd → Int) : ∀ (l : List Nd), (∀ t ∈ l, ((B t).length : Int) = S t) → ((l.flatMap B).length : Int) = sumL (l.map S)
  | [], _ => rfl
  | t :: l, h => by
    rw [List.flatMap_cons, List.length_append, List.map_cons, sumL_cons, ← h t List.mem_cons_self, ← sumL_len B S l fun x hx => h x (List.mem_cons_of_mem _ hx)]
    push_cast
    rfl
theorem vn_tgt {x : Nd} (hv : VN x) : ∀ t ∈ tgt x, VN t := by
  obtain ⟨_, hk⟩ := vn_shp hv
  intro t ht
  unfold tgt at ht
  split at ht
  · obtain ⟨k, hk1, hk2⟩ := List.mem_flatMap.1 ht
    exact (vn_shp (hk k hk1)).2 t hk2
  · exact hk t ht
theorem objSz_null {x : Nd} (h : x.kind = 0) : objSz x = 0 := by unfold objSz; rw [if_pos h]
theorem tgt_null {x : Nd} (hv : VN x) (h : x.kind = 0) : tgt x = [] := by rw [vn_null hv h]; rfl
theorem nodSz_null {x : Nd} (hv : VN x) (h : x.kind = 0) : ∀ D, nodSz D x = 0
  | 0 => objSz_null h
  | D + 1 => by rw [nodSz, tgt_null hv h, objSz_null h]; rfl
theorem body_len : ∀ (D : Nat) {x : Nd}, VN x → Dp D x → ((body D x).length : Int) = nodSz D x
  | 0, x, hv, hd => by
    have : x.kind = 0 := hd
    rw [nodSz_null hv this]
    rfl
  | D + 1, x, hv, hd => by
    rw [body]
    by_cases h0 : x.kind = 0
    · rw [if_pos h0, nodSz_null hv h0]; rfl
    · have hd' := hd.resolve_left h0
      rw [if_neg h0, nodSz, List.length_append, ← obW_len (body D) hv h0, ← sumL_len (body D) (nodSz D) (tgt x) fun t ht => body_len D (vn_tgt hv t ht) (hd'.2 t ht)]
      push_cast
      rfl
end Go.Proofs.YthpbjpnbafiipaaDoor.E
set_option linter.unusedVariables false
set_option linter.unusedSimpArgs false
namespace Go.Proofs.YthpbjpnbafiipaaDoor.E
/-! What a canonical form denotes. -/
def At (W : List Int) (p : Nat) (L : List Int) : Prop := ∃ A C, W = A ++ (L ++ C) ∧ A.length = p
theorem At.app {W L M : List Int} {p : Nat} (h : At W p (L ++ M)) : At W p L ∧ At W (p + L.length) M := by
  obtain ⟨A, C, rfl, rfl⟩ := h
  exact ⟨⟨A, M ++ C, by simp, rfl⟩, ⟨A ++ L, C, by simp, by simp⟩⟩
theorem At.len {W L : List Int} {p : Nat} (h : At W p L) : p + L.length ≤ W.length := by
  obtain ⟨A, C, rfl, rfl⟩ := h
  simp
theorem rdL_one (W : List Int) : rdL [W] 0 = W := rfl
theorem At.inB {W L : List Int} {p : Nat} (h : At W p L) {n : Int} (hn : n = L.length) : inB [W] 0 p n := by
  have := h.len
  refine ⟨Int.le_refl _, by simp, by omega, by omega, ?_⟩
  rw [rdL_one]
  omega
theorem At.cons {W L : List Int} {x : Int} {p : Nat} (h : At W p (x :: L)) : wd [W] 0 p = x ∧ E.inB [W] 0 p 1 ∧ At W (p + 1) L := by
  have h1 : At W p ([x] ++ L) := h
  obtain ⟨a1, a2⟩ := h1.app
  refine ⟨?_, a1.inB rfl, a2⟩
  obtain ⟨A, C, rfl, rfl⟩ := h
  unfold wd rd
  rw [rdL_one, List.getD_eq_getElem?_getD]
  simp
/-- What the traversal of a canonical form costs. -/
def ownC (x : Nd) : Int := objSz x + (if x.kind = 2 ∧ x.elem = 7 ∧ uni x = 0 then x.n else 0)
def cstN : Nat → Nd → Int
  | 0, _ => 0
  | D + 1, x => if x.kind = 0 then 0 else ownC x + sumL ((tgt x).map (cstN D))
theorem ownC_nn {x : Nd} (hv : VN x) : 0 ≤ ownC x := by
  have := objSz_nn hv
  obtain ⟨hs, _⟩ := vn_shp hv
  unfold ownC
  split
  · rename_i h
    rcases hs with hs | hs | hs
    · omega
    · omega
    · omega
  · omega
theorem cstN_nn : ∀ (D : Nat) {x : Nd}, VN x → 0 ≤ cstN D x
  | 0, x, _ => Int.le_refl _
  | D + 1, x, hv => by
    rw [cstN]
    split
    · exact Int.le_refl _
    · have := ownC_nn hv
      have := sumL_nn (l := (tgt x).map (cstN D)) fun y hy => by
        obtain ⟨t, ht, rfl⟩ := List.mem_map.1 hy
        exact cstN_nn D (vn_tgt hv t ht)
      omega
/-- A node that may be written. -/
structure Ok (D : Nat) (t : Nd) : Prop where
  vn : VN t
  tr : TrN t
  gd : good t
  dp : Dp D t
section
variable {W : List Int} {F : Int → Int → Int → Nd × Int × Int} {B : Nd → List Int} {c : Nd → Int} {Q : Nd → Prop}
end
end Go.Proofs.YthpbjpnbafiipaaDoor.E
set_option linter.unusedVariables false
set_option linter.unusedSimpArgs false
namespace Go.Proofs.YthpbjpnbafiipaaDoor.E
/-! The canonical form denotes the node. -/
theorem sumL_flat (c : Nd → Int) : ∀ l : List Nd, sumL ((l.flatMap Nd.kids).map c) = sumL (l.map fun k => sumL (k.kids.map c))
  | [] => rfl
  | k :: l => by rw [List.flatMap_cons, List.map_append, sumL_app, List.map_cons, sumL_cons, sumL_flat c l]
theorem flat_flat (B : Nd → List Int) : ∀ l : List Nd, (l.flatMap Nd.kids).flatMap B = l.flatMap fun k => k.kids.flatMap B
  | [] => rfl
  | k :: l => by rw [List.flatMap_cons, List.flatMap_append, List.flatMap_cons, flat_flat B l]
theorem ok_tgt {D : Nat} {x : Nd} (h : Ok (D + 1) x) (h0 : x.kind ≠ 0) : ∀ t ∈ tgt x, Ok D t := by
  have hd := h.dp.resolve_left h0
  intro t ht
  refine ⟨vn_tgt h.vn t ht, ?_, good_tgt h.gd t ht, hd.2 t ht⟩
  have htr := h.tr
  have tk : ∀ {y : Nd}, TrN y → ∀ z ∈ y.kids, TrN z := fun hy => by
    cases hy with
    | mk t1 t2 => exact t2
  unfold tgt at ht
  split at ht
  · obtain ⟨k, hk1, hk2⟩ := List.mem_flatMap.1 ht
    exact tk (tk htr k hk1) t hk2
  · exact tk htr t ht
/-- A well-formed trimmed struct. -/
theorem st_parts {k : Nd} (hv : VN k) (ht : TrN k) (hg : good k) (h1 : k.kind = 1) : ∃ d q, k = .mk 1 0 0 d q ∧ 8 * wordsT d = d.length ∧ ptrsT q = q.length ∧ (∀ x ∈ d, Byte x) ∧ d.length % 8 = 0 ∧ d.length ≤ 524280 ∧ q.length ≤ 65535 := by
  cases hv with
  | mk v1 v2 v3 =>
    rename_i k e n d ks
    have h1' : k = 1 := h1
    subst h1'
    rcases v3 with ⟨a1, _⟩ | ⟨_, a2, a3, a4, a5, a6⟩ | ⟨a1, _⟩
    · omega
    · subst a2; subst a3
      cases ht with
      | mk t1 t2 =>
        rw [good] at hg
        exact ⟨d, ks, rfl, (t1 rfl).1, (t1 rfl).2, hg.1.2.1, a4, a5, a6⟩
    · omega
theorem bytes_words {e n : Int} (he : 0 ≤ e ∧ e < 6) (hn : 0 ≤ n ∧ n ≤ 536870911) : bytesN e n ≤ 8 * wordsOf e n := by
  have h := bits_mul (e := e) hn
  unfold bytesN wordsOf
  rw [if_neg (by omega)]
  omega
end Go.Proofs.YthpbjpnbafiipaaDoor.E
set_option linter.unusedVariables false
set_option linter.unusedSimpArgs false
namespace Go.Proofs.YthpbjpnbafiipaaDoor.E
/-! Words encoded. -/
theorem and_high {w i m : Nat} (hw : w < 2 ^ i) (h : i + m ≤ 64) : w &&& (2 ^ 64 - 1 - (2 ^ m - 1) * 2 ^ i) = w := by
  have hk : 2 ^ 64 = 2 ^ (64 - i) * 2 ^ i := by rw [← Nat.pow_add]; congr 1; omega
  have hmi : 2 ^ m ≤ 2 ^ (64 - i) := Nat.pow_le_pow_right (by decide) (by omega)
  have hi : 0 < 2 ^ i := Nat.pow_pos (by decide)
  have hm : 0 < 2 ^ m := Nat.pow_pos (by decide)
  have e : 2 ^ 64 - 1 - (2 ^ m - 1) * 2 ^ i = 2 ^ i * (2 ^ (64 - i) - 2 ^ m) + (2 ^ i - 1) := by
    have h2 : 2 ^ m * 2 ^ i ≤ 2 ^ (64 - i) * 2 ^ i := Nat.mul_le_mul_right _ hmi
    rw [hk, Nat.sub_mul, Nat.one_mul, Nat.mul_sub, Nat.mul_comm (2 ^ i) (2 ^ (64 - i)), Nat.mul_comm (2 ^ i) (2 ^ m)]
    have h3 : 2 ^ i ≤ 2 ^ m * 2 ^ i := Nat.le_mul_of_pos_left _ hm
    omega
  rw [e]
  apply Nat.eq_of_testBit_eq
  intro j
  rw [Nat.testBit_and, Nat.testBit_two_pow_mul_add _ (by omega)]
  by_cases hj : j < i
  · rw [if_pos hj, Nat.testBit_two_pow_sub_one, decide_eq_true hj, Bool.and_true]
  · rw [if_neg hj]
    have : w.testBit j = false := Nat.testBit_lt_two_pow (Nat.lt_of_lt_of_le hw (Nat.pow_le_pow_right (by decide) (by omega)))
    rw [this, Bool.false_and]
theorem and_mid {v i m : Nat} (h : i + m ≤ 64) : (v * 2 ^ i % 2 ^ 64) &&& ((2 ^ m - 1) * 2 ^ i) = v % 2 ^ m * 2 ^ i := by
  apply Nat.eq_of_testBit_eq
  intro j
  rw [Nat.testBit_and, Nat.testBit_mod_two_pow, Nat.mul_comm v, Nat.mul_comm (2 ^ m - 1), Nat.mul_comm (v % 2 ^ m), Nat.testBit_two_pow_mul, Nat.testBit_two_pow_mul, Nat.testBit_two_pow_mul, Nat.testBit_two_pow_sub_one, Nat.testBit_mod_two_pow]
  by_cases h1 : j ≥ i
  · by_cases h2 : j - i < m
    · rw [decide_eq_true h1, decide_eq_true h2, decide_eq_true (show j < 64 by omega)]; simp
    · rw [decide_eq_false h2]; simp
  · rw [decide_eq_false h1]; simp
theorem V_Insert {w v i m : Nat} (hw : w < 2 ^ i) (hv : v < 2 ^ 64) (h1 : 1 ≤ m) (h2 : i + m ≤ 64) : ev 139 [.pv (U (w : Int)), .pv (I (i : Int)), .pv (I (m : Int)), .pv (U (v : Int))] [] = ok (U ((w + v % 2 ^ m * 2 ^ i : Nat) : Int)) := by
  have hk : 2 ^ 64 = 2 ^ (64 - i) * 2 ^ i := by rw [← Nat.pow_add]; congr 1; omega
  have hmi : 2 ^ m ≤ 2 ^ (64 - i) := Nat.pow_le_pow_right (by decide) (by omega)
  have hi : 0 < 2 ^ i := Nat.pow_pos (by decide)
  have hm : 0 < 2 ^ m := Nat.pow_pos (by decide)
  have h64 : 2 ^ m * 2 ^ i ≤ 2 ^ 64 := by rw [hk]; exact Nat.mul_le_mul_right _ hmi
  have hM : (2 ^ m - 1) * 2 ^ i < 2 ^ 64 := by
    rw [Nat.sub_mul, Nat.one_mul]
    have h3 : 2 ^ i ≤ 2 ^ m * 2 ^ i := Nat.le_mul_of_pos_left _ hm
    omega
  have hw64 : w < 2 ^ 64 := Nat.lt_of_lt_of_le hw (Nat.pow_le_pow_right (by decide) (by omega))
  have hx : v % 2 ^ m * 2 ^ i < 2 ^ 64 := by
    have := Nat.mod_lt v hm
    have : v % 2 ^ m * 2 ^ i ≤ (2 ^ m - 1) * 2 ^ i := Nat.mul_le_mul_right _ (by omega)
    omega
  rw [word_Insert_eq, V_mask m h1 (by omega), wu_nat (n := i) (by omega)]
  dsimp only [callT_ret, callT_pan, onlyPV_v, Option.bind_some, pBool_v, pTup_v, pAgg_v, aggOf_v, pSl_v, pInt_v, pI64, pU64, pU32, pU8, List.getElem?_cons_zero, List.getElem?_cons_succ, cells_v, cells_sl, cells_agg, isCell_v, isCell_sl, cnd_t, cnd_f, tt_and, ff_and, nt_t, nt_f, len1, len3, len5, len8, len10, hlen1, clen1, clen5]
  have hmin : min (i : Int).toNat 64 = i := by rw [Int.toNat_natCast, Nat.min_eq_left (by omega)]
  have ei : (2 : Int) ^ i = ((2 ^ i : Nat) : Int) := by push_cast; rfl
  have eM : IntKind.wrap .u64 (((2 ^ m - 1 : Nat) : Int) * 2 ^ i) = (((2 ^ m - 1) * 2 ^ i : Nat) : Int) := by
    rw [ei, ← Int.natCast_mul]; exact wu_nat hM
  have eV : IntKind.wrap .u64 ((v : Int) * 2 ^ i) = ((v * 2 ^ i % 2 ^ 64 : Nat) : Int) := by
    rw [wu64_any, ei, ← Int.natCast_mul]
    have : (18446744073709551616 : Int) = ((2 ^ 64 : Nat) : Int) := rfl
    rw [this, ← Int.natCast_emod]
  rw [hmin, eM, eV]
  have e1 : (BitVec.ofInt 64 (w : Int) &&& ~~~BitVec.ofInt 64 (((2 ^ m - 1) * 2 ^ i : Nat) : Int)).toNat = w := by
    rw [BitVec.toNat_and, BitVec.toNat_not, ofInt_toNat hw64, ofInt_toNat hM, and_high hw h2]
  have e2 : (BitVec.ofInt 64 ((v * 2 ^ i % 2 ^ 64 : Nat) : Int) &&& BitVec.ofInt 64 (((2 ^ m - 1) * 2 ^ i : Nat) : Int)).toNat = v % 2 ^ m * 2 ^ i := by
    rw [BitVec.toNat_and, ofInt_toNat (Nat.mod_lt _ (by decide)), ofInt_toNat hM, and_mid h2]
  rw [e1, e2, wu_nat hw64, wu_nat hx]
  have e3 : (BitVec.ofInt 64 (w : Int) ||| BitVec.ofInt 64 ((v % 2 ^ m * 2 ^ i : Nat) : Int)).toNat = w + v % 2 ^ m * 2 ^ i := by
    rw [BitVec.toNat_or, ofInt_toNat hw64, ofInt_toNat hx, Nat.or_comm, Nat.mul_comm, ← Nat.two_pow_add_eq_or_of_lt hw]
    omega
  have hs : w + v % 2 ^ m * 2 ^ i < 2 ^ 64 := by
    have h3 : v % 2 ^ m * 2 ^ i ≤ (2 ^ m - 1) * 2 ^ i := Nat.mul_le_mul_right _ (by have := Nat.mod_lt v hm; omega)
    have h4 : (2 ^ m - 1) * 2 ^ i + 2 ^ i ≤ 2 ^ 64 := by
      rw [Nat.sub_mul, Nat.one_mul]
      have h3 : 2 ^ i ≤ 2 ^ m * 2 ^ i := Nat.le_mul_of_pos_left _ hm
      omega
    omega
  rw [e3, wu_nat hs]
  simp [okBin]
theorem V_InsertI {w v : Int} {i m : Nat} (hw : 0 ≤ w ∧ w < 2 ^ i) (hv : 0 ≤ v ∧ v < 18446744073709551616) (h1 : 1 ≤ m) (h2 : i + m ≤ 64) : ev 139 [.pv (U w), .pv (I (i : Int)), .pv (I (m : Int)), .pv (U v)] [] = ok (U (w + v % 2 ^ m * 2 ^ i)) := by
  obtain ⟨a, rfl⟩ := Int.eq_ofNat_of_zero_le hw.1
  obtain ⟨b, rfl⟩ := Int.eq_ofNat_of_zero_le hv.1
  have hw' : a < 2 ^ i := by have := hw.2; exact_mod_cast this
  have hv' : b < 2 ^ 64 := by have := hv.2; omega
  rw [V_Insert hw' hv' h1 h2]
  push_cast
  rfl
theorem V_pack0 {off : Int} {d q : Nat} (hd : d ≤ 65535) (hq : q ≤ 65535) : ev 116 [.pv (.agg [I 0, I off, I d, I q, I 0, I 0, Bo false, I 0, U32 0, U32 0])] [] = ok (U (encS off d q)) := by
  have hm := Int.emod_nonneg off (show (1073741824 : Int) ≠ 0 by decide)
  have hl := Int.emod_lt_of_pos off (show (0 : Int) < 1073741824 by decide)
  have i1 := V_InsertI (w := 0) (v := 0) (i := 0) (m := 2) (by decide) (by decide) (by decide) (by decide)
  have i2 := V_InsertI (w := 0) (v := off % 18446744073709551616) (i := 2) (m := 30) (by decide) (by omega) (by decide) (by decide)
  have e2 : (0 : Int) + off % 18446744073709551616 % 2 ^ 30 * 2 ^ 2 = off % 1073741824 * 4 := by omega
  rw [e2] at i2
  have i3 := V_InsertI (w := off % 1073741824 * 4) (v := d) (i := 32) (m := 16) (by omega) (by omega) (by decide) (by decide)
  have e3 : off % 1073741824 * 4 + (d : Int) % 2 ^ 16 * 2 ^ 32 = off % 1073741824 * 4 + d * 4294967296 := by omega
  rw [e3] at i3
  have i4 := V_InsertI (w := off % 1073741824 * 4 + d * 4294967296) (v := q) (i := 48) (m := 16) (by omega) (by omega) (by decide) (by decide)
  have e4 : off % 1073741824 * 4 + d * 4294967296 + (q : Int) % 2 ^ 16 * 2 ^ 48 = encS off d q := by unfold encS; omega
  rw [e4] at i4
  rw [pointer_pack_eq, show IntKind.wrap .u64 0 = 0 from rfl, show ev 139 [.pv (U 0), .pv (I 0), .pv (I 2), .pv (U 0)] [] = ok (U 0) from i1]
  dsimp only [callT_ret, callT_pan, onlyPV_v, Option.bind_some, pBool_v, pTup_v, pAgg_v, aggOf_v, pSl_v, pInt_v, pI64, pU64, pU32, pU8, List.getElem?_cons_zero, List.getElem?_cons_succ, cells_v, cells_sl, cells_agg, isCell_v, isCell_sl, cnd_t, cnd_f, tt_and, ff_and, nt_t, nt_f, len1, len3, len5, len8, len10, hlen1, clen1, clen5]
  rw [show ((0 : Int) == 0) = true from rfl, wu64_any off]
  dsimp only [callT_ret, callT_pan, onlyPV_v, Option.bind_some, pBool_v, pTup_v, pAgg_v, aggOf_v, pSl_v, pInt_v, pI64, pU64, pU32, pU8, List.getElem?_cons_zero, List.getElem?_cons_succ, cells_v, cells_sl, cells_agg, isCell_v, isCell_sl, cnd_t, cnd_f, tt_and, ff_and, nt_t, nt_f, len1, len3, len5, len8, len10, hlen1, clen1, clen5]
  rw [show ev 139 [.pv (U 0), .pv (I 2), .pv (I 30), .pv (U (off % 18446744073709551616))] [] = ok (U (off % 1073741824 * 4)) from i2]
  dsimp only [callT_ret, callT_pan, onlyPV_v, Option.bind_some, pBool_v, pTup_v, pAgg_v, aggOf_v, pSl_v, pInt_v, pI64, pU64, pU32, pU8, List.getElem?_cons_zero, List.getElem?_cons_succ, cells_v, cells_sl, cells_agg, isCell_v, isCell_sl, cnd_t, cnd_f, tt_and, ff_and, nt_t, nt_f, len1, len3, len5, len8, len10, hlen1, clen1, clen5]
  rw [wu64 (x := (d : Int)) (by omega), show ev 139 [.pv (U (off % 1073741824 * 4)), .pv (I 32), .pv (I 16), .pv (U d)] [] = ok (U (off % 1073741824 * 4 + d * 4294967296)) from i3]
  dsimp only [callT_ret, callT_pan, onlyPV_v, Option.bind_some, pBool_v, pTup_v, pAgg_v, aggOf_v, pSl_v, pInt_v, pI64, pU64, pU32, pU8, List.getElem?_cons_zero, List.getElem?_cons_succ, cells_v, cells_sl, cells_agg, isCell_v, isCell_sl, cnd_t, cnd_f, tt_and, ff_and, nt_t, nt_f, len1, len3, len5, len8, len10, hlen1, clen1, clen5]
  rw [wu64 (x := (q : Int)) (by omega), show ev 139 [.pv (U (off % 1073741824 * 4 + d * 4294967296)), .pv (I 48), .pv (I 16), .pv (U q)] [] = ok (U (encS off d q)) from i4]
  rfl
theorem V_pack1 {off e c : Int} (he : 0 ≤ e ∧ e ≤ 7) (hc : 0 ≤ c ∧ c ≤ 536870911) : ev 116 [.pv (.agg [I 1, I off, I 0, I 0, I e, I c, Bo false, I 0, U32 0, U32 0])] [] = ok (U (encL off e c)) := by
  have hm := Int.emod_nonneg off (show (1073741824 : Int) ≠ 0 by decide)
  have hl := Int.emod_lt_of_pos off (show (0 : Int) < 1073741824 by decide)
  have i1 := V_InsertI (w := 0) (v := 1) (i := 0) (m := 2) (by decide) (by decide) (by decide) (by decide)
  have i2 := V_InsertI (w := 1) (v := off % 18446744073709551616) (i := 2) (m := 30) (by decide) (by omega) (by decide) (by decide)
  have e2 : (1 : Int) + off % 18446744073709551616 % 2 ^ 30 * 2 ^ 2 = off % 1073741824 * 4 + 1 := by omega
  rw [e2] at i2
  have i3 := V_InsertI (w := off % 1073741824 * 4 + 1) (v := e) (i := 32) (m := 3) (by omega) (by omega) (by decide) (by decide)
  have e3 : off % 1073741824 * 4 + 1 + e % 2 ^ 3 * 2 ^ 32 = off % 1073741824 * 4 + 1 + e * 4294967296 := by omega
  rw [e3] at i3
  have i4 := V_InsertI (w := off % 1073741824 * 4 + 1 + e * 4294967296) (v := c) (i := 35) (m := 29) (by omega) (by omega) (by decide) (by decide)
  have e4 : off % 1073741824 * 4 + 1 + e * 4294967296 + c % 2 ^ 29 * 2 ^ 35 = encL off e c := by unfold encL; omega
  rw [e4] at i4
  rw [pointer_pack_eq, show IntKind.wrap .u64 1 = 1 from rfl, show ev 139 [.pv (U 0), .pv (I 0), .pv (I 2), .pv (U 1)] [] = ok (U 1) from i1]
  dsimp only [callT_ret, callT_pan, onlyPV_v, Option.bind_some, pBool_v, pTup_v, pAgg_v, aggOf_v, pSl_v, pInt_v, pI64, pU64, pU32, pU8, List.getElem?_cons_zero, List.getElem?_cons_succ, cells_v, cells_sl, cells_agg, isCell_v, isCell_sl, cnd_t, cnd_f, tt_and, ff_and, nt_t, nt_f, len1, len3, len5, len8, len10, hlen1, clen1, clen5]
  rw [show ((1 : Int) == 0) = false from rfl, show ((1 : Int) == 1) = true from rfl, wu64_any off]
  dsimp only [callT_ret, callT_pan, onlyPV_v, Option.bind_some, pBool_v, pTup_v, pAgg_v, aggOf_v, pSl_v, pInt_v, pI64, pU64, pU32, pU8, List.getElem?_cons_zero, List.getElem?_cons_succ, cells_v, cells_sl, cells_agg, isCell_v, isCell_sl, cnd_t, cnd_f, tt_and, ff_and, nt_t, nt_f, len1, len3, len5, len8, len10, hlen1, clen1, clen5]
  rw [show ev 139 [.pv (U 1), .pv (I 2), .pv (I 30), .pv (U (off % 18446744073709551616))] [] = ok (U (off % 1073741824 * 4 + 1)) from i2]
  dsimp only [callT_ret, callT_pan, onlyPV_v, Option.bind_some, pBool_v, pTup_v, pAgg_v, aggOf_v, pSl_v, pInt_v, pI64, pU64, pU32, pU8, List.getElem?_cons_zero, List.getElem?_cons_succ, cells_v, cells_sl, cells_agg, isCell_v, isCell_sl, cnd_t, cnd_f, tt_and, ff_and, nt_t, nt_f, len1, len3, len5, len8, len10, hlen1, clen1, clen5]
  rw [wu64 (x := e) (by omega), show ev 139 [.pv (U (off % 1073741824 * 4 + 1)), .pv (I 32), .pv (I 3), .pv (U e)] [] = ok (U (off % 1073741824 * 4 + 1 + e * 4294967296)) from i3]
  dsimp only [callT_ret, callT_pan, onlyPV_v, Option.bind_some, pBool_v, pTup_v, pAgg_v, aggOf_v, pSl_v, pInt_v, pI64, pU64, pU32, pU8, List.getElem?_cons_zero, List.getElem?_cons_succ, cells_v, cells_sl, cells_agg, isCell_v, isCell_sl, cnd_t, cnd_f, tt_and, ff_and, nt_t, nt_f, len1, len3, len5, len8, len10, hlen1, clen1, clen5]
  rw [wu64 (x := c) (by omega), show ev 139 [.pv (U (off % 1073741824 * 4 + 1 + e * 4294967296)), .pv (I 35), .pv (I 29), .pv (U c)] [] = ok (U (encL off e c)) from i4]
  rfl
theorem eq10 {a1 a2 a3 a4 a5 a6 a7 a8 a9 : Int} {b : Bool} : eqCells [false, false, false, false, false, false, true, false, false, false] [I a1, I a2, I a3, I a4, I a5, I a6, Bo b, I a7, U32 a8, U32 a9] [I a1, I a2, I a3, I a4, I a5, I a6, Bo b, I a7, U32 a8, U32 a9] = some true := by
  simp [eqCells]
theorem V_Encode0 {off : Int} {d q : Nat} (ho : -536870912 ≤ off ∧ off ≤ 536870911) (hd : d ≤ 65535) (hq : q ≤ 65535) : ev 81 [.pv (.agg [I 0, I off, I d, I q, I 0, I 0, Bo false, I 0, U32 0, U32 0])] [] = ok (.tup [U (encS off d q), Bo true]) := by
  have hp := V_pack0 (off := off) hd hq
  obtain ⟨q1, q2, q3⟩ := decI_encS ho hd hq
  rw [pointer_Encode_eq, pointer_Valid_eq, hp]
  dsimp only [callT_ret, callT_pan, onlyPV_v, Option.bind_some, pBool_v, pTup_v, pAgg_v, aggOf_v, pSl_v, pInt_v, pI64, pU64, pU32, pU8, List.getElem?_cons_zero, List.getElem?_cons_succ, cells_v, cells_sl, cells_agg, isCell_v, isCell_sl, cnd_t, cnd_f, tt_and, ff_and, nt_t, nt_f, len1, len3, len5, len8, len10, hlen1, clen1, clen5]
  rw [V_Decode q2, q1]
  dsimp only [ptc, callT_ret, callT_pan, onlyPV_v, Option.bind_some, pBool_v, pTup_v, pAgg_v, aggOf_v, pSl_v, pInt_v, pI64, pU64, pU32, pU8, List.getElem?_cons_zero, List.getElem?_cons_succ, cells_v, cells_sl, cells_agg, isCell_v, isCell_sl, cnd_t, cnd_f, tt_and, ff_and, nt_t, nt_f, len1, len3, len5, len8, len10, hlen1, clen1, clen5]
  rw [eq10]
  rfl
theorem V_Encode1 {off e c : Int} (ho : -536870912 ≤ off ∧ off ≤ 536870911) (he : 0 ≤ e ∧ e ≤ 7) (hc : 0 ≤ c ∧ c ≤ 536870911) : ev 81 [.pv (.agg [I 1, I off, I 0, I 0, I e, I c, Bo false, I 0, U32 0, U32 0])] [] = ok (.tup [U (encL off e c), Bo true]) := by
  have hp := V_pack1 (off := off) he hc
  obtain ⟨q1, q2, q3⟩ := decI_encL ho he hc
  rw [pointer_Encode_eq, pointer_Valid_eq, hp]
  dsimp only [callT_ret, callT_pan, onlyPV_v, Option.bind_some, pBool_v, pTup_v, pAgg_v, aggOf_v, pSl_v, pInt_v, pI64, pU64, pU32, pU8, List.getElem?_cons_zero, List.getElem?_cons_succ, cells_v, cells_sl, cells_agg, isCell_v, isCell_sl, cnd_t, cnd_f, tt_and, ff_and, nt_t, nt_f, len1, len3, len5, len8, len10, hlen1, clen1, clen5]
  rw [V_Decode q2, q1]
  dsimp only [ptc, callT_ret, callT_pan, onlyPV_v, Option.bind_some, pBool_v, pTup_v, pAgg_v, aggOf_v, pSl_v, pInt_v, pI64, pU64, pU32, pU8, List.getElem?_cons_zero, List.getElem?_cons_succ, cells_v, cells_sl, cells_agg, isCell_v, isCell_sl, cnd_t, cnd_f, tt_and, ff_and, nt_t, nt_f, len1, len3, len5, len8, len10, hlen1, clen1, clen5]
  rw [eq10]
  rfl
end Go.Proofs.YthpbjpnbafiipaaDoor.E
set_option linter.unusedVariables false
set_option linter.unusedSimpArgs false
namespace Go.Proofs.YthpbjpnbafiipaaDoor.E
/-! A canonical form costs no more than the message. -/
theorem nodSz_le : ∀ (D : Nat) {x : Nd}, VN x → Dp D x → nodSz D x ≤ cstN D x
  | 0, x, hv, hd => by
    have h0 : x.kind = 0 := hd
    rw [nodSz_null hv h0]
    exact Int.le_refl _
  | D + 1, x, hv, hd => by
    by_cases h0 : x.kind = 0
    · rw [nodSz_null hv h0]
      exact cstN_nn (D + 1) hv
    · have hd' := (hd.resolve_left h0).2
      rw [nodSz, cstN, if_neg h0]
      have h1 : objSz x ≤ ownC x := by
        unfold ownC
        split
        · rename_i h
          obtain ⟨hs, _⟩ := vn_shp hv
          rcases hs with hs | hs | hs <;> omega
        · omega
      have h2 : ∀ l : List Nd, (∀ t ∈ l, nodSz D t ≤ cstN D t) → sumL (l.map (nodSz D)) ≤ sumL (l.map (cstN D)) := by
        intro l
        induction l with
        | nil => intro _; exact Int.le_refl _
        | cons t l ih =>
          intro h
          rw [List.map_cons, List.map_cons, sumL_cons, sumL_cons]
          have := h t List.mem_cons_self
          have := ih fun x hx => h x (List.mem_cons_of_mem _ hx)
          omega
      have := h2 (tgt x) fun t ht => nodSz_le D (vn_tgt hv t ht) (hd' t ht)
      omega
end Go.Proofs.YthpbjpnbafiipaaDoor.E
set_option linter.unusedVariables false
set_option linter.unusedSimpArgs false
namespace Go.Proofs.YthpbjpnbafiipaaDoor.E
/-! The program's sizes of canonical forms. -/
def vh (s : Int) : Heap := [[.pv (I s)], [.clo (.func 48) [] [.ptr 0 0, .ptr 1 0]]]
theorem vsame : sameClo (.func 48) [] [.ptr 0 0, .ptr 1 0] (.clo (.func 48) [] [.ptr 0 0, .ptr 1 0]) = true := rfl
theorem hlen2 (a b : List AV) : decide ([a, b].length = 2) = true := rfl
def Vis (D : Nat) (t : Nd) : Prop := ∀ s : Int, 0 ≤ s → s + nodSz D t ≤ 4611686018427387904 → ev 48 [.pv t.x, .ptr 0 0, .ptr 1 0] (vh s) = some (.ret (.pv (.tup [])), vh (s + nodSz D t))
theorem nodSz_nn : ∀ (D : Nat) {x : Nd}, VN x → 0 ≤ nodSz D x
  | 0, x, hv => objSz_nn hv
  | D + 1, x, hv => by
    rw [nodSz]
    have := objSz_nn hv
    have := sumL_nn (l := (tgt x).map (nodSz D)) fun y hy => by
      obtain ⟨t, ht, rfl⟩ := List.mem_map.1 hy
      exact nodSz_nn D (vn_tgt hv t ht)
    omega
theorem drop_sum {f : Nd → Int} {l : List Nd} {i : Nat} (h : i < l.length) : sumL ((l.drop i).map f) = f l[i] + sumL ((l.drop (i + 1)).map f) := by
  rw [List.drop_eq_getElem_cons h, List.map_cons, sumL_cons]
theorem visit_in {D : Nat} {q : List Nd} (hq : q.length ≤ 1073741824) (hv : ∀ t ∈ q, Vis D t) (hn : ∀ t ∈ q, VN t) (ks : List PV) (i1 i2 i7 i8 i9 : Int) (xs10 xs11 : List PV) (c0 c1 c2 c3 c4 : PV) : ∀ (c j : Nat) (s : Int), j + c = q.length → 0 ≤ s → s + sumL ((q.drop j).map (nodSz D)) ≤ 4611686018427387904 →
    canonsize_Node_1_L2 ks i1 i2 (.sl 5 (pvs q)) q.length j (I s) i7 i8 i9 xs10 xs11 c0 c1 c2 c3 c4 = canonsize_Node_1_L0 ks i1 (IntKind.wrap .i64 (i2 + 1)) (I (s + sumL ((q.drop j).map (nodSz D)))) i7 i8 i9 xs10 xs11 := by
  intro c
  induction c with
  | zero =>
    intro j s hj h0 hs
    rw [canonsize_Node_1_L2_eq, decide_eq_false (by omega), List.drop_eq_nil_of_le (by omega)]
    simp [sumL_nil]
  | succ c ih =>
    intro j s hj h0 hs
    have hjl : j < q.length := by omega
    have hV := hv _ (List.getElem_mem hjl) s h0
    have hp := nodSz_nn D (hn _ (List.getElem_mem hjl))
    have hr : 0 ≤ sumL ((q.drop (j + 1)).map (nodSz D)) := sumL_nn fun y hy => by
      obtain ⟨t, ht, rfl⟩ := List.mem_map.1 hy
      exact nodSz_nn D (hn t (List.mem_of_mem_drop ht))
    rw [drop_sum hjl] at hs ⊢
    have hV' := hV (by omega)
    unfold vh at hV'
    dsimp only [Nd.x] at hV'
    rw [canonsize_Node_1_L2_eq, decide_eq_true (show (j : Int) < (q.length : Int) by omega)]
    dsimp only [callT_ret, callT_pan, onlyPV_v, Option.bind_some, pBool_v, pTup_v, pAgg_v, aggOf_v, pSl_v, pInt_v, pI64, pU64, pU32, pU8, List.getElem?_cons_zero, List.getElem?_cons_succ, cells_v, cells_sl, cells_agg, isCell_v, isCell_sl, cnd_t, cnd_f, tt_and, ff_and, nt_t, nt_f, len1, len3, len5, len8, len10, hlen1, clen1, clen5]
    rw [decide_eq_true (show (5 : Nat) = 5 from rfl), decide_eq_true (show 0 ≤ (j : Int) by omega), decide_eq_true (show (j : Int) < ((pvs q).length : Int) by simp; omega)]
    dsimp only [callT_ret, callT_pan, onlyPV_v, Option.bind_some, pBool_v, pTup_v, pAgg_v, aggOf_v, pSl_v, pInt_v, pI64, pU64, pU32, pU8, List.getElem?_cons_zero, List.getElem?_cons_succ, cells_v, cells_sl, cells_agg, isCell_v, isCell_sl, cnd_t, cnd_f, tt_and, ff_and, nt_t, nt_f, len1, len3, len5, len8, len10, hlen1, clen1, clen5]
    rw [Int.toNat_natCast, pvs_get hjl]
    dsimp only [callT_ret, callT_pan, onlyPV_v, Option.bind_some, pBool_v, pTup_v, pAgg_v, aggOf_v, pSl_v, pInt_v, pI64, pU64, pU32, pU8, List.getElem?_cons_zero, List.getElem?_cons_succ, cells_v, cells_sl, cells_agg, isCell_v, isCell_sl, cnd_t, cnd_f, tt_and, ff_and, nt_t, nt_f, len1, len3, len5, len8, len10, hlen1, clen1, clen5]
    rw [nd_five, nd_cells, show (q[j].c.drop 0).take 5 = q[j].c from rfl]
    dsimp only [Nd.c, callT_ret, callT_pan, onlyPV_v, Option.bind_some, pBool_v, pTup_v, pAgg_v, aggOf_v, pSl_v, pInt_v, pI64, pU64, pU32, pU8, List.getElem?_cons_zero, List.getElem?_cons_succ, cells_v, cells_sl, cells_agg, isCell_v, isCell_sl, cnd_t, cnd_f, tt_and, ff_and, nt_t, nt_f, len1, len3, len5, len8, len10, hlen1, clen1, clen5]
    rw [hV']
    dsimp only [callT_ret, callT_pan, onlyPV_v, Option.bind_some, pBool_v, pTup_v, pAgg_v, aggOf_v, pSl_v, pInt_v, pI64, pU64, pU32, pU8, List.getElem?_cons_zero, List.getElem?_cons_succ, cells_v, cells_sl, cells_agg, isCell_v, isCell_sl, cnd_t, cnd_f, tt_and, ff_and, nt_t, nt_f, len1, len3, len5, len8, len10, hlen1, clen1, clen5]
    rw [vsame, hlen2, w64 (x := (j : Int) + 1) (by omega)]
    dsimp only [callT_ret, callT_pan, onlyPV_v, Option.bind_some, pBool_v, pTup_v, pAgg_v, aggOf_v, pSl_v, pInt_v, pI64, pU64, pU32, pU8, List.getElem?_cons_zero, List.getElem?_cons_succ, cells_v, cells_sl, cells_agg, isCell_v, isCell_sl, cnd_t, cnd_f, tt_and, ff_and, nt_t, nt_f, len1, len3, len5, len8, len10, hlen1, clen1, clen5]
    have := ih (j + 1) (s + nodSz D q[j]) (by omega) (by omega) (by omega)
    rw [show s + (nodSz D q[j] + sumL ((q.drop (j + 1)).map (nodSz D))) = s + nodSz D q[j] + sumL ((q.drop (j + 1)).map (nodSz D)) by omega]
    exact this
theorem visit_plain {D : Nat} {ks : List Nd} (hq : ks.length ≤ 1073741824) (hv : ∀ t ∈ ks, Vis D t) (hn : ∀ t ∈ ks, VN t) (i4 i5 i6 : Int) (h7 : i5 ≠ 7) (xs7 xs8 : List PV) : ∀ (c j : Nat) (s : Int), j + c = ks.length → 0 ≤ s → s + sumL ((ks.drop j).map (nodSz D)) ≤ 4611686018427387904 →
    canonsize_Node_1_L0 (pvs ks) ks.length j (I s) i4 i5 i6 xs7 xs8 = some (.ret (.pv (.tup [])), vh (s + sumL ((ks.drop j).map (nodSz D)))) := by
  intro c
  induction c with
  | zero =>
    intro j s hj h0 hs
    rw [canonsize_Node_1_L0_eq, decide_eq_false (by omega), List.drop_eq_nil_of_le (by omega)]
    simp [sumL_nil, vh]
  | succ c ih =>
    intro j s hj h0 hs
    have hjl : j < ks.length := by omega
    have hV := hv _ (List.getElem_mem hjl) s h0
    have hp := nodSz_nn D (hn _ (List.getElem_mem hjl))
    have hr : 0 ≤ sumL ((ks.drop (j + 1)).map (nodSz D)) := sumL_nn fun y hy => by
      obtain ⟨t, ht, rfl⟩ := List.mem_map.1 hy
      exact nodSz_nn D (hn t (List.mem_of_mem_drop ht))
    rw [drop_sum hjl] at hs ⊢
    have hV' := hV (by omega)
    unfold vh at hV'
    dsimp only [Nd.x] at hV'
    rw [canonsize_Node_1_L0_eq, decide_eq_true (show (j : Int) < (ks.length : Int) by omega), decide_eq_true (show 0 ≤ (j : Int) by omega), decide_eq_true (show (j : Int) < ((pvs ks).length : Int) by simp; omega)]
    dsimp only [callT_ret, callT_pan, onlyPV_v, Option.bind_some, pBool_v, pTup_v, pAgg_v, aggOf_v, pSl_v, pInt_v, pI64, pU64, pU32, pU8, List.getElem?_cons_zero, List.getElem?_cons_succ, cells_v, cells_sl, cells_agg, isCell_v, isCell_sl, cnd_t, cnd_f, tt_and, ff_and, nt_t, nt_f, len1, len3, len5, len8, len10, hlen1, clen1, clen5]
    rw [Int.toNat_natCast, pvs_get hjl]
    dsimp only [callT_ret, callT_pan, onlyPV_v, Option.bind_some, pBool_v, pTup_v, pAgg_v, aggOf_v, pSl_v, pInt_v, pI64, pU64, pU32, pU8, List.getElem?_cons_zero, List.getElem?_cons_succ, cells_v, cells_sl, cells_agg, isCell_v, isCell_sl, cnd_t, cnd_f, tt_and, ff_and, nt_t, nt_f, len1, len3, len5, len8, len10, hlen1, clen1, clen5]
    rw [nd_five, nd_cells, show (ks[j].c.drop 0).take 5 = ks[j].c from rfl, show (i5 != 7) = true from by simpa using h7]
    dsimp only [Nd.c, callT_ret, callT_pan, onlyPV_v, Option.bind_some, pBool_v, pTup_v, pAgg_v, aggOf_v, pSl_v, pInt_v, pI64, pU64, pU32, pU8, List.getElem?_cons_zero, List.getElem?_cons_succ, cells_v, cells_sl, cells_agg, isCell_v, isCell_sl, cnd_t, cnd_f, tt_and, ff_and, nt_t, nt_f, len1, len3, len5, len8, len10, hlen1, clen1, clen5]
    rw [hV']
    dsimp only [callT_ret, callT_pan, onlyPV_v, Option.bind_some, pBool_v, pTup_v, pAgg_v, aggOf_v, pSl_v, pInt_v, pI64, pU64, pU32, pU8, List.getElem?_cons_zero, List.getElem?_cons_succ, cells_v, cells_sl, cells_agg, isCell_v, isCell_sl, cnd_t, cnd_f, tt_and, ff_and, nt_t, nt_f, len1, len3, len5, len8, len10, hlen1, clen1, clen5]
    rw [vsame, hlen2, w64 (x := (j : Int) + 1) (by omega)]
    dsimp only [callT_ret, callT_pan, onlyPV_v, Option.bind_some, pBool_v, pTup_v, pAgg_v, aggOf_v, pSl_v, pInt_v, pI64, pU64, pU32, pU8, List.getElem?_cons_zero, List.getElem?_cons_succ, cells_v, cells_sl, cells_agg, isCell_v, isCell_sl, cnd_t, cnd_f, tt_and, ff_and, nt_t, nt_f, len1, len3, len5, len8, len10, hlen1, clen1, clen5]
    have := ih (j + 1) (s + nodSz D ks[j]) (by omega) (by omega) (by omega)
    rw [show s + (nodSz D ks[j] + sumL ((ks.drop (j + 1)).map (nodSz D))) = s + nodSz D ks[j] + sumL ((ks.drop (j + 1)).map (nodSz D)) by omega]
    exact this
theorem visit_comp {D : Nat} {ks : List Nd} (hq : ks.length ≤ 1073741824) (hk : ∀ k ∈ ks, k.kids.length ≤ 1073741824) (hv : ∀ k ∈ ks, ∀ t ∈ k.kids, Vis D t) (hn : ∀ k ∈ ks, ∀ t ∈ k.kids, VN t) (i4 i6 : Int) (xs7 xs8 : List PV) : ∀ (c j : Nat) (s : Int), j + c = ks.length → 0 ≤ s → s + sumL ((ks.drop j).map fun k => sumL (k.kids.map (nodSz D))) ≤ 4611686018427387904 →
    canonsize_Node_1_L0 (pvs ks) ks.length j (I s) i4 7 i6 xs7 xs8 = some (.ret (.pv (.tup [])), vh (s + sumL ((ks.drop j).map fun k => sumL (k.kids.map (nodSz D))))) := by
  intro c
  induction c with
  | zero =>
    intro j s hj h0 hs
    rw [canonsize_Node_1_L0_eq, decide_eq_false (by omega), List.drop_eq_nil_of_le (by omega)]
    simp [sumL_nil, vh]
  | succ c ih =>
    intro j s hj h0 hs
    have hjl : j < ks.length := by omega
    have hmem := List.getElem_mem hjl
    have nn : ∀ k ∈ ks, 0 ≤ sumL (k.kids.map (nodSz D)) := fun k hk => sumL_nn fun y hy => by
      obtain ⟨t, ht, rfl⟩ := List.mem_map.1 hy
      exact nodSz_nn D (hn k hk t ht)
    have hp := nn _ hmem
    have hr : 0 ≤ sumL ((ks.drop (j + 1)).map fun k => sumL (k.kids.map (nodSz D))) := sumL_nn fun y hy => by
      obtain ⟨t, ht, rfl⟩ := List.mem_map.1 hy
      exact nn t (List.mem_of_mem_drop ht)
    rw [drop_sum hjl] at hs ⊢
    have hin := visit_in (hk _ hmem) (hv _ hmem) (hn _ hmem) (pvs ks) ks.length j i4 7 i6 xs7 xs8 (I ks[j].kind) (I ks[j].elem) (I ks[j].n) (.sl 1 (bs ks[j].data)) (.sl 5 (pvs ks[j].kids)) ks[j].kids.length 0 s (by omega) h0 (by rw [List.drop_zero]; omega)
    rw [List.drop_zero, w64 (x := (j : Int) + 1) (by omega)] at hin
    rw [canonsize_Node_1_L0_eq, decide_eq_true (show (j : Int) < (ks.length : Int) by omega), decide_eq_true (show 0 ≤ (j : Int) by omega), decide_eq_true (show (j : Int) < ((pvs ks).length : Int) by simp; omega)]
    dsimp only [callT_ret, callT_pan, onlyPV_v, Option.bind_some, pBool_v, pTup_v, pAgg_v, aggOf_v, pSl_v, pInt_v, pI64, pU64, pU32, pU8, List.getElem?_cons_zero, List.getElem?_cons_succ, cells_v, cells_sl, cells_agg, isCell_v, isCell_sl, cnd_t, cnd_f, tt_and, ff_and, nt_t, nt_f, len1, len3, len5, len8, len10, hlen1, clen1, clen5]
    rw [Int.toNat_natCast, pvs_get hjl]
    dsimp only [callT_ret, callT_pan, onlyPV_v, Option.bind_some, pBool_v, pTup_v, pAgg_v, aggOf_v, pSl_v, pInt_v, pI64, pU64, pU32, pU8, List.getElem?_cons_zero, List.getElem?_cons_succ, cells_v, cells_sl, cells_agg, isCell_v, isCell_sl, cnd_t, cnd_f, tt_and, ff_and, nt_t, nt_f, len1, len3, len5, len8, len10, hlen1, clen1, clen5]
    rw [nd_five, nd_cells, show (ks[j].c.drop 0).take 5 = ks[j].c from rfl, show ((7 : Int) != 7) = false from rfl]
    dsimp only [Nd.c, callT_ret, callT_pan, onlyPV_v, Option.bind_some, pBool_v, pTup_v, pAgg_v, aggOf_v, pSl_v, pInt_v, pI64, pU64, pU32, pU8, List.getElem?_cons_zero, List.getElem?_cons_succ, cells_v, cells_sl, cells_agg, isCell_v, isCell_sl, cnd_t, cnd_f, tt_and, ff_and, nt_t, nt_f, len1, len3, len5, len8, len10, hlen1, clen1, clen5]
    rw [pvs_len]
    refine hin.trans ?_
    have := ih (j + 1) (s + sumL (ks[j].kids.map (nodSz D))) (by omega) (by omega) (by omega)
    rw [show s + (sumL (ks[j].kids.map (nodSz D)) + sumL ((ks.drop (j + 1)).map fun k => sumL (k.kids.map (nodSz D)))) = s + sumL (ks[j].kids.map (nodSz D)) + sumL ((ks.drop (j + 1)).map fun k => sumL (k.kids.map (nodSz D))) by omega]
    exact this
theorem uni_small {x : Nd} (hg : good x) (hv : VN x) : uniD x.kids + uniP x.kids ≤ 4611686018427387904 := by
  obtain ⟨hd, hk, hks⟩ := good_len hg
  have := uniD_le (l := x.kids) (b := 17592186044416) fun y hy => by
    have := (good_len (hks y hy)).1
    omega
  have := uniP_le (l := x.kids) (b := 1073741824) fun y hy => (good_len (hks y hy)).2.1
  omega
theorem visit_ok : ∀ (D : Nat) (x : Nd), good x → VN x → Dp D x → Vis D x
  | D, x, hg, hv, hd => by
    intro s h0 hs
    have ho := objSz_nn hv
    obtain ⟨hgd, hgk, hgs⟩ := good_len hg
    have hob : objSz x ≤ nodSz D x := by
      cases D with
      | zero => exact Int.le_refl _
      | succ D =>
        rw [nodSz]
        have := sumL_nn (l := (tgt x).map (nodSz D)) fun y hy => by
          obtain ⟨t, ht, rfl⟩ := List.mem_map.1 hy
          exact nodSz_nn D (vn_tgt hv t ht)
        omega
    have hO := V_Object13 hg hv (by omega) (uni_small hg hv)
    dsimp only [Nd.x] at hO
    unfold vh
    rw [Nd.x, canonsize_Node_1_eq, hO, pvs_len]
    dsimp only [callT_ret, callT_pan, onlyPV_v, Option.bind_some, pBool_v, pTup_v, pAgg_v, aggOf_v, pSl_v, pInt_v, pI64, pU64, pU32, pU8, List.getElem?_cons_zero, List.getElem?_cons_succ, cells_v, cells_sl, cells_agg, isCell_v, isCell_sl, cnd_t, cnd_f, tt_and, ff_and, nt_t, nt_f, len1, len3, len5, len8, len10, hlen1, clen1, clen5]
    rw [w64 (x := s + objSz x) (by omega)]
    by_cases k0 : x.kind = 0
    · have := vn_null hv k0
      subst this
      have := visit_plain (D := D) (ks := []) (by simp) (fun t h => by cases h) (fun t h => by cases h) 0 0 0 (by decide) (bs []) (pvs []) 0 0 (s + objSz nd0) rfl (by omega) (by simp [sumL_nil]; omega)
      refine this.trans ?_
      rw [nodSz_null hv k0, objSz_null k0]
      simp [sumL_nil, vh]
    · cases D with
      | zero => exact absurd hd k0
      | succ D =>
        have hd' := (hd.resolve_left k0).2
        have hT : ∀ t ∈ tgt x, Vis D t := fun t ht => visit_ok D t (good_tgt hg t ht) (vn_tgt hv t ht) (hd' t ht)
        rw [nodSz] at hs ⊢
        by_cases h7 : x.kind = 2 ∧ x.elem = 7
        · have et : tgt x = x.kids.flatMap Nd.kids := if_pos h7
          rw [et, sumL_flat] at hs ⊢
          rw [et] at hT
          have := visit_comp (D := D) hgk (fun k hk => (good_len (hgs k hk)).2.1) (fun k hk t ht => hT t (List.mem_flatMap.2 ⟨k, hk, ht⟩)) (fun k hk t ht => vn_tgt hv t (by rw [et]; exact List.mem_flatMap.2 ⟨k, hk, ht⟩)) x.kind x.n (bs x.data) (pvs x.kids) x.kids.length 0 (s + objSz x) (by omega) (by omega) (by rw [List.drop_zero]; omega)
          rw [List.drop_zero] at this
          rw [h7.2]
          refine this.trans ?_
          unfold vh
          rw [show s + (objSz x + sumL (x.kids.map fun k => sumL (k.kids.map (nodSz D)))) = s + objSz x + sumL (x.kids.map fun k => sumL (k.kids.map (nodSz D))) by omega]
        · have et : tgt x = x.kids := if_neg h7
          have he7 : x.elem ≠ 7 := fun h => by
            obtain ⟨hs', _⟩ := vn_shp hv
            rcases hs' with h' | h' | h' <;> omega
          rw [et] at hs hT ⊢
          have := visit_plain (D := D) hgk hT (fun t ht => vn_tgt hv t (by rw [et]; exact ht)) x.kind x.elem x.n he7 (bs x.data) (pvs x.kids) x.kids.length 0 (s + objSz x) (by omega) (by omega) (by rw [List.drop_zero]; omega)
          rw [List.drop_zero] at this
          refine this.trans ?_
          unfold vh
          rw [show s + (objSz x + sumL (x.kids.map (nodSz D))) = s + objSz x + sumL (x.kids.map (nodSz D)) by omega]
theorem V_Node13 {D : Nat} {x : Nd} (hg : good x) (hv : VN x) (hd : Dp D x) (hb : nodSz D x ≤ 4611686018427387904) : ev 25 [.pv x.x] [] = ok (I (nodSz D x)) := by
  have h := visit_ok D x hg hv hd 0 (Int.le_refl _) (by omega)
  unfold vh at h
  dsimp only [Nd.x] at h
  rw [Nd.x, canonsize_Node_eq, h]
  dsimp only [callT_ret, callT_pan, onlyPV_v, Option.bind_some, pBool_v, pTup_v, pAgg_v, aggOf_v, pSl_v, pInt_v, pI64, pU64, pU32, pU8, List.getElem?_cons_zero, List.getElem?_cons_succ, cells_v, cells_sl, cells_agg, isCell_v, isCell_sl, cnd_t, cnd_f, tt_and, ff_and, nt_t, nt_f, len1, len3, len5, len8, len10, hlen1, clen1, clen5]
  rw [vsame, hlen2, Int.zero_add]
  rfl
theorem V_Total13 {D : Nat} {x : Nd} (hg : good x) (hv : VN x) (hd : Dp D x) (hb : nodSz D x ≤ 4611686018427387904) : ev 26 [.pv x.x] [] = ok (I (nodSz D x + 1)) := by
  have h := V_Node13 hg hv hd hb
  have hn := nodSz_nn D hv
  dsimp only [Nd.x] at h
  rw [Nd.x, canonsize_Total_eq, h]
  dsimp only [callT_ret, callT_pan, onlyPV_v, Option.bind_some, pBool_v, pTup_v, pAgg_v, aggOf_v, pSl_v, pInt_v, pI64, pU64, pU32, pU8, List.getElem?_cons_zero, List.getElem?_cons_succ, cells_v, cells_sl, cells_agg, isCell_v, isCell_sl, cnd_t, cnd_f, tt_and, ff_and, nt_t, nt_f, len1, len3, len5, len8, len10, hlen1, clen1, clen5]
  rw [w64 (by omega)]
end Go.Proofs.YthpbjpnbafiipaaDoor.E
set_option linter.unusedVariables false
set_option linter.unusedSimpArgs false
namespace Go.Proofs.YthpbjpnbafiipaaDoor.E
/-! Bytes as words: the program and the reference. -/
theorem getD_drop (b : List Int) (n k : Nat) : (b.drop n).getD k 0 = b.getD (n + k) 0 := by
  rw [List.getD_eq_getElem?_getD, List.getD_eq_getElem?_getD, List.getElem?_drop]
theorem bs_getD {b : List Int} {i : Nat} (h : i < b.length) : (bs b)[i]? = some (U8 (b.getD i 0)) := by
  rw [bs_get h, List.getD_eq_getElem?_getD, List.getElem?_eq_getElem h]
  rfl
def accU (f : Nat → Nat) : Nat → Nat
  | 0 => 0
  | k + 1 => accU f k + f k * 2 ^ (8 * k)
theorem accU_lt {f : Nat → Nat} (hf : ∀ k, f k < 256) : ∀ k, accU f k < 2 ^ (8 * k)
  | 0 => by show 0 < 1; decide
  | k + 1 => by
    have := accU_lt hf k
    have h1 := hf k
    have : f k * 2 ^ (8 * k) ≤ 255 * 2 ^ (8 * k) := Nat.mul_le_mul_right _ (by omega)
    rw [accU, show 8 * (k + 1) = 8 * k + 8 by omega, Nat.pow_add]
    omega
theorem or_step {a x i : Nat} (ha : a < 2 ^ i) (hx : x < 256) (hi : i + 8 ≤ 64) : IntKind.wrap .u64 (BitVec.ofInt 64 (a : Int) ||| BitVec.ofInt 64 (IntKind.wrap .u64 (IntKind.wrap .u64 (x : Int) * 2 ^ (min (i : Int).toNat 64)))).toNat = ((a + x * 2 ^ i : Nat) : Int) := by
  have hk : 2 ^ i * 2 ^ 8 ≤ 2 ^ 64 := by rw [← Nat.pow_add]; exact Nat.pow_le_pow_right (by decide) hi
  have hi0 : 0 < 2 ^ i := Nat.pow_pos (by decide)
  have hx2 : x * 2 ^ i ≤ 255 * 2 ^ i := Nat.mul_le_mul_right _ (by omega)
  have e : IntKind.wrap .u64 (IntKind.wrap .u64 (x : Int) * 2 ^ (min (i : Int).toNat 64)) = ((x * 2 ^ i : Nat) : Int) := by
    rw [wu_nat (by omega), Int.toNat_natCast, Nat.min_eq_left (by omega), show (2 : Int) ^ i = ((2 ^ i : Nat) : Int) by push_cast; rfl, ← Int.natCast_mul]
    exact wu_nat (by omega)
  rw [e]
  have e3 : (BitVec.ofInt 64 (a : Int) ||| BitVec.ofInt 64 ((x * 2 ^ i : Nat) : Int)).toNat = a + x * 2 ^ i := by
    rw [BitVec.toNat_or, ofInt_toNat (by omega), ofInt_toNat (by omega), Nat.or_comm, Nat.mul_comm, ← Nat.two_pow_add_eq_or_of_lt ha]
    omega
  rw [e3, wu_nat (by omega)]
def byteN (b : List Int) (i : Nat) : Nat := (b.getD i 0).toNat
theorem byteN_eq {b : List Int} (hb : ∀ x ∈ b, Byte x) (i : Nat) : ((byteN b i : Nat) : Int) = b.getD i 0 ∧ byteN b i < 256 := by
  have := getD_byte hb i
  unfold byteN
  omega
theorem accU_8 (f : Nat → Nat) : accU f 8 = 0 + f 0 * 1 + f 1 * 256 + f 2 * 65536 + f 3 * 16777216 + f 4 * 4294967296 + f 5 * 1099511627776 + f 6 * 281474976710656 + f 7 * 72057594037927936 := rfl
theorem accU_w8i {b : List Int} (hb : ∀ x ∈ b, Byte x) (n : Nat) : ((accU (fun k => byteN b (n + k)) 8 : Nat) : Int) = w8i (b.drop n) := by
  unfold w8i
  simp only [getD_drop]
  rw [← (byteN_eq hb (n + 0)).1, ← (byteN_eq hb (n + 1)).1, ← (byteN_eq hb (n + 2)).1, ← (byteN_eq hb (n + 3)).1, ← (byteN_eq hb (n + 4)).1, ← (byteN_eq hb (n + 5)).1, ← (byteN_eq hb (n + 6)).1, ← (byteN_eq hb (n + 7)).1]
  rw [accU_8]
  omega
theorem get_loop {b : List Int} (hb : ∀ x ∈ b, Byte x) {i : Nat} (hi : 8 * i + 8 ≤ b.length) (hl : b.length ≤ 17592186044416) : ∀ (c k : Nat), k + c = 8 → word_Get_L0 (bs b) i ((accU (fun k => byteN b (8 * i + k)) k : Nat) : Int) k = ok (.tup [U (w8i (b.drop (8 * i))), Bo true]) := by
  intro c
  induction c with
  | zero =>
    intro k hk
    have : k = 8 := by omega
    subst this
    rw [word_Get_L0_eq, decide_eq_false (by decide), accU_w8i hb]
    rfl
  | succ c ih =>
    intro k hk
    have hx := byteN_eq hb (8 * i + k)
    rw [word_Get_L0_eq, decide_eq_true (show (k : Int) < 8 by omega), w64 (x := 8 * (i : Int)) (by omega), w64 (x := 8 * (i : Int) + k) (by omega), decide_eq_true (show 0 ≤ 8 * (i : Int) + k by omega), decide_eq_true (show 8 * (i : Int) + k < ((bs b).length : Int) by simp; omega)]
    dsimp only [callT_ret, callT_pan, onlyPV_v, Option.bind_some, pBool_v, pTup_v, pAgg_v, aggOf_v, pSl_v, pInt_v, pI64, pU64, pU32, pU8, List.getElem?_cons_zero, List.getElem?_cons_succ, cells_v, cells_sl, cells_agg, isCell_v, isCell_sl, cnd_t, cnd_f, tt_and, ff_and, nt_t, nt_f, len1, len3, len5, len8, len10, hlen1, clen1, clen5]
    rw [show (8 * (i : Int) + k).toNat = 8 * i + k by omega, bs_getD (by omega), ← hx.1]
    dsimp only [callT_ret, callT_pan, onlyPV_v, Option.bind_some, pBool_v, pTup_v, pAgg_v, aggOf_v, pSl_v, pInt_v, pI64, pU64, pU32, pU8, List.getElem?_cons_zero, List.getElem?_cons_succ, cells_v, cells_sl, cells_agg, isCell_v, isCell_sl, cnd_t, cnd_f, tt_and, ff_and, nt_t, nt_f, len1, len3, len5, len8, len10, hlen1, clen1, clen5]
    rw [w64 (x := 8 * (k : Int)) (by omega), show (8 * (k : Int)) = ((8 * k : Nat) : Int) by push_cast; rfl, wu_nat (by omega), or_step (accU_lt (fun j => (byteN_eq hb (8 * i + j)).2) k) hx.2 (by omega), w64 (x := (k : Int) + 1) (by omega), show okBin .shl ((8 * k : Nat) : Int) = true from by unfold okBin; exact decide_eq_true (by omega)]
    exact ih (k + 1) (by omega)
theorem V_Get {b : List Int} (hb : ∀ x ∈ b, Byte x) {i : Nat} (hi : 8 * i + 8 ≤ b.length) (hl : b.length ≤ 17592186044416) : ev 145 [.pv (.sl 1 (bs b)), .pv (I (i : Int))] [] = ok (.tup [U (w8i (b.drop (8 * i))), Bo true]) := by
  rw [word_Get_eq, bs_len, Int.tdiv_eq_ediv_of_nonneg (by omega), w64 (x := (b.length : Int) / 8) (by omega), decide_eq_false (show ¬ (i : Int) < 0 by omega), decide_eq_false (show ¬ (i : Int) ≥ (b.length : Int) / 8 by omega)]
  exact get_loop hb hi hl 8 0 rfl
theorem wrdN_get : ∀ (n i : Nat) (b : List Int), i < n → (wrdN n b)[i]? = some (w8i (b.drop (8 * i)))
  | 0, i, b, h => by omega
  | n + 1, 0, b, h => by simp [wrdN]
  | n + 1, i + 1, b, h => by
    rw [wrdN, List.getElem?_cons_succ, wrdN_get n i (b.drop 8) (by omega), List.drop_drop]
    congr 3
    omega
theorem wrdN_snoc {n i : Nat} (b : List Int) (h : i < n) : (wrdN n b).take (i + 1) = (wrdN n b).take i ++ [w8i (b.drop (8 * i))] := by
  have hl : i < (wrdN n b).length := by rw [wrdN_len]; exact h
  rw [List.take_succ_eq_append_getElem hl]
  have := wrdN_get n i b h
  rw [List.getElem?_eq_getElem hl] at this
  rw [Option.some.inj this]
theorem w8i_pad (b : List Int) (z : Nat) : w8i (b ++ List.replicate z 0) = w8i b := by
  have h : ∀ k, (b ++ List.replicate z 0).getD k 0 = b.getD k 0 := fun k => by
    rw [List.getD_eq_getElem?_getD, List.getD_eq_getElem?_getD]
    by_cases h1 : k < b.length
    · rw [List.getElem?_append_left h1]
    · rw [List.getElem?_append_right (by omega), List.getElem?_replicate, List.getElem?_eq_none (by omega)]
      split <;> rfl
  unfold w8i
  simp only [h]
theorem wrdN_pad : ∀ (n : Nat) (b : List Int) (z : Nat), wrdN n (b ++ List.replicate z 0) = wrdN n b
  | 0, b, z => rfl
  | n + 1, b, z => by
    rw [wrdN, wrdN, w8i_pad, List.drop_append, List.drop_replicate, wrdN_pad n]
theorem words_loop {b : List Int} (hb : ∀ x ∈ b, Byte x) (hl : b.length ≤ 1099511627776) {n : Nat} (hn : 8 * n = b.length) : ∀ (c i : Nat), i + c = n → word_Words_L0 (bs b) (ws ((wrdN n b).take i)) n i = ok (.tup [.sl 1 (ws (wrdN n b)), Bo true]) := by
  intro c
  induction c with
  | zero =>
    intro i hi
    rw [word_Words_L0_eq, decide_eq_false (by omega), List.take_of_length_le (by rw [wrdN_len]; omega)]
    rfl
  | succ c ih =>
    intro i hi
    rw [word_Words_L0_eq, decide_eq_true (show (i : Int) < (n : Int) by omega), V_Get hb (by omega) (by omega)]
    dsimp only [callT_ret, callT_pan, onlyPV_v, Option.bind_some, pBool_v, pTup_v, pAgg_v, aggOf_v, pSl_v, pInt_v, pI64, pU64, pU32, pU8, List.getElem?_cons_zero, List.getElem?_cons_succ, cells_v, cells_sl, cells_agg, isCell_v, isCell_sl, cnd_t, cnd_f, tt_and, ff_and, nt_t, nt_f, len1, len3, len5, len8, len10, hlen1, clen1, clen5]
    rw [roomy_ok (by rw [ws_len, List.length_take]; omega) (by rw [ws_len, List.length_take]; omega), w64 (x := (i : Int) + 1) (by omega), ws_snoc, ← wrdN_snoc b (by omega)]
    exact ih (i + 1) (by omega)
theorem V_Words8 {b : List Int} (hb : ∀ x ∈ b, Byte x) (hl : b.length ≤ 1099511627776) {n : Nat} (hn : 8 * n = b.length) : ev 138 [.pv (.sl 1 (bs b))] [] = ok (.tup [.sl 1 (ws (wrdN n b)), Bo true]) := by
  rw [word_Words_eq, bs_len, Int.tdiv_eq_ediv_of_nonneg (by omega), Int.tmod_eq_emod_of_nonneg (by omega), show (b.length : Int) / 8 = n by omega, w64 (by omega), show ((b.length : Int) % 8 != 0) = false from by simp; omega, decide_eq_true (show 0 ≤ (n : Int) by omega), decide_eq_true (show (n : Int) ≤ 140737488355328 by omega), Int.toNat_natCast, roomy_ok (by omega) (by omega)]
  have := words_loop hb hl hn n 0 (by omega)
  rw [List.take_zero] at this
  exact this
theorem bs_pad (b : List Int) (z : Nat) : bs (b ++ List.replicate z 0) = bs b ++ List.replicate z (U8 0) := by simp [bs]
theorem byte_pad {b : List Int} (hb : ∀ x ∈ b, Byte x) (z : Nat) : ∀ x ∈ b ++ List.replicate z 0, Byte x := fun x hx => by
  rcases List.mem_append.1 hx with h | h
  · exact hb x h
  · rw [(List.mem_replicate.1 h).2]; exact ⟨by decide, by decide⟩
/-- The writer's heap. -/
def wh (W : List Int) : Heap := [[.slu 54 1 (ws W)]]
theorem ws_app (a b : List Int) : ws (a ++ b) = ws a ++ ws b := by simp [ws]
theorem ws_rep (n : Nat) : ws (List.replicate n 0) = List.replicate n (U 0) := by simp [ws]
theorem V_wbytes {W b : List Int} (hb : ∀ x ∈ b, Byte x) {n : Nat} (hn : n ≤ 137438953472) (h8 : b.length ≤ 8 * n) (hW : W.length ≤ 137438953472) : ev 114 [.ptr 0 0, .pv (.sl 1 (bs b)), .pv (I (n : Int))] (wh W) = some (.ret (.pv (.tup [])), wh (W ++ wrdN n b)) := by
  unfold wh
  rw [canonwrite_writer_bytes_eq, w64 (x := 8 * (n : Int)) (by omega), decide_eq_true (show 0 ≤ 8 * (n : Int) by omega), decide_eq_true (show 8 * (n : Int) ≤ 8 * (n : Int) by omega), decide_eq_true (show 8 * (n : Int) ≤ 140737488355328 by omega), show (8 * (n : Int)).toNat = 8 * n by omega, roomy_ok (by omega) (by omega), List.length_replicate, List.drop_replicate, bs_len, List.take_of_length_le (show (bs b).length ≤ 8 * n by rw [bs_len]; exact h8)]
  have := V_Words8 (byte_pad hb (8 * n - b.length)) (by rw [List.length_append, List.length_replicate]; omega) (n := n) (by rw [List.length_append, List.length_replicate]; omega)
  rw [bs_pad, wrdN_pad] at this
  dsimp only [callT_ret, callT_pan, onlyPV_v, Option.bind_some, pBool_v, pTup_v, pAgg_v, aggOf_v, pSl_v, pInt_v, pI64, pU64, pU32, pU8, List.getElem?_cons_zero, List.getElem?_cons_succ, cells_v, cells_sl, cells_agg, isCell_v, isCell_sl, cnd_t, cnd_f, tt_and, ff_and, nt_t, nt_f, len1, len3, len5, len8, len10, hlen1, clen1, clen5]
  rw [this]
  dsimp only [callT_ret, callT_pan, onlyPV_v, Option.bind_some, pBool_v, pTup_v, pAgg_v, aggOf_v, pSl_v, pInt_v, pI64, pU64, pU32, pU8, List.getElem?_cons_zero, List.getElem?_cons_succ, cells_v, cells_sl, cells_agg, isCell_v, isCell_sl, cnd_t, cnd_f, tt_and, ff_and, nt_t, nt_f, len1, len3, len5, len8, len10, hlen1, clen1, clen5]
  rw [ws_len, ws_len, wrdN_len, roomy_ok (by omega) (by omega), ws_app]
  rfl
theorem V_wzeros {W : List Int} {n : Nat} (hn : n ≤ 137438953472) (hW : W.length ≤ 137438953472) : ev 113 [.ptr 0 0, .pv (I (n : Int))] (wh W) = some (.ret (.pv (I (W.length : Int))), wh (W ++ List.replicate n 0)) := by
  unfold wh
  rw [canonwrite_writer_zeros_eq, decide_eq_true (show 0 ≤ (n : Int) by omega), decide_eq_true (show (n : Int) ≤ 140737488355328 by omega), Int.toNat_natCast, ws_len, List.length_replicate, roomy_ok (by omega) (by omega), ws_app, ws_rep]
  rfl
end Go.Proofs.YthpbjpnbafiipaaDoor.E
set_option linter.unusedVariables false
set_option linter.unusedSimpArgs false
namespace Go.Proofs.YthpbjpnbafiipaaDoor.E
/-! Placing: pure. -/
def placeP (B : Nd → List Int) (a : Nat) (t : Nd) (W : List Int) : List Int := if t.kind = 0 then W else W.set a (ptrI t ((W.length : Int) - a - 1)) ++ B t
def runP (B : Nd → List Int) : List (Nat × Nd) → List Int → List Int
  | [], W => W
  | (a, t) :: r, W => runP B r (placeP B a t W)
def prsS (i : Nat) : List Nd → List (Nat × Nd)
  | [] => []
  | t :: r => (i, t) :: prsS (i + 1) r
def prsC (a s i : Nat) : List Nd → List (Nat × Nd)
  | [] => []
  | k :: r => prsS (i + a) k.kids ++ prsC a s (i + s) r
def els (a b : Nat) (l : List Nd) : List Int := l.flatMap fun k => wrdN a k.data ++ List.replicate b 0
theorem runP_app (B : Nd → List Int) : ∀ (l m : List (Nat × Nd)) (W : List Int), runP B (l ++ m) W = runP B m (runP B l W)
  | [], m, W => rfl
  | (a, t) :: l, m, W => runP_app B l m _
theorem ptrI_null {t : Nd} (h : t.kind = 0) (o : Int) : ptrI t o = 0 := by unfold ptrI; rw [if_pos h]
theorem runS {B : Nd → List Int} (hB : ∀ t : Nd, t.kind = 0 → B t = []) : ∀ (q : List Nd) (X Y : List Int) (i n : Nat), i = X.length → n = X.length + q.length + Y.length → runP B (prsS i q) (X ++ (List.replicate q.length 0 ++ Y)) = X ++ (ptrW B i n q ++ (Y ++ q.flatMap B))
  | [], X, Y, i, n, hi, hn => by simp [runP, prsS, ptrW]
  | t :: r, X, Y, i, n, hi, hn => by
    rw [prsS, runP, ptrW, List.flatMap_cons, List.length_cons, List.replicate_succ]
    rw [List.length_cons] at hn
    have e : placeP B i t (X ++ (0 :: List.replicate r.length 0 ++ Y)) = (X ++ [ptrI t ((n : Int) - i - 1)]) ++ (List.replicate r.length 0 ++ (Y ++ B t)) := by
      unfold placeP
      by_cases h0 : t.kind = 0
      · rw [if_pos h0, ptrI_null h0, hB t h0]
        simp
      · rw [if_neg h0]
        have hl : (X ++ (0 :: List.replicate r.length 0 ++ Y)).length = n := by simp; omega
        rw [hl, hi, List.set_append_right _ _ (Nat.le_refl _), Nat.sub_self]
        simp
    rw [e, runS hB r (X ++ [ptrI t ((n : Int) - i - 1)]) (Y ++ B t) (i + 1) (n + (B t).length) (by simp [hi]) (by simp; omega)]
    simp only [List.append_assoc, List.singleton_append, List.cons_append, List.nil_append]
theorem els_cons (a b : Nat) (k : Nd) (l : List Nd) : els a b (k :: l) = wrdN a k.data ++ (List.replicate b 0 ++ els a b l) := by simp [els]
theorem els_len (a b : Nat) : ∀ l : List Nd, (els a b l).length = l.length * (a + b)
  | [] => by simp [els]
  | k :: l => by rw [els_cons, List.length_append, List.length_append, wrdN_len, List.length_replicate, els_len a b l, List.length_cons, Nat.add_mul]; omega
theorem runC {B : Nd → List Int} (hB : ∀ t : Nd, t.kind = 0 → B t = []) (a b : Nat) : ∀ (ks : List Nd) (X Y : List Int) (i n : Nat), i = X.length → n = X.length + ks.length * (a + b) + Y.length → (∀ k ∈ ks, k.kids.length ≤ b) → runP B (prsC a (a + b) i ks) (X ++ (els a b ks ++ Y)) = X ++ (asmC B a b i n ks ++ (Y ++ ks.flatMap fun k => k.kids.flatMap B))
  | [], X, Y, i, n, hi, hn, _ => by simp [runP, prsC, asmC, els]
  | k :: r, X, Y, i, n, hi, hn, hk => by
    have hb := hk k List.mem_cons_self
    rw [List.length_cons, Nat.add_mul, Nat.one_mul] at hn
    rw [prsC, runP_app, asmC, List.flatMap_cons, els_cons]
    have e1 : X ++ (wrdN a k.data ++ (List.replicate b 0 ++ els a b r) ++ Y) = (X ++ wrdN a k.data) ++ (List.replicate k.kids.length 0 ++ (List.replicate (b - k.kids.length) 0 ++ (els a b r ++ Y))) := by
      have : List.replicate b (0 : Int) = List.replicate k.kids.length 0 ++ List.replicate (b - k.kids.length) 0 := by rw [List.replicate_append_replicate]; congr 1; omega
      rw [this]
      simp only [List.append_assoc]
    rw [e1, runS hB k.kids (X ++ wrdN a k.data) (List.replicate (b - k.kids.length) 0 ++ (els a b r ++ Y)) (i + a) n (by simp [hi]) (by simp [els_len]; omega)]
    have e2 : X ++ wrdN a k.data ++ (ptrW B (i + a) n k.kids ++ (List.replicate (b - k.kids.length) 0 ++ (els a b r ++ Y) ++ k.kids.flatMap B)) = (X ++ (wrdN a k.data ++ (ptrW B (i + a) n k.kids ++ List.replicate (b - k.kids.length) 0))) ++ (els a b r ++ (Y ++ k.kids.flatMap B)) := by
      simp only [List.append_assoc]
    have r2 := runC hB a b r (X ++ (wrdN a k.data ++ (ptrW B (i + a) n k.kids ++ List.replicate (b - k.kids.length) 0))) (Y ++ k.kids.flatMap B) (i + (a + b)) (n + blen B k.kids) (by simp [hi]; omega) (by unfold blen; simp; omega) (fun x hx => hk x (List.mem_cons_of_mem _ hx))
    rw [e2, r2]
    simp only [List.append_assoc]
/-- Positions count from anywhere. -/
theorem ptrW_shift (B : Nd → List Int) (s : Nat) : ∀ (l : List Nd) (i n : Nat), ptrW B (i + s) (n + s) l = ptrW B i n l
  | [], i, n => rfl
  | t :: r, i, n => by
    rw [ptrW, ptrW]
    have e := ptrW_shift B s r (i + 1) (n + (B t).length)
    rw [show i + 1 + s = i + s + 1 by omega, show n + (B t).length + s = n + s + (B t).length by omega] at e
    rw [e]
    congr 2
    omega
theorem asmC_shift (B : Nd → List Int) (a b s : Nat) : ∀ (l : List Nd) (i n : Nat), asmC B a b (i + s) (n + s) l = asmC B a b i n l
  | [], i, n => rfl
  | k :: r, i, n => by
    rw [asmC, asmC]
    have e := asmC_shift B a b s r (i + (a + b)) (n + blen B k.kids)
    rw [show i + (a + b) + s = i + s + (a + b) by omega, show n + blen B k.kids + s = n + s + blen B k.kids by omega] at e
    rw [e]
    have e2 := ptrW_shift B s k.kids (i + a) n
    rw [show i + a + s = i + s + a by omega] at e2
    rw [e2]
/-- An object's words with null pointers, its pointers and what they refer to. -/
def shW (x : Nd) : List Int :=
  if x.kind = 1 then wrdN (x.data.length / 8) x.data ++ List.replicate x.kids.length 0
  else if x.elem = 7 then encS x.n (uniD x.kids) (uniP x.kids) :: els (uniD x.kids) (uniP x.kids) x.kids
  else if x.elem = 6 then List.replicate x.kids.length 0
  else wrdN (wordsOf x.elem x.n).toNat x.data
def prs (x : Nd) (s : Nat) : List (Nat × Nd) :=
  if x.kind = 1 then prsS (s + x.data.length / 8) x.kids
  else if x.elem = 7 then prsC (uniD x.kids) (uniD x.kids + uniP x.kids) (s + 1) x.kids
  else prsS s x.kids
theorem shW_len {B : Nd → List Int} {x : Nd} (hv : VN x) (h0 : x.kind ≠ 0) : (shW x).length = (obW B x).length := by
  obtain ⟨hs, _⟩ := vn_shp hv
  unfold shW obW
  by_cases h1 : x.kind = 1
  · rw [if_pos h1, if_pos h1]; simp
  · rw [if_neg h1, if_neg h1]
    by_cases h7 : x.elem = 7
    · rw [if_pos h7, if_pos h7, List.length_cons, List.length_cons, els_len, asmC_len _ _ _ _ _ _ (fun k hk => uniP_mem hk)]
    · rw [if_neg h7, if_neg h7]
      by_cases h6 : x.elem = 6
      · rw [if_pos h6, if_pos h6]; simp
      · rw [if_neg h6, if_neg h6]
/-- Placing what an object refers to completes it. -/
theorem runObj {B : Nd → List Int} (hB : ∀ t : Nd, t.kind = 0 → B t = []) {x : Nd} (hv : VN x) (h0 : x.kind ≠ 0) (W : List Int) : runP B (prs x W.length) (W ++ shW x) = W ++ (obW B x ++ (tgt x).flatMap B) := by
  obtain ⟨hs, _⟩ := vn_shp hv
  unfold prs shW obW
  by_cases h1 : x.kind = 1
  · rw [if_pos h1, if_pos h1, if_pos h1]
    have et : tgt x = x.kids := if_neg (fun h => by rw [h1] at h; exact absurd h.1 (by decide))
    have r := runS hB x.kids (W ++ wrdN (x.data.length / 8) x.data) [] (W.length + x.data.length / 8) (W.length + (x.data.length / 8 + x.kids.length)) (by simp) (by simp; omega)
    rw [List.append_nil] at r
    rw [← List.append_assoc, r, et, List.nil_append]
    have e := ptrW_shift B W.length x.kids (x.data.length / 8) (x.data.length / 8 + x.kids.length)
    rw [Nat.add_comm _ W.length, Nat.add_comm _ W.length] at e
    rw [e]
    simp only [List.append_assoc]
  · rw [if_neg h1, if_neg h1, if_neg h1]
    by_cases h7 : x.elem = 7
    · rw [if_pos h7, if_pos h7, if_pos h7]
      have hk2 : x.kind = 2 := by rcases hs with h | h | h <;> omega
      have et : tgt x = x.kids.flatMap Nd.kids := if_pos ⟨hk2, h7⟩
      have r := runC hB (uniD x.kids) (uniP x.kids) x.kids (W ++ [encS x.n (uniD x.kids) (uniP x.kids)]) [] (W.length + 1) (W.length + (1 + x.kids.length * uni x)) (by simp) (by unfold uni; simp; omega) (fun k hk => uniP_mem hk)
      rw [List.append_nil] at r
      rw [et, flat_flat]
      have e1 : W ++ encS x.n (uniD x.kids) (uniP x.kids) :: els (uniD x.kids) (uniP x.kids) x.kids = W ++ [encS x.n (uniD x.kids) (uniP x.kids)] ++ els (uniD x.kids) (uniP x.kids) x.kids := by simp
      rw [e1, r, List.nil_append]
      have e := asmC_shift B (uniD x.kids) (uniP x.kids) W.length x.kids 1 (1 + x.kids.length * uni x)
      rw [Nat.add_comm _ W.length, Nat.add_comm _ W.length] at e
      rw [e]
      simp
    · rw [if_neg h7, if_neg h7, if_neg h7]
      have et : tgt x = x.kids := if_neg (fun h => h7 h.2)
      rw [et]
      by_cases h6 : x.elem = 6
      · rw [if_pos h6, if_pos h6]
        have r := runS hB x.kids W [] W.length (W.length + x.kids.length) rfl (by simp)
        rw [List.append_nil] at r
        rw [r, List.nil_append]
        have e := ptrW_shift B W.length x.kids 0 x.kids.length
        rw [Nat.zero_add, Nat.add_comm] at e
        rw [e]
      · rw [if_neg h6, if_neg h6]
        have hk : x.kids = [] := by
          rcases hs with h | h | h
          · omega
          · omega
          · exact List.length_eq_zero_iff.1 (h.2.2.2.2 (by omega)).1
        rw [hk]
        simp [prsS, runP]
theorem body_null (D : Nat) (t : Nd) (h : t.kind = 0) : body D t = [] := by
  cases D with
  | zero => rfl
  | succ D => rw [body, if_pos h]
/-- What placing a node comes to. -/
theorem placeP_step {D : Nat} {x : Nd} (hv : VN x) (h0 : x.kind ≠ 0) {a : Nat} {W : List Int} (ha : a < W.length) : placeP (body (D + 1)) a x W = runP (body D) (prs x W.length) ((W ++ shW x).set a (ptrI x ((W.length : Int) - a - 1))) := by
  unfold placeP
  rw [if_neg h0, List.set_append_left _ _ ha]
  have r := runObj (body_null D) hv h0 (W.set a (ptrI x ((W.length : Int) - a - 1)))
  rw [List.length_set] at r
  rw [r, body, if_neg h0]
end Go.Proofs.YthpbjpnbafiipaaDoor.E
set_option linter.unusedVariables false
set_option linter.unusedSimpArgs false
namespace Go.Proofs.YthpbjpnbafiipaaDoor.E
/-! The program's canonical writer. -/
def Pt0 (off : Int) (d q : Nat) : PV := .agg [I 0, I off, I d, I q, I 0, I 0, Bo false, I 0, U32 0, U32 0]
def Pt1 (off e c : Int) : PV := .agg [I 1, I off, I 0, I 0, I e, I c, Bo false, I 0, U32 0, U32 0]
theorem V_wstruct {W d : List Int} {ks : List Nd} (hb : ∀ x ∈ d, Byte x) (h8 : d.length % 8 = 0) (hd : d.length ≤ 524280) (hk : ks.length ≤ 65535) (hW : W.length ≤ 268435456) (e n : Int) : ev 79 [.ptr 0 0, .pv (.agg [I 1, I e, I n, .sl 1 (bs d), .sl 5 (pvs ks)])] (wh W) =
    some (.ret (.pv (.tup [Pt0 0 (d.length / 8) ks.length, .sl 1 [I ((W.length + d.length / 8 : Nat) : Int)]])), wh (W ++ (wrdN (d.length / 8) d ++ List.replicate ks.length 0))) := by
  have h1 := V_wbytes (W := W) hb (n := d.length / 8) (by omega) (by omega) (by omega)
  have h2 := V_wzeros (W := W ++ wrdN (d.length / 8) d) (n := ks.length) (by omega) (by simp; omega)
  unfold wh at h1 h2 ⊢
  rw [canonwrite_writer_structure_eq, bs_len, pvs_len, Int.tdiv_eq_ediv_of_nonneg (by omega), show (d.length : Int) / 8 = ((d.length / 8 : Nat) : Int) by omega, w64 (by omega), h1]
  dsimp only [callT_ret, callT_pan, onlyPV_v, Option.bind_some, pBool_v, pTup_v, pAgg_v, aggOf_v, pSl_v, pInt_v, pI64, pU64, pU32, pU8, List.getElem?_cons_zero, List.getElem?_cons_succ, cells_v, cells_sl, cells_agg, isCell_v, isCell_sl, cnd_t, cnd_f, tt_and, ff_and, nt_t, nt_f, len1, len3, len5, len8, len10, hlen1, clen1, clen5]
  rw [pSlu_v]
  dsimp only [callT_ret, callT_pan, onlyPV_v, Option.bind_some, pBool_v, pTup_v, pAgg_v, aggOf_v, pSl_v, pInt_v, pI64, pU64, pU32, pU8, List.getElem?_cons_zero, List.getElem?_cons_succ, cells_v, cells_sl, cells_agg, isCell_v, isCell_sl, cnd_t, cnd_f, tt_and, ff_and, nt_t, nt_f, len1, len3, len5, len8, len10, hlen1, clen1, clen5]
  rw [h2]
  dsimp only [callT_ret, callT_pan, onlyPV_v, Option.bind_some, pBool_v, pTup_v, pAgg_v, aggOf_v, pSl_v, pInt_v, pI64, pU64, pU32, pU8, List.getElem?_cons_zero, List.getElem?_cons_succ, cells_v, cells_sl, cells_agg, isCell_v, isCell_sl, cnd_t, cnd_f, tt_and, ff_and, nt_t, nt_f, len1, len3, len5, len8, len10, hlen1, clen1, clen5]
  rw [List.length_append, wrdN_len, List.append_assoc]
  rfl
theorem V_wlist6 {W : List Int} {ks : List Nd} {n : Nat} (hn : n ≤ 268435456) (hW : W.length ≤ 268435456) (d : List PV) : ev 78 [.ptr 0 0, .pv (.agg [I 2, I 6, I (n : Int), .sl 1 d, .sl 5 (pvs ks)])] (wh W) =
    some (.ret (.pv (.tup [Pt1 0 6 n, .sl 1 [I (W.length : Int)]])), wh (W ++ List.replicate n 0)) := by
  have h2 := V_wzeros (W := W) (n := n) (by omega) (by omega)
  unfold wh at h2 ⊢
  rw [canonwrite_writer_list_eq, show ((6 : Int) == 6) = true from rfl, h2]
  rfl
theorem V_wlist {W d : List Int} {ks : List Nd} {e n : Int} (he : 0 ≤ e ∧ e < 6) (hn : 0 ≤ n ∧ n ≤ 536870911) (hb : ∀ x ∈ d, Byte x) (hl : (d.length : Int) = bytesN e n) (hw : wordsOf e n ≤ 268435456) (hW : W.length ≤ 268435456) (hO : ev 28 [.pv (.agg [I 2, I e, I n, .sl 1 (bs d), .sl 5 (pvs ks)])] [] = ok (I (wordsOf e n))) :
    ev 78 [.ptr 0 0, .pv (.agg [I 2, I e, I n, .sl 1 (bs d), .sl 5 (pvs ks)])] (wh W) =
    some (.ret (.pv (.tup [Pt1 0 e n, .sl 1 []])), wh (W ++ wrdN (wordsOf e n).toNat d)) := by
  have hr := wordsOf_range (e := e) hn
  have hbw := bytes_words he hn
  have h1 := V_wbytes (W := W) hb (n := (wordsOf e n).toNat) (by omega) (by omega) (by omega)
  rw [show (((wordsOf e n).toNat : Nat) : Int) = wordsOf e n by omega] at h1
  unfold wh at h1 ⊢
  rw [canonwrite_writer_list_eq, beq_eq_false_iff_ne.2 (show e ≠ 6 by omega), hO]
  dsimp only [callT_ret, callT_pan, onlyPV_v, Option.bind_some, pBool_v, pTup_v, pAgg_v, aggOf_v, pSl_v, pInt_v, pI64, pU64, pU32, pU8, List.getElem?_cons_zero, List.getElem?_cons_succ, cells_v, cells_sl, cells_agg, isCell_v, isCell_sl, cnd_t, cnd_f, tt_and, ff_and, nt_t, nt_f, len1, len3, len5, len8, len10, hlen1, clen1, clen5]
  rw [h1]
  rfl
theorem comp_loop {W0 : List Int} {ks : List Nd} {a b : Nat} (ha : a ≤ 65535) (hb : b ≤ 65535) (hk : ks.length ≤ 536870911) (hs : ∀ k ∈ ks, (∀ x ∈ k.data, Byte x) ∧ k.data.length ≤ 8 * a) (hl : W0.length + ks.length * (a + b) ≤ 268435456) (i7 i8 i9 : Int) (xs10 xs11 : List PV) (i12 i13 i14 i15 i16 i17 : Int) (b18 : Bool) (i19 i20 i21 : Int) : ∀ (c i : Nat), i + c = ks.length →
    canonwrite_writer_composite_L0 (I a) (I b) (((List.range i).map fun j => I ((W0.length + j * (a + b) + a : Nat) : Int))) (pvs ks) ks.length i (ws (W0 ++ els a b (ks.take i))) i7 i8 i9 xs10 xs11 i12 i13 i14 i15 i16 i17 b18 i19 i20 i21 =
      some (.ret (.pv (.tup [Pt1 0 i8 (IntKind.wrap .i64 (i9 * ((a + b : Nat) : Int))), .sl 1 ((List.range ks.length).map fun j => I ((W0.length + j * (a + b) + a : Nat) : Int))])), wh (W0 ++ els a b ks)) := by
  intro c
  induction c with
  | zero =>
    intro i hi
    rw [canonwrite_writer_composite_L0_eq, decide_eq_false (by omega), List.take_of_length_le (by omega), show i = ks.length by omega]
    dsimp only [callT_ret, callT_pan, onlyPV_v, Option.bind_some, pBool_v, pTup_v, pAgg_v, aggOf_v, pSl_v, pInt_v, pI64, pU64, pU32, pU8, List.getElem?_cons_zero, List.getElem?_cons_succ, cells_v, cells_sl, cells_agg, isCell_v, isCell_sl, cnd_t, cnd_f, tt_and, ff_and, nt_t, nt_f, len1, len3, len5, len8, len10, hlen1, clen1, clen5]
    rw [w64 (x := (a : Int) + b) (by omega), show (a : Int) + b = ((a + b : Nat) : Int) by push_cast; rfl]
    rfl
  | succ c ih =>
    intro i hi
    have hil : i < ks.length := by omega
    obtain ⟨s1, s2⟩ := hs _ (List.getElem_mem hil)
    have hmul : i * (a + b) + (a + b) ≤ ks.length * (a + b) := by
      have := Nat.mul_le_mul_right (a + b) (show i + 1 ≤ ks.length by omega)
      rw [Nat.add_mul, Nat.one_mul] at this
      exact this
    have hel : (els a b (ks.take i)).length = i * (a + b) := by rw [els_len, List.length_take, Nat.min_eq_left (by omega)]
    have h1 := V_wbytes (W := W0 ++ els a b (ks.take i)) s1 (n := a) (by omega) s2 (by rw [List.length_append, hel]; omega)
    have h2 := V_wzeros (W := W0 ++ els a b (ks.take i) ++ wrdN a ks[i].data) (n := b) (by omega) (by rw [List.length_append, List.length_append, hel, wrdN_len]; omega)
    unfold wh at h1 h2
    rw [canonwrite_writer_composite_L0_eq, decide_eq_true (show (i : Int) < (ks.length : Int) by omega), decide_eq_true (show 0 ≤ (i : Int) by omega), decide_eq_true (show (i : Int) < ((pvs ks).length : Int) by simp; omega)]
    dsimp only [callT_ret, callT_pan, onlyPV_v, Option.bind_some, pBool_v, pTup_v, pAgg_v, aggOf_v, pSl_v, pInt_v, pI64, pU64, pU32, pU8, List.getElem?_cons_zero, List.getElem?_cons_succ, cells_v, cells_sl, cells_agg, isCell_v, isCell_sl, cnd_t, cnd_f, tt_and, ff_and, nt_t, nt_f, len1, len3, len5, len8, len10, hlen1, clen1, clen5]
    rw [Int.toNat_natCast, pvs_get hil]
    dsimp only [callT_ret, callT_pan, onlyPV_v, Option.bind_some, pBool_v, pTup_v, pAgg_v, aggOf_v, pSl_v, pInt_v, pI64, pU64, pU32, pU8, List.getElem?_cons_zero, List.getElem?_cons_succ, cells_v, cells_sl, cells_agg, isCell_v, isCell_sl, cnd_t, cnd_f, tt_and, ff_and, nt_t, nt_f, len1, len3, len5, len8, len10, hlen1, clen1, clen5]
    rw [nd_five, nd_cells, show (ks[i].c.drop 0).take 5 = ks[i].c from rfl]
    dsimp only [Nd.c, callT_ret, callT_pan, onlyPV_v, Option.bind_some, pBool_v, pTup_v, pAgg_v, aggOf_v, pSl_v, pInt_v, pI64, pU64, pU32, pU8, List.getElem?_cons_zero, List.getElem?_cons_succ, cells_v, cells_sl, cells_agg, isCell_v, isCell_sl, cnd_t, cnd_f, tt_and, ff_and, nt_t, nt_f, len1, len3, len5, len8, len10, hlen1, clen1, clen5]
    rw [h1]
    dsimp only [callT_ret, callT_pan, onlyPV_v, Option.bind_some, pBool_v, pTup_v, pAgg_v, aggOf_v, pSl_v, pInt_v, pI64, pU64, pU32, pU8, List.getElem?_cons_zero, List.getElem?_cons_succ, cells_v, cells_sl, cells_agg, isCell_v, isCell_sl, cnd_t, cnd_f, tt_and, ff_and, nt_t, nt_f, len1, len3, len5, len8, len10, hlen1, clen1, clen5]
    rw [pSlu_v]
    dsimp only [callT_ret, callT_pan, onlyPV_v, Option.bind_some, pBool_v, pTup_v, pAgg_v, aggOf_v, pSl_v, pInt_v, pI64, pU64, pU32, pU8, List.getElem?_cons_zero, List.getElem?_cons_succ, cells_v, cells_sl, cells_agg, isCell_v, isCell_sl, cnd_t, cnd_f, tt_and, ff_and, nt_t, nt_f, len1, len3, len5, len8, len10, hlen1, clen1, clen5]
    rw [h2]
    dsimp only [callT_ret, callT_pan, onlyPV_v, Option.bind_some, pBool_v, pTup_v, pAgg_v, aggOf_v, pSl_v, pInt_v, pI64, pU64, pU32, pU8, List.getElem?_cons_zero, List.getElem?_cons_succ, cells_v, cells_sl, cells_agg, isCell_v, isCell_sl, cnd_t, cnd_f, tt_and, ff_and, nt_t, nt_f, len1, len3, len5, len8, len10, hlen1, clen1, clen5]
    rw [pSlu_v]
    dsimp only [callT_ret, callT_pan, onlyPV_v, Option.bind_some, pBool_v, pTup_v, pAgg_v, aggOf_v, pSl_v, pInt_v, pI64, pU64, pU32, pU8, List.getElem?_cons_zero, List.getElem?_cons_succ, cells_v, cells_sl, cells_agg, isCell_v, isCell_sl, cnd_t, cnd_f, tt_and, ff_and, nt_t, nt_f, len1, len3, len5, len8, len10, hlen1, clen1, clen5]
    rw [roomy_ok (by simp; omega) (by simp; omega), w64 (x := (i : Int) + 1) (by omega)]
    have e1 : (List.range i).map (fun j => I ((W0.length + j * (a + b) + a : Nat) : Int)) ++ [I ((W0 ++ els a b (ks.take i) ++ wrdN a ks[i].data).length : Int)] = (List.range (i + 1)).map fun j => I ((W0.length + j * (a + b) + a : Nat) : Int) := by
      rw [List.range_succ, List.map_append, List.map_singleton, List.length_append, List.length_append, hel, wrdN_len]
    have e2 : W0 ++ els a b (ks.take i) ++ wrdN a ks[i].data ++ List.replicate b 0 = W0 ++ els a b (ks.take (i + 1)) := by
      rw [take_snoc hil]
      unfold els
      rw [List.flatMap_append, List.flatMap_singleton]
      simp only [List.append_assoc]
    have := ih (i + 1) (by omega)
    rw [← e1, ← e2] at this
    exact this
theorem V_wcomp {W : List Int} {ks : List Nd} {n : Int} (hn : 0 ≤ n ∧ n ≤ 536870911) (hk : (ks.length : Int) = n) (hs : ∀ k ∈ ks, (∀ x ∈ k.data, Byte x) ∧ k.data.length % 8 = 0 ∧ k.data.length ≤ 524280 ∧ k.kids.length ≤ 65535) (hl : W.length + 1 + ks.length * (uniD ks + uniP ks) ≤ 268435456) :
    ev 80 [.ptr 0 0, .pv (.agg [I 2, I 7, I n, .sl 1 [], .sl 5 (pvs ks)])] (wh W) =
    some (.ret (.pv (.tup [Pt1 0 7 (n * ((uniD ks + uniP ks : Nat) : Int)), .sl 1 ((List.range ks.length).map fun j => I ((W.length + 1 + j * (uniD ks + uniP ks) + uniD ks : Nat) : Int))])), wh (W ++ (encS n (uniD ks) (uniP ks) :: els (uniD ks) (uniP ks) ks))) := by
  have hud : uniD ks ≤ 65535 := uniD_le fun x hx => by have := (hs x hx).2.2.1; omega
  have huq : uniP ks ≤ 65535 := uniP_le fun x hx => (hs x hx).2.2.2
  have hU := V_Uniform (x := .mk 2 7 n [] ks) (by show ks.length ≤ _; omega) (fun y hy => by have := (hs y hy).2.2.1; omega)
  have hE := V_Encode0 (off := n) (d := uniD ks) (q := uniP ks) (by omega) hud huq
  have hu : ev 49 [.pv (.agg [I 2, I 7, I n, .sl 1 [], .sl 5 (pvs ks)])] [] = ok (.tup [I (uniD ks : Nat), I (uniP ks : Nat)]) := hU
  have hL := comp_loop (W0 := W ++ [encS n (uniD ks) (uniP ks)]) (ks := ks) hud huq (by omega) (fun k hk => ⟨(hs k hk).1, by have := uniD_mem hk; have := (hs k hk).2.1; omega⟩) (by rw [List.length_append, List.length_singleton]; omega) 2 7 n [] (pvs ks) 0 0 0 0 0 0 false 0 0 0 ks.length 0 (by omega)
  unfold wh at hL ⊢
  rw [canonwrite_writer_composite_eq, hu]
  dsimp only [callT_ret, callT_pan, onlyPV_v, Option.bind_some, pBool_v, pTup_v, pAgg_v, aggOf_v, pSl_v, pInt_v, pI64, pU64, pU32, pU8, List.getElem?_cons_zero, List.getElem?_cons_succ, cells_v, cells_sl, cells_agg, isCell_v, isCell_sl, cnd_t, cnd_f, tt_and, ff_and, nt_t, nt_f, len1, len3, len5, len8, len10, hlen1, clen1, clen5]
  rw [hE]
  dsimp only [callT_ret, callT_pan, onlyPV_v, Option.bind_some, pBool_v, pTup_v, pAgg_v, aggOf_v, pSl_v, pInt_v, pI64, pU64, pU32, pU8, List.getElem?_cons_zero, List.getElem?_cons_succ, cells_v, cells_sl, cells_agg, isCell_v, isCell_sl, cnd_t, cnd_f, tt_and, ff_and, nt_t, nt_f, len1, len3, len5, len8, len10, hlen1, clen1, clen5]
  rw [ws_len, roomy_ok (by omega) (by omega), pvs_len, ws_snoc]
  have hL' := hL
  rw [List.take_zero, show els (uniD ks) (uniP ks) [] = [] from rfl, List.append_nil] at hL'
  refine Eq.trans (show _ = _ from hL') ?_
  have e1 : W ++ [encS n (uniD ks) (uniP ks)] ++ els (uniD ks) (uniP ks) ks = W ++ (encS n (uniD ks) (uniP ks) :: els (uniD ks) (uniP ks) ks) := by simp
  have hnu : n * ((uniD ks + uniP ks : Nat) : Int) = ((ks.length * (uniD ks + uniP ks) : Nat) : Int) := by rw [← hk]; push_cast; rfl
  rw [e1, List.length_append, List.length_singleton, w64 (by rw [hnu]; omega)]
end Go.Proofs.YthpbjpnbafiipaaDoor.E
set_option linter.unusedVariables false
set_option linter.unusedSimpArgs false
namespace Go.Proofs.YthpbjpnbafiipaaDoor.E
/-! The program writes the canonical form. -/
theorem body_len' {D : Nat} {x : Nd} (h : Ok D x) : ((body D x).length : Int) = nodSz D x := body_len D h.vn h.dp
theorem placeP_len {D : Nat} {t : Nd} (h : Ok D t) (a : Nat) (W : List Int) : ((placeP (body D) a t W).length : Int) = W.length + nodSz D t := by
  unfold placeP
  split
  · rename_i h0
    rw [nodSz_null h.vn h0, Int.add_zero]
  · rw [List.length_append, List.length_set, ← body_len' h]
    push_cast
    rfl
theorem runP_len {D : Nat} : ∀ (l : List (Nat × Nd)) (W : List Int), (∀ p ∈ l, Ok D p.2) → ((runP (body D) l W).length : Int) = W.length + sumL (l.map fun p => nodSz D p.2)
  | [], W, _ => by simp [runP, sumL_nil]
  | (a, t) :: r, W, h => by
    rw [runP, runP_len r _ (fun p hp => h p (List.mem_cons_of_mem _ hp)), placeP_len (h (a, t) List.mem_cons_self), List.map_cons, sumL_cons]
    dsimp only
    omega
theorem prsS_mem : ∀ (q : List Nd) (i : Nat) (p : Nat × Nd), p ∈ prsS i q → p.2 ∈ q
  | [], i, p, h => by cases h
  | t :: r, i, p, h => by
    rw [prsS] at h
    rcases List.mem_cons.1 h with rfl | h
    · exact List.mem_cons_self
    · exact List.mem_cons_of_mem _ (prsS_mem r _ p h)
theorem prsS_sum (f : Nd → Int) : ∀ (q : List Nd) (i : Nat), sumL ((prsS i q).map fun p => f p.2) = sumL (q.map f)
  | [], i => rfl
  | t :: r, i => by rw [prsS, List.map_cons, List.map_cons, sumL_cons, sumL_cons, prsS_sum f r]
theorem ws_set (L : List Int) (i : Nat) (w : Int) : (ws L).set i (U w) = ws (L.set i w) := by simp [ws, List.map_set]
/-- A node placed by the program. -/
def Plc (D : Nat) (t : Nd) : Prop := ∀ (W : List Int) (a : Nat), a < W.length → (W.length : Int) + nodSz D t ≤ 268435456 → ev 51 [.ptr 0 0, .pv (I (a : Int)), .pv t.x] (wh W) = some (.ret (.pv (.tup [])), wh (placeP (body D) a t W))
theorem plc_null {D : Nat} {t : Nd} (h : t.kind = 0) : Plc D t := fun W a ha hl => by
  unfold wh placeP
  rw [Nd.x, canonwrite_writer_place_eq, beq_iff_eq.2 h, if_pos h]
  rfl
section
variable {D : Nat} {q : List Nd} (hq : q.length ≤ 268435456) (hP : ∀ t ∈ q, Plc D t) (hO : ∀ t ∈ q, Ok D t) (xs0 : List PV) (p2 : PV) (i3 i4 i9 i10 i11 : Int) (xs12 xs13 : List PV) (p14 : PV) (i15 : Int) (p16 p17 p18 p19 p20 p21 p22 p23 : PV) {f : Nat}
include hq hP hO
theorem L3_ok : ∀ (c j : Nat) (W : List Int), j + c = q.length → f + q.length ≤ W.length → (W.length : Int) + sumL ((q.drop j).map (nodSz D)) ≤ 268435456 →
    canonwrite_writer_place_L3 xs0 (I (f : Int)) p2 i3 i4 (.sl 5 (pvs q)) q.length j (ws W) i9 i10 i11 xs12 xs13 p14 i15 p16 p17 p18 p19 p20 p21 p22 p23 = canonwrite_writer_place_L1 xs0 p2 i3 (IntKind.wrap .i64 (i4 + 1)) (ws (runP (body D) (prsS (f + j) (q.drop j)) W)) i9 i10 i11 xs12 xs13 p14 i15 p16 p17 p18 p19 p20 p21 p22 p23 := by
  intro c
  induction c with
  | zero =>
    intro j W hj hf hl
    rw [canonwrite_writer_place_L3_eq, decide_eq_false (by omega), List.drop_eq_nil_of_le (by omega)]
    rfl
  | succ c ih =>
    intro j W hj hf hl
    have hjl : j < q.length := by omega
    have ho := hO _ (List.getElem_mem hjl)
    rw [drop_sum hjl] at hl
    have hnn := nodSz_nn D ho.vn
    have hr : 0 ≤ sumL ((q.drop (j + 1)).map (nodSz D)) := sumL_nn fun y hy => by
      obtain ⟨t, ht, rfl⟩ := List.mem_map.1 hy
      exact nodSz_nn D (hO t (List.mem_of_mem_drop ht)).vn
    have h1 := hP _ (List.getElem_mem hjl) W (f + j) (by omega) (by omega)
    have hlen := placeP_len ho (f + j) W
    unfold wh at h1
    dsimp only [Nd.x] at h1
    rw [canonwrite_writer_place_L3_eq, decide_eq_true (show (j : Int) < (q.length : Int) by omega)]
    dsimp only [callT_ret, callT_pan, onlyPV_v, Option.bind_some, pBool_v, pTup_v, pAgg_v, aggOf_v, pSl_v, pInt_v, pI64, pU64, pU32, pU8, List.getElem?_cons_zero, List.getElem?_cons_succ, cells_v, cells_sl, cells_agg, isCell_v, isCell_sl, cnd_t, cnd_f, tt_and, ff_and, nt_t, nt_f, len1, len3, len5, len8, len10, hlen1, clen1, clen5]
    rw [decide_eq_true (show (5 : Nat) = 5 from rfl), decide_eq_true (show 0 ≤ (j : Int) by omega), decide_eq_true (show (j : Int) < ((pvs q).length : Int) by simp; omega)]
    dsimp only [callT_ret, callT_pan, onlyPV_v, Option.bind_some, pBool_v, pTup_v, pAgg_v, aggOf_v, pSl_v, pInt_v, pI64, pU64, pU32, pU8, List.getElem?_cons_zero, List.getElem?_cons_succ, cells_v, cells_sl, cells_agg, isCell_v, isCell_sl, cnd_t, cnd_f, tt_and, ff_and, nt_t, nt_f, len1, len3, len5, len8, len10, hlen1, clen1, clen5]
    rw [Int.toNat_natCast, pvs_get hjl]
    dsimp only [callT_ret, callT_pan, onlyPV_v, Option.bind_some, pBool_v, pTup_v, pAgg_v, aggOf_v, pSl_v, pInt_v, pI64, pU64, pU32, pU8, List.getElem?_cons_zero, List.getElem?_cons_succ, cells_v, cells_sl, cells_agg, isCell_v, isCell_sl, cnd_t, cnd_f, tt_and, ff_and, nt_t, nt_f, len1, len3, len5, len8, len10, hlen1, clen1, clen5]
    rw [nd_five, nd_cells, show (q[j].c.drop 0).take 5 = q[j].c from rfl]
    dsimp only [Nd.c, callT_ret, callT_pan, onlyPV_v, Option.bind_some, pBool_v, pTup_v, pAgg_v, aggOf_v, pSl_v, pInt_v, pI64, pU64, pU32, pU8, List.getElem?_cons_zero, List.getElem?_cons_succ, cells_v, cells_sl, cells_agg, isCell_v, isCell_sl, cnd_t, cnd_f, tt_and, ff_and, nt_t, nt_f, len1, len3, len5, len8, len10, hlen1, clen1, clen5]
    rw [w64 (x := (f : Int) + j) (by omega), show (f : Int) + j = ((f + j : Nat) : Int) by push_cast; rfl, h1]
    dsimp only [callT_ret, callT_pan, onlyPV_v, Option.bind_some, pBool_v, pTup_v, pAgg_v, aggOf_v, pSl_v, pInt_v, pI64, pU64, pU32, pU8, List.getElem?_cons_zero, List.getElem?_cons_succ, cells_v, cells_sl, cells_agg, isCell_v, isCell_sl, cnd_t, cnd_f, tt_and, ff_and, nt_t, nt_f, len1, len3, len5, len8, len10, hlen1, clen1, clen5]
    rw [pSlu_v, w64 (x := (j : Int) + 1) (by omega)]
    dsimp only [callT_ret, callT_pan, onlyPV_v, Option.bind_some, pBool_v, pTup_v, pAgg_v, aggOf_v, pSl_v, pInt_v, pI64, pU64, pU32, pU8, List.getElem?_cons_zero, List.getElem?_cons_succ, cells_v, cells_sl, cells_agg, isCell_v, isCell_sl, cnd_t, cnd_f, tt_and, ff_and, nt_t, nt_f, len1, len3, len5, len8, len10, hlen1, clen1, clen5]
    have := ih (j + 1) (placeP (body D) (f + j) q[j] W) (by omega) (by omega) (by omega)
    rw [List.drop_eq_getElem_cons hjl, prsS, runP]
    exact this
theorem L3v_ok : ∀ (c j : Nat) (W : List Int), j + c = q.length → f + q.length ≤ W.length → (W.length : Int) + sumL ((q.drop j).map (nodSz D)) ≤ 268435456 →
    canonwrite_writer_place_L3v1 xs0 (I (f : Int)) p2 i3 i4 (.sl 5 (pvs q)) q.length j (ws W) i9 i10 i11 xs12 xs13 p14 i15 p16 p17 p18 p19 p20 p21 p22 p23 = canonwrite_writer_place_L1v1 xs0 p2 i3 (IntKind.wrap .i64 (i4 + 1)) (ws (runP (body D) (prsS (f + j) (q.drop j)) W)) i9 i10 i11 xs12 xs13 p14 i15 p16 p17 p18 p19 p20 p21 p22 p23 := by
  intro c
  induction c with
  | zero =>
    intro j W hj hf hl
    rw [canonwrite_writer_place_L3v1_eq, decide_eq_false (by omega), List.drop_eq_nil_of_le (by omega)]
    rfl
  | succ c ih =>
    intro j W hj hf hl
    have hjl : j < q.length := by omega
    have ho := hO _ (List.getElem_mem hjl)
    rw [drop_sum hjl] at hl
    have hnn := nodSz_nn D ho.vn
    have hr : 0 ≤ sumL ((q.drop (j + 1)).map (nodSz D)) := sumL_nn fun y hy => by
      obtain ⟨t, ht, rfl⟩ := List.mem_map.1 hy
      exact nodSz_nn D (hO t (List.mem_of_mem_drop ht)).vn
    have h1 := hP _ (List.getElem_mem hjl) W (f + j) (by omega) (by omega)
    have hlen := placeP_len ho (f + j) W
    unfold wh at h1
    dsimp only [Nd.x] at h1
    rw [canonwrite_writer_place_L3v1_eq, decide_eq_true (show (j : Int) < (q.length : Int) by omega)]
    dsimp only [callT_ret, callT_pan, onlyPV_v, Option.bind_some, pBool_v, pTup_v, pAgg_v, aggOf_v, pSl_v, pInt_v, pI64, pU64, pU32, pU8, List.getElem?_cons_zero, List.getElem?_cons_succ, cells_v, cells_sl, cells_agg, isCell_v, isCell_sl, cnd_t, cnd_f, tt_and, ff_and, nt_t, nt_f, len1, len3, len5, len8, len10, hlen1, clen1, clen5]
    rw [decide_eq_true (show (5 : Nat) = 5 from rfl), decide_eq_true (show 0 ≤ (j : Int) by omega), decide_eq_true (show (j : Int) < ((pvs q).length : Int) by simp; omega)]
    dsimp only [callT_ret, callT_pan, onlyPV_v, Option.bind_some, pBool_v, pTup_v, pAgg_v, aggOf_v, pSl_v, pInt_v, pI64, pU64, pU32, pU8, List.getElem?_cons_zero, List.getElem?_cons_succ, cells_v, cells_sl, cells_agg, isCell_v, isCell_sl, cnd_t, cnd_f, tt_and, ff_and, nt_t, nt_f, len1, len3, len5, len8, len10, hlen1, clen1, clen5]
    rw [Int.toNat_natCast, pvs_get hjl]
    dsimp only [callT_ret, callT_pan, onlyPV_v, Option.bind_some, pBool_v, pTup_v, pAgg_v, aggOf_v, pSl_v, pInt_v, pI64, pU64, pU32, pU8, List.getElem?_cons_zero, List.getElem?_cons_succ, cells_v, cells_sl, cells_agg, isCell_v, isCell_sl, cnd_t, cnd_f, tt_and, ff_and, nt_t, nt_f, len1, len3, len5, len8, len10, hlen1, clen1, clen5]
    rw [nd_five, nd_cells, show (q[j].c.drop 0).take 5 = q[j].c from rfl]
    dsimp only [Nd.c, callT_ret, callT_pan, onlyPV_v, Option.bind_some, pBool_v, pTup_v, pAgg_v, aggOf_v, pSl_v, pInt_v, pI64, pU64, pU32, pU8, List.getElem?_cons_zero, List.getElem?_cons_succ, cells_v, cells_sl, cells_agg, isCell_v, isCell_sl, cnd_t, cnd_f, tt_and, ff_and, nt_t, nt_f, len1, len3, len5, len8, len10, hlen1, clen1, clen5]
    rw [w64 (x := (f : Int) + j) (by omega), show (f : Int) + j = ((f + j : Nat) : Int) by push_cast; rfl, h1]
    dsimp only [callT_ret, callT_pan, onlyPV_v, Option.bind_some, pBool_v, pTup_v, pAgg_v, aggOf_v, pSl_v, pInt_v, pI64, pU64, pU32, pU8, List.getElem?_cons_zero, List.getElem?_cons_succ, cells_v, cells_sl, cells_agg, isCell_v, isCell_sl, cnd_t, cnd_f, tt_and, ff_and, nt_t, nt_f, len1, len3, len5, len8, len10, hlen1, clen1, clen5]
    rw [pSlu_v, w64 (x := (j : Int) + 1) (by omega)]
    dsimp only [callT_ret, callT_pan, onlyPV_v, Option.bind_some, pBool_v, pTup_v, pAgg_v, aggOf_v, pSl_v, pInt_v, pI64, pU64, pU32, pU8, List.getElem?_cons_zero, List.getElem?_cons_succ, cells_v, cells_sl, cells_agg, isCell_v, isCell_sl, cnd_t, cnd_f, tt_and, ff_and, nt_t, nt_f, len1, len3, len5, len8, len10, hlen1, clen1, clen5]
    have := ih (j + 1) (placeP (body D) (f + j) q[j] W) (by omega) (by omega) (by omega)
    rw [List.drop_eq_getElem_cons hjl, prsS, runP]
    exact this
end
/-- One owner. -/
theorem L1_one {D : Nat} {x : Nd} (hq : x.kids.length ≤ 268435456) (hP : ∀ t ∈ x.kids, Plc D t) (hO : ∀ t ∈ x.kids, Ok D t) (i9 i10 i11 : Int) (xs12 xs13 : List PV) (p14 : PV) (i15 : Int) (p16 p17 p18 p19 p20 p21 p22 p23 : PV) {f : Nat} {W : List Int} (hf : f + x.kids.length ≤ W.length) (hl : (W.length : Int) + sumL (x.kids.map (nodSz D)) ≤ 268435456) :
    canonwrite_writer_place_L1 [.agg [I x.kind, I x.elem, I x.n, .sl 1 (bs x.data), .sl 5 (pvs x.kids)]] (.sl 1 [I (f : Int)]) 1 0 (ws W) i9 i10 i11 xs12 xs13 p14 i15 p16 p17 p18 p19 p20 p21 p22 p23 = some (.ret (.pv (.tup [])), wh (runP (body D) (prsS f x.kids) W)) := by
  have h := L3_ok hq hP hO [.agg [I x.kind, I x.elem, I x.n, .sl 1 (bs x.data), .sl 5 (pvs x.kids)]] (.sl 1 [I (f : Int)]) 1 0 i9 i10 i11 xs12 xs13 p14 i15 p16 p17 p18 p19 p20 p21 p22 p23 (f := f) x.kids.length 0 W (by omega) hf (by rw [List.drop_zero]; exact hl)
  rw [canonwrite_writer_place_L1_eq, decide_eq_true (show (0 : Int) < 1 by decide)]
  dsimp only [callT_ret, callT_pan, onlyPV_v, Option.bind_some, pBool_v, pTup_v, pAgg_v, aggOf_v, pSl_v, pInt_v, pI64, pU64, pU32, pU8, List.getElem?_cons_zero, List.getElem?_cons_succ, cells_v, cells_sl, cells_agg, isCell_v, isCell_sl, cnd_t, cnd_f, tt_and, ff_and, nt_t, nt_f, len1, len3, len5, len8, len10, hlen1, clen1, clen5]
  rw [decide_eq_true (show (1 : Nat) = 1 from rfl), decide_eq_true (show (0 : Int) ≤ 0 by decide), decide_eq_true (show (0 : Int) < (([I (f : Int)] : List PV).length : Int) by simp), decide_eq_true (show (0 : Int) < (([.agg [I x.kind, I x.elem, I x.n, .sl 1 (bs x.data), .sl 5 (pvs x.kids)]] : List PV).length : Int) by simp), show (0 : Int).toNat = 0 from rfl]
  dsimp only [callT_ret, callT_pan, onlyPV_v, Option.bind_some, pBool_v, pTup_v, pAgg_v, aggOf_v, pSl_v, pInt_v, pI64, pU64, pU32, pU8, List.getElem?_cons_zero, List.getElem?_cons_succ, cells_v, cells_sl, cells_agg, isCell_v, isCell_sl, cnd_t, cnd_f, tt_and, ff_and, nt_t, nt_f, len1, len3, len5, len8, len10, hlen1, clen1, clen5]
  rw [pvs_len]
  refine (show _ = _ from h).trans ?_
  rw [canonwrite_writer_place_L1_eq, show IntKind.wrap .i64 (0 + 1) = 1 from rfl, decide_eq_false (by decide), List.drop_zero, Nat.add_zero]
  rfl
/-- The owners of a composite list. -/
theorem L1_comp {D : Nat} {ks : List Nd} {a b s : Nat} (hq : ks.length ≤ 536870911) (hk : ∀ k ∈ ks, k.kids.length ≤ b) (hP : ∀ k ∈ ks, ∀ t ∈ k.kids, Plc D t) (hO : ∀ k ∈ ks, ∀ t ∈ k.kids, Ok D t) (i9 i10 i11 : Int) (xs12 xs13 : List PV) (p14 : PV) (i15 : Int) (p16 p17 p18 p19 p20 p21 p22 p23 : PV) (hb : b ≤ 65535) : ∀ (c i : Nat) (W : List Int), i + c = ks.length → s + ks.length * (a + b) ≤ W.length → (W.length : Int) + sumL ((ks.drop i).map fun k => sumL (k.kids.map (nodSz D))) ≤ 268435456 →
    canonwrite_writer_place_L1v1 (pvs ks) (.sl 1 ((List.range ks.length).map fun j => I ((s + j * (a + b) + a : Nat) : Int))) ks.length i (ws W) i9 i10 i11 xs12 xs13 p14 i15 p16 p17 p18 p19 p20 p21 p22 p23 = some (.ret (.pv (.tup [])), wh (runP (body D) (prsC a (a + b) (s + i * (a + b)) (ks.drop i)) W)) := by
  intro c
  induction c with
  | zero =>
    intro i W hi hs hl
    rw [canonwrite_writer_place_L1v1_eq, decide_eq_false (by omega), List.drop_eq_nil_of_le (by omega)]
    rfl
  | succ c ih =>
    intro i W hi hs hl
    have hil : i < ks.length := by omega
    have hmem := List.getElem_mem hil
    have hmul : i * (a + b) + (a + b) ≤ ks.length * (a + b) := by
      have := Nat.mul_le_mul_right (a + b) (show i + 1 ≤ ks.length by omega)
      rw [Nat.add_mul, Nat.one_mul] at this
      exact this
    have nn : ∀ k ∈ ks, 0 ≤ sumL (k.kids.map (nodSz D)) := fun k hk => sumL_nn fun y hy => by
      obtain ⟨t, ht, rfl⟩ := List.mem_map.1 hy
      exact nodSz_nn D (hO k hk t ht).vn
    rw [drop_sum hil] at hl
    have hr : 0 ≤ sumL ((ks.drop (i + 1)).map fun k => sumL (k.kids.map (nodSz D))) := sumL_nn fun y hy => by
      obtain ⟨t, ht, rfl⟩ := List.mem_map.1 hy
      exact nn t (List.mem_of_mem_drop ht)
    have hkb := hk _ hmem
    have h := L3v_ok (q := ks[i].kids) (by omega) (hP _ hmem) (hO _ hmem) (pvs ks) (.sl 1 ((List.range ks.length).map fun j => I ((s + j * (a + b) + a : Nat) : Int))) ks.length i i9 i10 i11 xs12 xs13 p14 i15 p16 p17 p18 p19 p20 p21 p22 p23 (f := s + i * (a + b) + a) ks[i].kids.length 0 W (by omega) (by omega) (by rw [List.drop_zero]; omega)
    rw [canonwrite_writer_place_L1v1_eq, decide_eq_true (show (i : Int) < (ks.length : Int) by omega)]
    dsimp only [callT_ret, callT_pan, onlyPV_v, Option.bind_some, pBool_v, pTup_v, pAgg_v, aggOf_v, pSl_v, pInt_v, pI64, pU64, pU32, pU8, List.getElem?_cons_zero, List.getElem?_cons_succ, cells_v, cells_sl, cells_agg, isCell_v, isCell_sl, cnd_t, cnd_f, tt_and, ff_and, nt_t, nt_f, len1, len3, len5, len8, len10, hlen1, clen1, clen5]
    rw [decide_eq_true (show (1 : Nat) = 1 from rfl), decide_eq_true (show (0 : Int) ≤ i by omega), decide_eq_true (show (i : Int) < (((List.range ks.length).map fun j => I ((s + j * (a + b) + a : Nat) : Int)).length : Int) by simp; omega), decide_eq_true (show (i : Int) < ((pvs ks).length : Int) by simp; omega), Int.toNat_natCast, List.getElem?_map, List.getElem?_range hil, pvs_get hil]
    dsimp only [Option.map_some, callT_ret, callT_pan, onlyPV_v, Option.bind_some, pBool_v, pTup_v, pAgg_v, aggOf_v, pSl_v, pInt_v, pI64, pU64, pU32, pU8, List.getElem?_cons_zero, List.getElem?_cons_succ, cells_v, cells_sl, cells_agg, isCell_v, isCell_sl, cnd_t, cnd_f, tt_and, ff_and, nt_t, nt_f, len1, len3, len5, len8, len10, hlen1, clen1, clen5]
    rw [nd_cells]
    dsimp only [Nd.c, callT_ret, callT_pan, onlyPV_v, Option.bind_some, pBool_v, pTup_v, pAgg_v, aggOf_v, pSl_v, pInt_v, pI64, pU64, pU32, pU8, List.getElem?_cons_zero, List.getElem?_cons_succ, cells_v, cells_sl, cells_agg, isCell_v, isCell_sl, cnd_t, cnd_f, tt_and, ff_and, nt_t, nt_f, len1, len3, len5, len8, len10, hlen1, clen1, clen5]
    rw [pvs_len]
    refine (show _ = _ from h).trans ?_
    rw [w64 (x := (i : Int) + 1) (by omega), List.drop_zero, Nat.add_zero]
    have hsum := prsS_sum (nodSz D) ks[i].kids (s + i * (a + b) + a)
    have hlen := runP_len (prsS (s + i * (a + b) + a) ks[i].kids) W (fun p hp => hO _ hmem p.2 (prsS_mem _ _ p hp))
    rw [hsum] at hlen
    have h0 := nn _ hmem
    have := ih (i + 1) (runP (body D) (prsS (s + i * (a + b) + a) ks[i].kids) W) (by omega) (by omega) (by omega)
    rw [show s + (i + 1) * (a + b) = s + i * (a + b) + (a + b) by rw [Nat.add_mul, Nat.one_mul]; omega] at this
    refine (show _ = _ from this).trans ?_
    rw [List.drop_eq_getElem_cons hil, prsC, runP_app]
theorem eqz0 (o d q : Int) : eqCells [false, false, false, false, false, false, true, false, false, false] [I 0, I o, I d, I q, I 0, I 0, Bo false, I 0, U32 0, U32 0] [I 0, I o, I 0, I 0, I 0, I 0, Bo false, I 0, U32 0, U32 0] = some ((d == 0) && (q == 0)) := by
  simp [eqCells]
theorem eqz1 (o e c : Int) : eqCells [false, false, false, false, false, false, true, false, false, false] [I 1, I o, I 0, I 0, I e, I c, Bo false, I 0, U32 0, U32 0] [I 0, I o, I 0, I 0, I 0, I 0, Bo false, I 0, U32 0, U32 0] = some false := by
  simp [eqCells]
theorem put_ok {L : List Int} {a : Nat} (ha : a < L.length) (w : Int) : ∃ y, (ws L)[a]? = some (U y) := ⟨L[a], ws_get ha⟩
theorem sum_tgt_nn {D : Nat} {x : Nd} (h : Ok (D + 1) x) (h0 : x.kind ≠ 0) : 0 ≤ sumL ((tgt x).map (nodSz D)) := sumL_nn fun y hy => by
  obtain ⟨t, ht, rfl⟩ := List.mem_map.1 hy
  exact nodSz_nn D (ok_tgt h h0 t ht).vn
theorem place_ok : ∀ (D : Nat) (x : Nd), Ok D x → Plc D x
  | 0, x, h => plc_null h.dp
  | D + 1, x, h => by
    by_cases h0 : x.kind = 0
    · exact plc_null h0
    · intro W a ha hl
      have hT := ok_tgt h h0
      have hP : ∀ t ∈ tgt x, Plc D t := fun t ht => place_ok D t (hT t ht)
      have hsn := sum_tgt_nn h h0
      have hon := objSz_nn h.vn
      rw [nodSz] at hl
      rw [placeP_step h.vn h0 ha]
      have hsl := shW_len (B := body D) h.vn h0
      have hol := obW_len (body D) h.vn h0
      have hWl : (W ++ shW x).length = W.length + (obW (body D) x).length := by rw [List.length_append, hsl]
      obtain ⟨hs, hkk⟩ := vn_shp h.vn
      have hal : a < (W ++ shW x).length := by omega
      obtain ⟨y0, hy0⟩ := put_ok hal 0
      rcases hs with hs | hs | hs
      · exact absurd hs.1 h0
      · obtain ⟨d, ks, rfl, g1, g2, g3, g4, g5, g6⟩ := st_parts h.vn h.tr h.gd hs.1
        have et : tgt (.mk 1 0 0 d ks) = ks := rfl
        rw [et] at hT hP hl hsn
        have ew : shW (.mk 1 0 0 d ks) = wrdN (d.length / 8) d ++ List.replicate ks.length 0 := rfl
        have ep : prs (.mk 1 0 0 d ks) W.length = prsS (W.length + d.length / 8) ks := rfl
        have eo : objSz (.mk 1 0 0 d ks) = ((d.length / 8 + ks.length : Nat) : Int) := rfl
        rw [ew] at hal hWl hy0 ⊢
        rw [eo] at hol hl
        rw [ep]
        have hst := V_wstruct (W := W) g3 g4 g5 g6 (by omega) 0 0 (ks := ks)
        have hloop : ∀ (w : Int) (p14 : PV) (i15 : Int) (p16 p17 p18 p19 p20 p21 p22 p23 : PV), canonwrite_writer_place_L1 [.agg [I 1, I 0, I 0, .sl 1 (bs d), .sl 5 (pvs ks)]] (.sl 1 [I ((W.length + d.length / 8 : Nat) : Int)]) 1 0 (ws ((W ++ (wrdN (d.length / 8) d ++ List.replicate ks.length 0)).set a w)) 1 0 0 (bs d) (pvs ks) p14 i15 p16 p17 p18 p19 p20 p21 p22 p23 = some (.ret (.pv (.tup [])), wh (runP (body D) (prsS (W.length + d.length / 8) ks) ((W ++ (wrdN (d.length / 8) d ++ List.replicate ks.length 0)).set a w))) := fun w p14 i15 p16 p17 p18 p19 p20 p21 p22 p23 =>
          L1_one (x := .mk 1 0 0 d ks) (by show ks.length ≤ _; omega) hP hT 1 0 0 (bs d) (pvs ks) p14 i15 p16 p17 p18 p19 p20 p21 p22 p23 (by rw [List.length_set, hWl]; show _ + ks.length ≤ _; omega) (by rw [List.length_set, hWl]; show _ + sumL (ks.map (nodSz D)) ≤ _; push_cast; omega)
        unfold wh at hst hloop ⊢
        show ev 51 [.ptr 0 0, .pv (I (a : Int)), .pv (.agg [I 1, I 0, I 0, .sl 1 (bs d), .sl 5 (pvs ks)])] _ = _
        rw [canonwrite_writer_place_eq, show ((1 : Int) == 0) = false from rfl, show ((1 : Int) == 1) = true from rfl, hst]
        dsimp only [Pt0, callT_ret, callT_pan, onlyPV_v, Option.bind_some, pBool_v, pTup_v, pAgg_v, aggOf_v, pSl_v, pInt_v, pI64, pU64, pU32, pU8, List.getElem?_cons_zero, List.getElem?_cons_succ, cells_v, cells_sl, cells_agg, isCell_v, isCell_sl, cnd_t, cnd_f, tt_and, ff_and, nt_t, nt_f, len1, len3, len5, len8, len10, hlen1, clen1, clen5]
        rw [pSlu_v, ws_len, w64 (x := (W.length : Int) - a) (by omega), w64 (x := (W.length : Int) - a - 1) (by omega), eqz0]
        dsimp only [callT_ret, callT_pan, onlyPV_v, Option.bind_some, pBool_v, pTup_v, pAgg_v, aggOf_v, pSl_v, pInt_v, pI64, pU64, pU32, pU8, List.getElem?_cons_zero, List.getElem?_cons_succ, cells_v, cells_sl, cells_agg, isCell_v, isCell_sl, cnd_t, cnd_f, tt_and, ff_and, nt_t, nt_f, len1, len3, len5, len8, len10, hlen1, clen1, clen5]
        by_cases hz : d.length / 8 = 0 ∧ ks.length = 0
        · have hE := V_Encode0 (off := -1) (d := d.length / 8) (q := ks.length) (by decide) (by omega) g6
          have e1 : ptrI (.mk 1 0 0 d ks) ((W.length : Int) - a - 1) = encS (-1) (d.length / 8) ks.length := by
            show (if (1 : Int) = 0 then 0 else if (1 : Int) = 1 then (if d.length / 8 = 0 ∧ ks.length = 0 then encS (-1) 0 0 else _) else _) = _
            rw [if_neg (by decide), if_pos rfl, if_pos hz, hz.1, hz.2]
          rw [e1, show (((d.length / 8 : Nat) : Int) == 0) = true from by simp [hz.1], show ((ks.length : Int) == 0) = true from by simp [hz.2]]
          dsimp only [callT_ret, callT_pan, onlyPV_v, Option.bind_some, pBool_v, pTup_v, pAgg_v, aggOf_v, pSl_v, pInt_v, pI64, pU64, pU32, pU8, List.getElem?_cons_zero, List.getElem?_cons_succ, cells_v, cells_sl, cells_agg, isCell_v, isCell_sl, cnd_t, cnd_f, tt_and, ff_and, nt_t, nt_f, len1, len3, len5, len8, len10, hlen1, clen1, clen5]
          rw [hE]
          dsimp only [callT_ret, callT_pan, onlyPV_v, Option.bind_some, pBool_v, pTup_v, pAgg_v, aggOf_v, pSl_v, pInt_v, pI64, pU64, pU32, pU8, List.getElem?_cons_zero, List.getElem?_cons_succ, cells_v, cells_sl, cells_agg, isCell_v, isCell_sl, cnd_t, cnd_f, tt_and, ff_and, nt_t, nt_f, len1, len3, len5, len8, len10, hlen1, clen1, clen5]
          rw [decide_eq_true (show 0 ≤ (a : Int) by omega), decide_eq_true (show (a : Int) < ((ws (W ++ (wrdN (d.length / 8) d ++ List.replicate ks.length 0))).length : Int) by rw [ws_len]; omega), Int.toNat_natCast, hy0]
          dsimp only [setCells, List.length_cons, List.length_nil, callT_ret, callT_pan, onlyPV_v, Option.bind_some, pBool_v, pTup_v, pAgg_v, aggOf_v, pSl_v, pInt_v, pI64, pU64, pU32, pU8, List.getElem?_cons_zero, List.getElem?_cons_succ, cells_v, cells_sl, cells_agg, isCell_v, isCell_sl, cnd_t, cnd_f, tt_and, ff_and, nt_t, nt_f, len1, len3, len5, len8, len10, hlen1, clen1, clen5]
          rw [ws_set]
          exact hloop _ _ _ _ _ _ _ _ _ _ _
        · have hE := V_Encode0 (off := (W.length : Int) - a - 1) (d := d.length / 8) (q := ks.length) (by omega) (by omega) g6
          have e1 : ptrI (.mk 1 0 0 d ks) ((W.length : Int) - a - 1) = encS ((W.length : Int) - a - 1) (d.length / 8) ks.length := by
            show (if (1 : Int) = 0 then 0 else if (1 : Int) = 1 then (if d.length / 8 = 0 ∧ ks.length = 0 then _ else encS ((W.length : Int) - a - 1) (d.length / 8) ks.length) else _) = _
            rw [if_neg (by decide), if_pos rfl, if_neg hz]
          have e2 : ((((d.length / 8 : Nat) : Int) == 0) && ((ks.length : Int) == 0)) = false := by
            rw [Bool.and_eq_false_iff]
            by_cases h1 : d.length / 8 = 0
            · right; exact beq_eq_false_iff_ne.2 (fun h2 => hz ⟨h1, by omega⟩)
            · left; exact beq_eq_false_iff_ne.2 (fun h2 => h1 (by omega))
          rw [e1, e2]
          dsimp only [callT_ret, callT_pan, onlyPV_v, Option.bind_some, pBool_v, pTup_v, pAgg_v, aggOf_v, pSl_v, pInt_v, pI64, pU64, pU32, pU8, List.getElem?_cons_zero, List.getElem?_cons_succ, cells_v, cells_sl, cells_agg, isCell_v, isCell_sl, cnd_t, cnd_f, tt_and, ff_and, nt_t, nt_f, len1, len3, len5, len8, len10, hlen1, clen1, clen5]
          rw [hE]
          dsimp only [callT_ret, callT_pan, onlyPV_v, Option.bind_some, pBool_v, pTup_v, pAgg_v, aggOf_v, pSl_v, pInt_v, pI64, pU64, pU32, pU8, List.getElem?_cons_zero, List.getElem?_cons_succ, cells_v, cells_sl, cells_agg, isCell_v, isCell_sl, cnd_t, cnd_f, tt_and, ff_and, nt_t, nt_f, len1, len3, len5, len8, len10, hlen1, clen1, clen5]
          rw [decide_eq_true (show 0 ≤ (a : Int) by omega), decide_eq_true (show (a : Int) < ((ws (W ++ (wrdN (d.length / 8) d ++ List.replicate ks.length 0))).length : Int) by rw [ws_len]; omega), Int.toNat_natCast, hy0]
          dsimp only [setCells, List.length_cons, List.length_nil, callT_ret, callT_pan, onlyPV_v, Option.bind_some, pBool_v, pTup_v, pAgg_v, aggOf_v, pSl_v, pInt_v, pI64, pU64, pU32, pU8, List.getElem?_cons_zero, List.getElem?_cons_succ, cells_v, cells_sl, cells_agg, isCell_v, isCell_sl, cnd_t, cnd_f, tt_and, ff_and, nt_t, nt_f, len1, len3, len5, len8, len10, hlen1, clen1, clen5]
          rw [ws_set]
          exact hloop _ _ _ _ _ _ _ _ _ _ _
      · cases x with
        | mk k e n d ks =>
          obtain ⟨k2, hn, he, h6, hl6⟩ := hs
          have k2' : k = 2 := k2
          subst k2'
          have hn' : 0 ≤ n ∧ n ≤ 536870911 := hn
          have he' : 0 ≤ e ∧ e ≤ 7 := he
          have hg := h.gd
          rw [good] at hg
          by_cases e7 : e = 7
          · subst e7
            obtain ⟨a1, a2⟩ := h6 (show (6 : Int) ≤ 7 by decide)
            obtain rfl : d = [] := List.length_eq_zero_iff.1 a1
            have a2' : (ks.length : Int) = n := a2
            have hst : ∀ k ∈ ks, k.kind = 1 := by
              cases h.vn with
              | mk v1 v2 v3 => exact v2 rfl rfl
            have htr : ∀ k ∈ ks, TrN k := by
              cases h.tr with
              | mk t1 t2 => exact t2
            have hparts : ∀ k ∈ ks, (∀ x ∈ k.data, Byte x) ∧ k.data.length % 8 = 0 ∧ k.data.length ≤ 524280 ∧ k.kids.length ≤ 65535 := fun k hk => by
              obtain ⟨d, q, rfl, g1, g2, g3, g4, g5, g6⟩ := st_parts (hkk k hk) (htr k hk) (goods_iff.1 hg.2 k hk) (hst k hk)
              exact ⟨g3, g4, g5, g6⟩
            have et : tgt (.mk 2 7 n [] ks) = ks.flatMap Nd.kids := rfl
            rw [et] at hT hP hl hsn
            rw [sumL_flat] at hl hsn
            have ew : shW (.mk 2 7 n [] ks) = encS n (uniD ks) (uniP ks) :: els (uniD ks) (uniP ks) ks := rfl
            have ep : prs (.mk 2 7 n [] ks) W.length = prsC (uniD ks) (uniD ks + uniP ks) (W.length + 1) ks := rfl
            have eo : objSz (.mk 2 7 n [] ks) = 1 + n * ((uniD ks + uniP ks : Nat) : Int) := rfl
            have hnu : n * ((uniD ks + uniP ks : Nat) : Int) = ((ks.length * (uniD ks + uniP ks) : Nat) : Int) := by rw [← a2']; push_cast; rfl
            rw [eo, hnu] at hol hl
            rw [ew] at hal hWl hy0 ⊢
            rw [ep]
            have hud : uniD ks ≤ 65535 := uniD_le fun x hx => by have := (hparts x hx).2.2.1; omega
            have huq : uniP ks ≤ 65535 := uniP_le fun x hx => (hparts x hx).2.2.2
            have hkl2 : ks.length ≤ 536870911 := by omega
            have hst' := V_wcomp (W := W) (n := n) (ks := ks) hn' a2' hparts (by omega)
            have hE := V_Encode1 (off := (W.length : Int) - a - 1) (e := 7) (c := ((ks.length * (uniD ks + uniP ks) : Nat) : Int)) (by omega) (by decide) (by omega)
            have e1 : ptrI (.mk 2 7 n [] ks) ((W.length : Int) - a - 1) = encL ((W.length : Int) - a - 1) 7 ((ks.length * (uniD ks + uniP ks) : Nat) : Int) := by rw [← hnu]; rfl
            have hloop : ∀ (w : Int) (p14 : PV) (i15 : Int) (p16 p17 p18 p19 p20 p21 p22 p23 : PV), canonwrite_writer_place_L1v1 (pvs ks) (.sl 1 ((List.range ks.length).map fun j => I ((W.length + 1 + j * (uniD ks + uniP ks) + uniD ks : Nat) : Int))) ks.length 0 (ws ((W ++ (encS n (uniD ks) (uniP ks) :: els (uniD ks) (uniP ks) ks)).set a w)) 2 7 n [] (pvs ks) p14 i15 p16 p17 p18 p19 p20 p21 p22 p23 = some (.ret (.pv (.tup [])), wh (runP (body D) (prsC (uniD ks) (uniD ks + uniP ks) (W.length + 1) ks) ((W ++ (encS n (uniD ks) (uniP ks) :: els (uniD ks) (uniP ks) ks)).set a w))) := fun w p14 i15 p16 p17 p18 p19 p20 p21 p22 p23 => by
              have := L1_comp (D := D) (ks := ks) (a := uniD ks) (b := uniP ks) (s := W.length + 1) hkl2 (fun k hk => uniP_mem hk) (fun k hk t ht => hP t (List.mem_flatMap.2 ⟨k, hk, ht⟩)) (fun k hk t ht => hT t (List.mem_flatMap.2 ⟨k, hk, ht⟩)) 2 7 n [] (pvs ks) p14 i15 p16 p17 p18 p19 p20 p21 p22 p23 huq ks.length 0 ((W ++ (encS n (uniD ks) (uniP ks) :: els (uniD ks) (uniP ks) ks)).set a w) (by omega) (by rw [List.length_set, hWl]; omega) (by rw [List.length_set, hWl, List.drop_zero]; push_cast; omega)
              rw [List.drop_zero, Nat.zero_mul, Nat.add_zero] at this
              exact this
            unfold wh at hst' hloop ⊢
            show ev 51 [.ptr 0 0, .pv (I (a : Int)), .pv (.agg [I 2, I 7, I n, .sl 1 [], .sl 5 (pvs ks)])] _ = _
            rw [canonwrite_writer_place_eq, show ((2 : Int) == 0) = false from rfl, show ((2 : Int) == 1) = false from rfl, show ((7 : Int) == 7) = true from rfl, hst']
            dsimp only [Pt1, callT_ret, callT_pan, onlyPV_v, Option.bind_some, pBool_v, pTup_v, pAgg_v, aggOf_v, pSl_v, pInt_v, pI64, pU64, pU32, pU8, List.getElem?_cons_zero, List.getElem?_cons_succ, cells_v, cells_sl, cells_agg, isCell_v, isCell_sl, cnd_t, cnd_f, tt_and, ff_and, nt_t, nt_f, len1, len3, len5, len8, len10, hlen1, clen1, clen5]
            rw [pSlu_v, ws_len, w64 (x := (W.length : Int) - a) (by omega), w64 (x := (W.length : Int) - a - 1) (by omega), eqz1]
            dsimp only [callT_ret, callT_pan, onlyPV_v, Option.bind_some, pBool_v, pTup_v, pAgg_v, aggOf_v, pSl_v, pInt_v, pI64, pU64, pU32, pU8, List.getElem?_cons_zero, List.getElem?_cons_succ, cells_v, cells_sl, cells_agg, isCell_v, isCell_sl, cnd_t, cnd_f, tt_and, ff_and, nt_t, nt_f, len1, len3, len5, len8, len10, hlen1, clen1, clen5]
            rw [e1, hnu, hE]
            dsimp only [callT_ret, callT_pan, onlyPV_v, Option.bind_some, pBool_v, pTup_v, pAgg_v, aggOf_v, pSl_v, pInt_v, pI64, pU64, pU32, pU8, List.getElem?_cons_zero, List.getElem?_cons_succ, cells_v, cells_sl, cells_agg, isCell_v, isCell_sl, cnd_t, cnd_f, tt_and, ff_and, nt_t, nt_f, len1, len3, len5, len8, len10, hlen1, clen1, clen5]
            rw [decide_eq_true (show 0 ≤ (a : Int) by omega), decide_eq_true (show (a : Int) < ((ws (W ++ (encS n (uniD ks) (uniP ks) :: els (uniD ks) (uniP ks) ks))).length : Int) by rw [ws_len]; omega), Int.toNat_natCast, hy0]
            dsimp only [setCells, List.length_cons, List.length_nil, callT_ret, callT_pan, onlyPV_v, Option.bind_some, pBool_v, pTup_v, pAgg_v, aggOf_v, pSl_v, pInt_v, pI64, pU64, pU32, pU8, List.getElem?_cons_zero, List.getElem?_cons_succ, cells_v, cells_sl, cells_agg, isCell_v, isCell_sl, cnd_t, cnd_f, tt_and, ff_and, nt_t, nt_f, len1, len3, len5, len8, len10, hlen1, clen1, clen5]
            rw [ws_set, List.length_map, List.length_range]
            exact hloop _ _ _ _ _ _ _ _ _ _ _
          · have et : tgt (.mk 2 e n d ks) = ks := by
              show (if (2 : Int) = 2 ∧ e = 7 then _ else ks) = _
              rw [if_neg (fun h => e7 h.2)]
            have eo : objSz (.mk 2 e n d ks) = wordsOf e n := by
              unfold objSz
              show (if (2 : Int) = 0 then 0 else if (2 : Int) = 1 then _ else if e = 7 then _ else wordsOf e n) = _
              rw [if_neg (by decide), if_neg (by decide), if_neg e7]
            rw [et] at hT hP hl hsn
            have ep : prs (.mk 2 e n d ks) W.length = prsS W.length ks := by
              show (if (2 : Int) = 1 then _ else if e = 7 then _ else prsS W.length ks) = _
              rw [if_neg (by decide), if_neg e7]
            have e1 : ptrI (.mk 2 e n d ks) ((W.length : Int) - a - 1) = encL ((W.length : Int) - a - 1) e n := by
              show (if (2 : Int) = 0 then 0 else if (2 : Int) = 1 then _ else if e = 7 then _ else encL ((W.length : Int) - a - 1) e n) = _
              rw [if_neg (by decide), if_neg (by decide), if_neg e7]
            have hE := V_Encode1 (off := (W.length : Int) - a - 1) (e := e) (c := n) (by omega) he' hn'
            rw [ep, e1]
            rw [eo] at hol hl
            by_cases e6 : e = 6
            · subst e6
              obtain ⟨a1, a2⟩ := h6 (show (6 : Int) ≤ 6 by decide)
              obtain rfl : d = [] := List.length_eq_zero_iff.1 a1
              have a2' : (ks.length : Int) = n := a2
              have hw6 : wordsOf 6 n = n := by unfold wordsOf bitsOf; simp; omega
              rw [hw6] at hol hl
              have ew : shW (.mk 2 6 n [] ks) = List.replicate ks.length 0 := rfl
              rw [ew] at hal hWl hy0 ⊢
              have hst' := V_wlist6 (W := W) (ks := ks) (n := ks.length) (by omega) (by omega) (bs [])
              rw [a2'] at hst'
              have hloop : ∀ (w : Int) (p14 : PV) (i15 : Int) (p16 p17 p18 p19 p20 p21 p22 p23 : PV), canonwrite_writer_place_L1 [.agg [I 2, I 6, I n, .sl 1 (bs []), .sl 5 (pvs ks)]] (.sl 1 [I (W.length : Int)]) 1 0 (ws ((W ++ List.replicate ks.length 0).set a w)) 2 6 n (bs []) (pvs ks) p14 i15 p16 p17 p18 p19 p20 p21 p22 p23 = some (.ret (.pv (.tup [])), wh (runP (body D) (prsS W.length ks) ((W ++ List.replicate ks.length 0).set a w))) := fun w p14 i15 p16 p17 p18 p19 p20 p21 p22 p23 =>
                L1_one (x := .mk 2 6 n [] ks) (by show ks.length ≤ _; omega) hP hT 2 6 n (bs []) (pvs ks) p14 i15 p16 p17 p18 p19 p20 p21 p22 p23 (by rw [List.length_set, hWl]; show _ + ks.length ≤ _; omega) (by rw [List.length_set, hWl]; show _ + sumL (ks.map (nodSz D)) ≤ _; push_cast; omega)
              unfold wh at hst' hloop ⊢
              show ev 51 [.ptr 0 0, .pv (I (a : Int)), .pv (.agg [I 2, I 6, I n, .sl 1 (bs []), .sl 5 (pvs ks)])] _ = _
              rw [canonwrite_writer_place_eq, show ((2 : Int) == 0) = false from rfl, show ((2 : Int) == 1) = false from rfl, show ((6 : Int) == 7) = false from rfl, hst']
              dsimp only [Pt1, callT_ret, callT_pan, onlyPV_v, Option.bind_some, pBool_v, pTup_v, pAgg_v, aggOf_v, pSl_v, pInt_v, pI64, pU64, pU32, pU8, List.getElem?_cons_zero, List.getElem?_cons_succ, cells_v, cells_sl, cells_agg, isCell_v, isCell_sl, cnd_t, cnd_f, tt_and, ff_and, nt_t, nt_f, len1, len3, len5, len8, len10, hlen1, clen1, clen5]
              rw [pSlu_v, ws_len, w64 (x := (W.length : Int) - a) (by omega), w64 (x := (W.length : Int) - a - 1) (by omega), eqz1]
              dsimp only [callT_ret, callT_pan, onlyPV_v, Option.bind_some, pBool_v, pTup_v, pAgg_v, aggOf_v, pSl_v, pInt_v, pI64, pU64, pU32, pU8, List.getElem?_cons_zero, List.getElem?_cons_succ, cells_v, cells_sl, cells_agg, isCell_v, isCell_sl, cnd_t, cnd_f, tt_and, ff_and, nt_t, nt_f, len1, len3, len5, len8, len10, hlen1, clen1, clen5]
              rw [hE]
              dsimp only [callT_ret, callT_pan, onlyPV_v, Option.bind_some, pBool_v, pTup_v, pAgg_v, aggOf_v, pSl_v, pInt_v, pI64, pU64, pU32, pU8, List.getElem?_cons_zero, List.getElem?_cons_succ, cells_v, cells_sl, cells_agg, isCell_v, isCell_sl, cnd_t, cnd_f, tt_and, ff_and, nt_t, nt_f, len1, len3, len5, len8, len10, hlen1, clen1, clen5]
              rw [decide_eq_true (show 0 ≤ (a : Int) by omega), decide_eq_true (show (a : Int) < ((ws (W ++ List.replicate ks.length 0)).length : Int) by rw [ws_len]; omega), Int.toNat_natCast, hy0]
              dsimp only [setCells, List.length_cons, List.length_nil, callT_ret, callT_pan, onlyPV_v, Option.bind_some, pBool_v, pTup_v, pAgg_v, aggOf_v, pSl_v, pInt_v, pI64, pU64, pU32, pU8, List.getElem?_cons_zero, List.getElem?_cons_succ, cells_v, cells_sl, cells_agg, isCell_v, isCell_sl, cnd_t, cnd_f, tt_and, ff_and, nt_t, nt_f, len1, len3, len5, len8, len10, hlen1, clen1, clen5]
              rw [ws_set]
              exact hloop _ _ _ _ _ _ _ _ _ _ _
            · obtain ⟨b1, b2, b3⟩ := hl6 (show e < 6 by omega)
              obtain rfl : ks = [] := List.length_eq_zero_iff.1 b1
              have b2' : (d.length : Int) = bytesN e n := b2
              have hwr := wordsOf_range (e := e) hn'
              have ew : shW (.mk 2 e n d []) = wrdN (wordsOf e n).toNat d := by
                show (if (2 : Int) = 1 then _ else if e = 7 then _ else if e = 6 then _ else wrdN (wordsOf e n).toNat d) = _
                rw [if_neg (by decide), if_neg e7, if_neg e6]
              rw [ew] at hal hWl hy0 ⊢
              have hO := V_Object13 h.gd h.vn (by rw [eo]; omega) (by show 0 + 0 ≤ _; decide)
              rw [eo] at hO
              have hst' := V_wlist (W := W) (ks := []) ⟨he'.1, by omega⟩ hn' hg.1.2.1 b2' (by simp only [List.map_nil, sumL_nil] at hl; omega) (by omega) hO
              unfold wh at hst' ⊢
              show ev 51 [.ptr 0 0, .pv (I (a : Int)), .pv (.agg [I 2, I e, I n, .sl 1 (bs d), .sl 5 (pvs [])])] _ = _
              rw [canonwrite_writer_place_eq, show ((2 : Int) == 0) = false from rfl, show ((2 : Int) == 1) = false from rfl, beq_eq_false_iff_ne.2 e7, hst']
              dsimp only [Pt1, callT_ret, callT_pan, onlyPV_v, Option.bind_some, pBool_v, pTup_v, pAgg_v, aggOf_v, pSl_v, pInt_v, pI64, pU64, pU32, pU8, List.getElem?_cons_zero, List.getElem?_cons_succ, cells_v, cells_sl, cells_agg, isCell_v, isCell_sl, cnd_t, cnd_f, tt_and, ff_and, nt_t, nt_f, len1, len3, len5, len8, len10, hlen1, clen1, clen5]
              rw [pSlu_v, ws_len, w64 (x := (W.length : Int) - a) (by omega), w64 (x := (W.length : Int) - a - 1) (by omega), eqz1]
              dsimp only [callT_ret, callT_pan, onlyPV_v, Option.bind_some, pBool_v, pTup_v, pAgg_v, aggOf_v, pSl_v, pInt_v, pI64, pU64, pU32, pU8, List.getElem?_cons_zero, List.getElem?_cons_succ, cells_v, cells_sl, cells_agg, isCell_v, isCell_sl, cnd_t, cnd_f, tt_and, ff_and, nt_t, nt_f, len1, len3, len5, len8, len10, hlen1, clen1, clen5]
              rw [hE]
              dsimp only [callT_ret, callT_pan, onlyPV_v, Option.bind_some, pBool_v, pTup_v, pAgg_v, aggOf_v, pSl_v, pInt_v, pI64, pU64, pU32, pU8, List.getElem?_cons_zero, List.getElem?_cons_succ, cells_v, cells_sl, cells_agg, isCell_v, isCell_sl, cnd_t, cnd_f, tt_and, ff_and, nt_t, nt_f, len1, len3, len5, len8, len10, hlen1, clen1, clen5]
              rw [decide_eq_true (show 0 ≤ (a : Int) by omega), decide_eq_true (show (a : Int) < ((ws (W ++ wrdN (wordsOf e n).toNat d)).length : Int) by rw [ws_len]; omega), Int.toNat_natCast, hy0]
              dsimp only [setCells, List.length_cons, List.length_nil, callT_ret, callT_pan, onlyPV_v, Option.bind_some, pBool_v, pTup_v, pAgg_v, aggOf_v, pSl_v, pInt_v, pI64, pU64, pU32, pU8, List.getElem?_cons_zero, List.getElem?_cons_succ, cells_v, cells_sl, cells_agg, isCell_v, isCell_sl, cnd_t, cnd_f, tt_and, ff_and, nt_t, nt_f, len1, len3, len5, len8, len10, hlen1, clen1, clen5]
              rw [ws_set, canonwrite_writer_place_L1_eq, decide_eq_false (by decide)]
              rfl
theorem unit_ok (D : Nat) (x : Nd) : placeP (body D) 0 x [0] = canW D x := by
  unfold placeP canW
  by_cases h0 : x.kind = 0
  · rw [if_pos h0, ptrI_null h0, body_null D x h0]
  · rw [if_neg h0]
    rfl
theorem V_Write {D : Nat} {x : Nd} (h : Ok D x) (hb : nodSz D x ≤ 134217728) : ev 31 [.pv x.x] [] = some (.ret (.slu 54 1 (ws (canW D x))), []) := by
  have h1 := V_Total13 h.gd h.vn h.dp (by omega)
  have hn := nodSz_nn D h.vn
  have h2 := place_ok D x h [0] 0 (by decide) (by simp; omega)
  rw [unit_ok] at h2
  unfold wh at h2
  dsimp only [Nd.x] at h1 h2
  rw [Nd.x, canonwrite_Write_eq, h1]
  dsimp only [callT_ret, callT_pan, onlyPV_v, Option.bind_some, pBool_v, pTup_v, pAgg_v, aggOf_v, pSl_v, pInt_v, pI64, pU64, pU32, pU8, List.getElem?_cons_zero, List.getElem?_cons_succ, cells_v, cells_sl, cells_agg, isCell_v, isCell_sl, cnd_t, cnd_f, tt_and, ff_and, nt_t, nt_f, len1, len3, len5, len8, len10, hlen1, clen1, clen5]
  rw [decide_eq_true (show 1 ≤ nodSz D x + 1 by omega), decide_eq_true (show nodSz D x + 1 ≤ 140737488355328 by omega), roomy_ok (by omega) (by omega)]
  dsimp only [callT_ret, callT_pan, onlyPV_v, Option.bind_some, pBool_v, pTup_v, pAgg_v, aggOf_v, pSl_v, pInt_v, pI64, pU64, pU32, pU8, List.getElem?_cons_zero, List.getElem?_cons_succ, cells_v, cells_sl, cells_agg, isCell_v, isCell_sl, cnd_t, cnd_f, tt_and, ff_and, nt_t, nt_f, len1, len3, len5, len8, len10, hlen1, clen1, clen5]
  rw [show ev 51 [.ptr 0 0, .pv (I 0), .pv (.agg [I x.kind, I x.elem, I x.n, .sl 1 (bs x.data), .sl 5 (pvs x.kids)])] [[.slu 54 1 [U 0]]] = _ from h2]
  dsimp only [callT_ret, callT_pan, onlyPV_v, Option.bind_some, pBool_v, pTup_v, pAgg_v, aggOf_v, pSl_v, pInt_v, pI64, pU64, pU32, pU8, List.getElem?_cons_zero, List.getElem?_cons_succ, cells_v, cells_sl, cells_agg, isCell_v, isCell_sl, cnd_t, cnd_f, tt_and, ff_and, nt_t, nt_f, len1, len3, len5, len8, len10, hlen1, clen1, clen5]
  rw [pSlu_v]
  rfl
end Go.Proofs.YthpbjpnbafiipaaDoor.E
set_option linter.unusedVariables false
set_option linter.unusedSimpArgs false
namespace Go.Proofs.YthpbjpnbafiipaaDoor.E
/-! The reference's canonical writer: what an object looks like. -/
@[simp] theorem prsS_len : ∀ (q : List Nd) (i : Nat), (prsS i q).length = q.length
  | [], i => rfl
  | t :: r, i => by rw [prsS, List.length_cons, List.length_cons, prsS_len r]
section
variable (i3 i4 i5 : Int) (xs6 xs7 : List PV) (i8 i9 i10 i11 i12 i13 : Int) (b14 : Bool) (i15 i16 i17 i18 i19 i20 i22 i23 : Int) (b24 : Bool) (i25 i26 i27 : Int)
end
section
variable (i5 i6 i7 : Int) (xs8 : List PV) (i10 i11 i12 i13 i14 i15 : Int) (b16 : Bool) (i17 i18 i19 i20 i21 i22 i23 i24 i25 : Int) (b26 : Bool) (i27 i28 i29 : Int)
end
end Go.Proofs.YthpbjpnbafiipaaDoor.E
set_option linter.unusedVariables false
set_option linter.unusedSimpArgs false
namespace Go.Proofs.YthpbjpnbafiipaaDoor.E
/-! The canonical form as a message. -/
theorem canW_len {D : Nat} {x : Nd} (h : Ok D x) : ((canW D x).length : Int) = nodSz D x + 1 := by
  rw [canW, List.length_cons, ← body_len' h]; push_cast; rfl
theorem same_w_loop {a b : List Int} (hl : a.length = b.length) (ha : a.length ≤ 17592186044416) : ∀ (c i : Nat), i + c = a.length → a.take i = b.take i → capnpref01_SameWords_L0 (ws a) (ws b) i = ok (Bo (eqB a b)) := by
  intro c
  induction c with
  | zero =>
    intro i hi ht
    rw [capnpref01_SameWords_L0_eq, decide_eq_false (by simp; omega), eqB_t (by rw [List.take_of_length_le (by omega), List.take_of_length_le (by omega)] at ht; exact ht)]
    rfl
  | succ c ih =>
    intro i hi ht
    rw [capnpref01_SameWords_L0_eq, decide_eq_true (show (i : Int) < ((ws a).length : Int) by simp; omega), decide_eq_true (show 0 ≤ (i : Int) by omega), decide_eq_true (show (i : Int) < ((ws b).length : Int) by simp; omega)]
    dsimp only [callT_ret, callT_pan, onlyPV_v, Option.bind_some, pBool_v, pTup_v, pAgg_v, aggOf_v, pSl_v, pInt_v, pI64, pU64, pU32, pU8, List.getElem?_cons_zero, List.getElem?_cons_succ, cells_v, cells_sl, cells_agg, isCell_v, isCell_sl, cnd_t, cnd_f, tt_and, ff_and, nt_t, nt_f, len1, len3, len5, len8, len10, hlen1, clen1, clen5]
    rw [Int.toNat_natCast, ws_get (show i < a.length by omega), ws_get (show i < b.length by omega)]
    dsimp only [callT_ret, callT_pan, onlyPV_v, Option.bind_some, pBool_v, pTup_v, pAgg_v, aggOf_v, pSl_v, pInt_v, pI64, pU64, pU32, pU8, List.getElem?_cons_zero, List.getElem?_cons_succ, cells_v, cells_sl, cells_agg, isCell_v, isCell_sl, cnd_t, cnd_f, tt_and, ff_and, nt_t, nt_f, len1, len3, len5, len8, len10, hlen1, clen1, clen5]
    by_cases he : a[i]'(by omega) = b[i]'(by omega)
    · rw [show (a[i]'(by omega) != b[i]'(by omega)) = false from by simpa using he, w64 (x := (i : Int) + 1) (by omega)]
      refine ih (i + 1) (by omega) ?_
      rw [take_snoc (show i < a.length by omega), take_snoc (show i < b.length by omega), ht, he]
    · rw [bne_iff_ne.2 he, eqB_f (fun h => he (by subst h; rfl))]
      rfl
theorem V_SameWB {a b : List Int} (ha : a.length ≤ 17592186044416) (hb : b.length ≤ 17592186044416) : ev 30 [.pv (.sl 1 (ws a)), .pv (.sl 1 (ws b))] [] = ok (Bo (eqB a b)) := by
  rw [capnpref01_SameWords_eq, ws_len, ws_len]
  by_cases hl : a.length = b.length
  · rw [show ((a.length : Int) != (b.length : Int)) = false from by rw [hl]; simp]
    exact same_w_loop hl ha a.length 0 (by omega) (by rw [List.take_zero, List.take_zero])
  · rw [bne_iff_ne.2 (show (a.length : Int) ≠ (b.length : Int) by omega), eqB_f (fun h => hl (by rw [h]))]
    rfl
end Go.Proofs.YthpbjpnbafiipaaDoor.E
