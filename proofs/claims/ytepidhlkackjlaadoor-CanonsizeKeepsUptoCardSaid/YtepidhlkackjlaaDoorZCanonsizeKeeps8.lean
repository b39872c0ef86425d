/- This text is one of those that prove the law CanonsizeKeeps of the given program, as its statement says it: true on every input that the statement covers. Its conditions are the statement's own. -/
import Derived.Test.YtepidhlkackjlaaDoorZCanonsizeKeeps1
import Derived.Test.YtepidhlkackjlaaDoorZCanonsizeKeeps2
import Derived.Test.YtepidhlkackjlaaDoorZCanonsizeKeeps3
import Derived.Test.YtepidhlkackjlaaDoorZCanonsizeKeeps4
import Derived.Test.YtepidhlkackjlaaDoorZCanonsizeKeeps5
import Derived.Test.YtepidhlkackjlaaDoorZCanonsizeKeeps6
import Derived.Test.YtepidhlkackjlaaDoorZCanonsizeKeeps7
set_option linter.unusedVariables false
set_option linter.unusedSimpArgs false
set_option linter.unusedVariables false
set_option linter.unusedSimpArgs false
namespace Go.Proofs.YtepidhlkackjlaaDoor.E
/-! Segments. -/
/-- A range that is in bounds. -/
def inB (l : List (List Int)) (s a n : Int) : Prop := 0 ≤ s ∧ s < (l.length : Int) ∧ 0 ≤ a ∧ 0 ≤ n ∧ a + n ≤ ((rdL l s).length : Int)
instance (l : List (List Int)) (s a n : Int) : Decidable (inB l s a n) := by unfold inB; infer_instance
/-- The words of a range. -/
def cut (l : List (List Int)) (s a n : Int) : List Int := ((rdL l s).drop a.toNat).take n.toNat
end Go.Proofs.YtepidhlkackjlaaDoor.E
set_option linter.unusedVariables false
set_option linter.unusedSimpArgs false
namespace Go.Proofs.YtepidhlkackjlaaDoor.E
/-! Far pointers; the reference's words. -/
theorem rd_nat {l : List Int} {j : Nat} (h : j < l.length) : rd l (j : Int) = l[j] := by
  simp [rd, List.getD_eq_getElem?_getD, h]
def wd (l : List (List Int)) (s a : Int) : Int := rd (rdL l s) a
end Go.Proofs.YtepidhlkackjlaaDoor.E
set_option linter.unusedVariables false
set_option linter.unusedSimpArgs false
namespace Go.Proofs.YtepidhlkackjlaaDoor.E
/-! Objects. -/
/-- A located object: kind, segment, place, data words, pointers, element kind, number, cost. -/
structure Ob where
  kind : Int
  seg : Int
  at_ : Int
  data : Int
  ptrs : Int
  elem : Int
  n : Int
  cost : Int
  deriving DecidableEq
def Ob.c (o : Ob) : List PV := [I o.kind, I o.seg, I o.at_, I o.data, I o.ptrs, I o.elem, I o.n, I o.cost]
def bitsOf (e : Int) : Int := if e = 1 then 1 else if e = 2 then 8 else if e = 3 then 16 else if e = 4 then 32 else if e = 5 then 64 else if e = 6 then 64 else 0
theorem bitsOf_range (e : Int) : 0 ≤ bitsOf e ∧ bitsOf e ≤ 64 := by
  unfold bitsOf
  repeat' split
  all_goals omega
/-- Words of a list. -/
def wordsOf (e c : Int) : Int := if e = 7 then c + 1 else (bitsOf e * c + 63) / 64
theorem bits_mul {e c : Int} (hc : 0 ≤ c ∧ c ≤ 536870911) : 0 ≤ bitsOf e * c ∧ bitsOf e * c ≤ 64 * 536870911 := by
  have hb := bitsOf_range e
  exact ⟨Int.mul_nonneg hb.1 hc.1, Int.mul_le_mul hb.2 hc.2 hc.1 (by omega)⟩
theorem wordsOf_range {e c : Int} (hc : 0 ≤ c ∧ c ≤ 536870911) : 0 ≤ wordsOf e c ∧ wordsOf e c ≤ 536870912 := by
  have h := bits_mul (e := e) hc
  unfold wordsOf
  split <;> omega
theorem bits_tab {e : Int} (he : 0 ≤ e ∧ e ≤ 7) : ([I 0, I 1, I 8, I 16, I 32, I 64, I 64, I 0] : List PV)[e.toNat]? = some (I (bitsOf e)) := by
  obtain ⟨h1, h2⟩ := he
  have : e = 0 ∨ e = 1 ∨ e = 2 ∨ e = 3 ∨ e = 4 ∨ e = 5 ∨ e = 6 ∨ e = 7 := by omega
  rcases this with rfl | rfl | rfl | rfl | rfl | rfl | rfl | rfl <;> rfl
theorem V_Words {e c : Int} (he : 0 ≤ e ∧ e ≤ 7) (hc : 0 ≤ c ∧ c ≤ 536870911) : ev 24 [.pv (I e), .pv (I c)] [] = ok (I (wordsOf e c)) := by
  have h := bits_mul (e := e) hc
  rw [listsize_Words_eq]
  unfold wordsOf
  by_cases h7 : e = 7
  · simp [-getElem?_pos, List.getElem?_cons_zero, List.getElem?_cons_succ, cond_dec, cond_beq, cond_bne, cond_and, h7, w64 (x := c + 1) (by omega)]
  · have hb := bits_tab he
    simp only [I] at hb
    rw [show (0 + e.toNat * 1) = e.toNat by omega]
    simp only [hb, listsize_up_eq]
    rw [if_neg h7]
    simp [-getElem?_pos, List.getElem?_cons_zero, List.getElem?_cons_succ, cond_dec, cond_beq, cond_bne, cond_and, h7, he.1, show e < 8 by omega, okBin, w64 (x := bitsOf e * c) (by omega), w64 (x := bitsOf e * c + 64) (by omega), w64 (x := bitsOf e * c + 64 - 1) (by omega)]
    rw [Int.tdiv_eq_ediv_of_nonneg (by omega), w64 (by omega), show bitsOf e * c + 64 - 1 = bitsOf e * c + 63 by omega]
theorem V_rBits (e : Int) : ev 46 [.pv (I e)] [] = ok (I (bitsOf e)) := by
  rw [capnpref06_Bits_eq]
  unfold bitsOf
  simp only [cond_beq]
  repeat' split
  all_goals rfl
end Go.Proofs.YtepidhlkackjlaaDoor.E
set_option linter.unusedVariables false
set_option linter.unusedSimpArgs false
namespace Go.Proofs.YtepidhlkackjlaaDoor.E
/-! Words as bytes; the bytes of lists; budgets. -/
theorem roomy_ok {n b : Nat} (h : n * b ≤ 140737488355328) (h1 : n ≤ 140737488355328) : roomy n b = true := by simp [roomy, h, h1]
theorem bs_app (a b : List Int) : bs (a ++ b) = bs a ++ bs b := by simp [bs]
/-- Bytes of a list. -/
def bytesN (e c : Int) : Int := (bitsOf e * c + 7) / 8
theorem bytesN_range {e c : Int} (hc : 0 ≤ c ∧ c ≤ 536870911) : 0 ≤ bytesN e c ∧ bytesN e c ≤ 4294967296 := by
  have h := bits_mul (e := e) hc
  unfold bytesN
  omega
theorem V_rBytesN {e c : Int} (hc : 0 ≤ c ∧ c ≤ 536870911) : ev 38 [.pv (I e), .pv (I c)] [] = ok (I (bytesN e c)) := by
  have h := bits_mul (e := e) hc
  rw [capnpref06_Bytes_eq, V_rBits]
  dsimp only [callT_ret, callT_pan, onlyPV_v, Option.bind_some, pBool_v, pTup_v, pAgg_v, aggOf_v, pSl_v, pInt_v, pI64, pU64, pU32, pU8, List.getElem?_cons_zero, List.getElem?_cons_succ, cells_v, cells_sl, cells_agg, isCell_v, isCell_sl, cnd_t, cnd_f, tt_and, ff_and, nt_t, nt_f, len1, len3, len5, len8, len10, hlen1, clen1, clen5]
  rw [w64 (x := bitsOf e * c) (by omega), Int.tdiv_eq_ediv_of_nonneg (by omega), w64 (x := bitsOf e * c / 8) (by omega), w64 (x := bitsOf e * c / 8 * 8) (by omega), w64 (x := bitsOf e * c / 8 + 1) (by omega), cond_dec]
  unfold bytesN
  split
  · rw [show bitsOf e * c / 8 + 1 = (bitsOf e * c + 7) / 8 by omega]
  · rw [show bitsOf e * c / 8 = (bitsOf e * c + 7) / 8 by omega]
/-- The bytes of a list's elements: of bits, the last is cut. -/
def trimB (e c : Int) (b : List Int) : List Int :=
  if e = 1 ∧ 0 < c % 8 then b.take (bytesN e c - 1).toNat ++ [rd b (bytesN e c - 1) % 2 ^ (c % 8).toNat] else b.take (bytesN e c).toNat
theorem rtrim_pow (e c : Int) (l acc : List PV) (i x : Int) (keep : Nat) (hk : keep ≤ 7) (hx : Byte x) (hr : roomy (acc.length + 1) 1 = true) (hi : 0 ≤ i ∧ i ≤ 4294967296) : ∀ (d k : Nat), k + d = keep → capnpref06_Trim_L2 e c l acc i (U8 x) keep ((2 ^ k : Nat) : Int) k = capnpref06_Trim_L0 e c l (acc ++ [U8 (x % 2 ^ keep)]) (i + 1) := by
  intro d
  induction d with
  | zero =>
    intro k hkd
    obtain rfl : k = keep := by omega
    rw [capnpref06_Trim_L2_eq, decide_eq_false (by omega)]
    dsimp only [callT_ret, callT_pan, onlyPV_v, Option.bind_some, pBool_v, pTup_v, pAgg_v, aggOf_v, pSl_v, pInt_v, pI64, pU64, pU32, pU8, List.getElem?_cons_zero, List.getElem?_cons_succ, cells_v, cells_sl, cells_agg, isCell_v, isCell_sl, cnd_t, cnd_f, tt_and, ff_and, nt_t, nt_f, len1, len3, len5, len8, len10, hlen1, clen1, clen5]
    obtain ⟨x1, x2⟩ := hx
    have hp : 0 < 2 ^ k := Nat.pow_pos (by decide)
    rw [hr, show okBin .rem ((2 ^ k : Nat) : Int) = true by simp only [okBin, bne_iff_ne]; omega, w64 (x := x) (by omega), w64 (x := i + 1) (by omega), Int.tmod_eq_emod_of_nonneg x1, wu8_any]
    have h1 : 0 ≤ x % ((2 ^ k : Nat) : Int) := Int.emod_nonneg _ (by omega)
    have h3 : 2 ^ k ≤ 2 ^ 7 := Nat.pow_le_pow_right (by decide) hk
    have h2 : x % ((2 ^ k : Nat) : Int) < ((2 ^ k : Nat) : Int) := Int.emod_lt_of_pos _ (by omega)
    rw [Int.emod_eq_of_lt (b := 256) h1 (by omega)]
    push_cast
    rfl
  | succ d ih =>
    intro k hkd
    rw [capnpref06_Trim_L2_eq, decide_eq_true (by omega)]
    have h2 : 2 ^ (k + 1) ≤ 2 ^ 7 := Nat.pow_le_pow_right (by decide) (by omega)
    have e1 : ((2 ^ k : Nat) : Int) * 2 = ((2 ^ (k + 1) : Nat) : Int) := by rw [Nat.pow_succ]; push_cast; rfl
    rw [e1, w64_nat (n := 2 ^ (k + 1)) (by omega), w64 (x := (k : Int) + 1) (by omega)]
    exact ih (k + 1) (by omega)
theorem rtrim_loop {e c : Int} {b : List Int} (hc : 0 ≤ c ∧ c ≤ 536870911) (hb : ∀ x ∈ b, Byte x) (hn : bytesN e c ≤ b.length) : ∀ (d i : Nat), i + d = (bytesN e c).toNat → (d = 0 → e = 1 ∧ 0 < c % 8 → False) → capnpref06_Trim_L0 e c (bs b) (bs (b.take i)) i = ok (.sl 1 (bs (trimB e c b))) := by
  have hr := bytesN_range (e := e) hc
  intro d
  induction d with
  | zero =>
    intro i hi h0
    rw [capnpref06_Trim_L0_eq, V_rBytesN hc]
    dsimp only [callT_ret, callT_pan, onlyPV_v, Option.bind_some, pBool_v, pTup_v, pAgg_v, aggOf_v, pSl_v, pInt_v, pI64, pU64, pU32, pU8, List.getElem?_cons_zero, List.getElem?_cons_succ, cells_v, cells_sl, cells_agg, isCell_v, isCell_sl, cnd_t, cnd_f, tt_and, ff_and, nt_t, nt_f, len1, len3, len5, len8, len10, hlen1, clen1, clen5]
    rw [decide_eq_false (by omega)]
    unfold trimB
    rw [if_neg (h0 rfl)]
    obtain rfl : i = (bytesN e c).toNat := by omega
    rfl
  | succ d ih =>
    intro i hi h0
    have hil : i < b.length := by omega
    rw [capnpref06_Trim_L0_eq, V_rBytesN hc]
    dsimp only [callT_ret, callT_pan, onlyPV_v, Option.bind_some, pBool_v, pTup_v, pAgg_v, aggOf_v, pSl_v, pInt_v, pI64, pU64, pU32, pU8, List.getElem?_cons_zero, List.getElem?_cons_succ, cells_v, cells_sl, cells_agg, isCell_v, isCell_sl, cnd_t, cnd_f, tt_and, ff_and, nt_t, nt_f, len1, len3, len5, len8, len10, hlen1, clen1, clen5]
    rw [decide_eq_true (by omega), decide_eq_true (by omega), decide_eq_true (show (i : Int) < ((bs b).length : Int) by simp; omega)]
    have hg : (bs b)[(i : Int).toNat]? = some (U8 b[i]) := by rw [Int.toNat_natCast, bs_get hil]
    have hroom : roomy ((bs (b.take i)).length + 1) 1 = true := roomy_ok (by simp; omega) (by simp; omega)
    have hnext : bs (b.take i) ++ [U8 b[i]] = bs (b.take (i + 1)) := by rw [List.take_succ_eq_append_getElem hil, bs_app]; rfl
    dsimp only [callT_ret, callT_pan, onlyPV_v, Option.bind_some, pBool_v, pTup_v, pAgg_v, aggOf_v, pSl_v, pInt_v, pI64, pU64, pU32, pU8, List.getElem?_cons_zero, List.getElem?_cons_succ, cells_v, cells_sl, cells_agg, isCell_v, isCell_sl, cnd_t, cnd_f, tt_and, ff_and, nt_t, nt_f, len1, len3, len5, len8, len10, hlen1, clen1, clen5]
    rw [hg]
    dsimp only [callT_ret, callT_pan, onlyPV_v, Option.bind_some, pBool_v, pTup_v, pAgg_v, aggOf_v, pSl_v, pInt_v, pI64, pU64, pU32, pU8, List.getElem?_cons_zero, List.getElem?_cons_succ, cells_v, cells_sl, cells_agg, isCell_v, isCell_sl, cnd_t, cnd_f, tt_and, ff_and, nt_t, nt_f, len1, len3, len5, len8, len10, hlen1, clen1, clen5]
    rw [hroom, hnext, w64 (x := (i : Int) + 1) (by omega), w64 (x := 8 * (i : Int)) (by omega), w64 (x := 8 * (i : Int) + 8) (by omega), w64 (x := c - 8 * (i : Int)) (by omega)]
    by_cases hlast : e = 1 ∧ 8 * (i : Int) + 8 > c
    · obtain ⟨rfl, hgt⟩ := hlast
      have hbn : bytesN 1 c = (c + 7) / 8 := by unfold bytesN bitsOf; simp
      have hin : (i : Int) = bytesN 1 c - 1 := by omega
      have h8 : 0 < c % 8 := by omega
      have hkeep : c - 8 * (i : Int) = ((c % 8).toNat : Int) := by omega
      rw [show ((1 : Int) == 1) = true from rfl, decide_eq_true hgt]
      dsimp only [callT_ret, callT_pan, onlyPV_v, Option.bind_some, pBool_v, pTup_v, pAgg_v, aggOf_v, pSl_v, pInt_v, pI64, pU64, pU32, pU8, List.getElem?_cons_zero, List.getElem?_cons_succ, cells_v, cells_sl, cells_agg, isCell_v, isCell_sl, cnd_t, cnd_f, tt_and, ff_and, nt_t, nt_f, len1, len3, len5, len8, len10, hlen1, clen1, clen5]
      rw [hkeep]
      have hp := rtrim_pow 1 c (bs b) (bs (b.take i)) i b[i] (c % 8).toNat (by omega) (hb _ (List.getElem_mem hil)) hroom (by omega) (c % 8).toNat 0 (by omega)
      rw [show ((2 ^ 0 : Nat) : Int) = 1 from rfl, show ((0 : Nat) : Int) = 0 from rfl] at hp
      refine hp.trans ?_
      rw [capnpref06_Trim_L0_eq, V_rBytesN hc]
      dsimp only [callT_ret, callT_pan, onlyPV_v, Option.bind_some, pBool_v, pTup_v, pAgg_v, aggOf_v, pSl_v, pInt_v, pI64, pU64, pU32, pU8, List.getElem?_cons_zero, List.getElem?_cons_succ, cells_v, cells_sl, cells_agg, isCell_v, isCell_sl, cnd_t, cnd_f, tt_and, ff_and, nt_t, nt_f, len1, len3, len5, len8, len10, hlen1, clen1, clen5]
      rw [decide_eq_false (by omega)]
      unfold trimB
      rw [if_pos ⟨rfl, h8⟩]
      have hrd : rd b (bytesN 1 c - 1) = b[i] := by rw [← hin, rd_nat hil]
      rw [hrd, show (bytesN 1 c - 1).toNat = i by omega, bs_app]
      rfl
    · have hgo : ok (.sl 1 (bs (trimB e c b))) = capnpref06_Trim_L0 e c (bs b) (bs (b.take (i + 1))) ((i : Int) + 1) := (ih (i + 1) (by omega) (fun hd h1 => hlast ⟨h1.1, by
        obtain ⟨rfl, h8⟩ := h1
        have hbn : bytesN 1 c = (c + 7) / 8 := by unfold bytesN bitsOf; simp
        omega⟩)).symm
      rw [hgo]
      by_cases h1 : e = 1
      · have hle : ¬ 8 * (i : Int) + 8 > c := fun h => hlast ⟨h1, h⟩
        rw [beq_iff_eq.2 h1, decide_eq_false hle]
        rfl
      · rw [beq_eq_false_iff_ne.2 h1]
        rfl
theorem V_rTrim {e c : Int} {b : List Int} (hc : 0 ≤ c ∧ c ≤ 536870911) (hb : ∀ x ∈ b, Byte x) (hn : bytesN e c ≤ b.length) : ev 31 [.pv (I e), .pv (I c), .pv (.sl 1 (bs b))] [] = ok (.sl 1 (bs (trimB e c b))) := by
  rw [capnpref06_Trim_eq]
  have hr := bytesN_range (e := e) hc
  refine rtrim_loop hc hb hn (bytesN e c).toNat 0 (by omega) (fun h0 h1 => ?_)
  obtain ⟨rfl, h8⟩ := h1
  have hbn : bytesN 1 c = (c + 7) / 8 := by unfold bytesN bitsOf; simp
  omega
/-- An element of a composite list. -/
def elt (o : Ob) (i : Int) : Ob := ⟨1, o.seg, o.at_ + i * (o.data + o.ptrs), o.data, o.ptrs, 0, 0, 0⟩
end Go.Proofs.YtepidhlkackjlaaDoor.E
set_option linter.unusedVariables false
set_option linter.unusedSimpArgs false
namespace Go.Proofs.YtepidhlkackjlaaDoor.E
/-! Nodes: their trimmed forms. -/
inductive Nd where
  | mk (kind elem n : Int) (data : List Int) (kids : List Nd)
def Nd.kind : Nd → Int | .mk k _ _ _ _ => k
def Nd.elem : Nd → Int | .mk _ e _ _ _ => e
def Nd.n : Nd → Int | .mk _ _ n _ _ => n
def Nd.data : Nd → List Int | .mk _ _ _ d _ => d
def Nd.kids : Nd → List Nd | .mk _ _ _ _ ks => ks
def nd0 : Nd := .mk 0 0 0 [] []
theorem Nd.ind {P : Nd → Prop} (h : ∀ k e n d ks, (∀ x ∈ ks, P x) → P (.mk k e n d ks)) : ∀ x, P x
  | .mk k e n d ks => h k e n d ks fun x hx => Nd.ind h x
termination_by x => SizeOf.sizeOf x
decreasing_by
  have := List.sizeOf_lt_of_mem hx
  simp
  omega
mutual
def Nd.pv : Nd → PV
  | .mk k e n d ks => .agg [I k, I e, I n, .sl 1 (bs d), .sl 5 (pvs ks)]
def pvs : List Nd → List PV
  | [] => []
  | x :: l => x.pv :: pvs l
end
theorem pvs_eq : ∀ l : List Nd, pvs l = l.map Nd.pv
  | [] => rfl
  | x :: l => by rw [pvs, pvs_eq l]; rfl
def Nd.c (x : Nd) : List PV := [I x.kind, I x.elem, I x.n, .sl 1 (bs x.data), .sl 5 (pvs x.kids)]
theorem Nd.pv_c (x : Nd) : x.pv = .agg x.c := by cases x; rfl
theorem nd_cells (x : Nd) : x.pv.cells = x.c := by rw [Nd.pv_c]; rfl
@[simp] theorem pvs_len (l : List Nd) : (pvs l).length = l.length := by rw [pvs_eq]; simp
theorem pvs_get {l : List Nd} {i : Nat} (h : i < l.length) : (pvs l)[i]? = some l[i].pv := by rw [pvs_eq]; simp [h]
theorem pvs_app (a b : List Nd) : pvs (a ++ b) = pvs a ++ pvs b := by rw [pvs_eq, pvs_eq, pvs_eq, List.map_append]
mutual
def good : Nd → Prop
  | .mk k e n d ks => (d.length ≤ 17592186044416 ∧ (∀ b ∈ d, Byte b) ∧ ks.length ≤ 1073741824 ∧ (k = 1 → d.length % 8 = 0)) ∧ goods ks
def goods : List Nd → Prop
  | [] => True
  | x :: l => good x ∧ goods l
end
theorem goods_iff : ∀ {l : List Nd}, goods l ↔ ∀ x ∈ l, good x
  | [] => by simp [goods]
  | x :: l => by simp [goods, goods_iff (l := l)]
/-- How much of a list is left without what ends it. -/
def keptN {α : Type} (p : α → Bool) (l : List α) : Nat := (l.reverse.dropWhile p).length
theorem keptN_le {α : Type} (p : α → Bool) (l : List α) : keptN p l ≤ l.length := by
  unfold keptN
  have := (List.dropWhile_sublist p (l := l.reverse)).length_le
  simpa using this
theorem keptN_snoc {α : Type} (p : α → Bool) (l : List α) (x : α) : keptN p (l ++ [x]) = if p x then keptN p l else l.length + 1 := by
  unfold keptN
  rw [List.reverse_append]
  simp only [List.reverse_cons, List.reverse_nil, List.nil_append, List.singleton_append, List.dropWhile_cons]
  split <;> simp
def wordsT (d : List Int) : Nat := (keptN (· == 0) d + 7) / 8
def ptrsT (ks : List Nd) : Nat := keptN (fun x => x.kind == 0) ks
theorem take_snoc {α : Type} {l : List α} {i : Nat} (h : i < l.length) : l.take (i + 1) = l.take i ++ [l[i]] := List.take_succ_eq_append_getElem h
-- the program's
theorem nd_take5 (x : Nd) : PV.agg ((x.pv.cells.drop 0).take 5) = x.pv := by cases x; rfl
theorem nd_five (x : Nd) : decide (5 ≤ x.pv.cells.length) = true := by cases x; rfl
theorem rwords_loop {d : List Int} (hd : d.length ≤ 17592186044416) : ∀ (m i : Nat), i + m = d.length → capnpref11_Words_L0 (bs d) (wordsT (d.take i) : Nat) i = ok (I (wordsT d : Nat)) := by
  intro m
  induction m with
  | zero =>
    intro i hi
    obtain rfl : i = d.length := by omega
    rw [capnpref11_Words_L0_eq, decide_eq_false (by simp), List.take_length]
    rfl
  | succ m ih =>
    intro i hi
    have hil : i < d.length := by omega
    rw [capnpref11_Words_L0_eq, decide_eq_true (by simp; omega), decide_eq_true (by omega)]
    dsimp only [callT_ret, callT_pan, onlyPV_v, Option.bind_some, pBool_v, pTup_v, pAgg_v, aggOf_v, pSl_v, pInt_v, pI64, pU64, pU32, pU8, List.getElem?_cons_zero, List.getElem?_cons_succ, cells_v, cells_sl, cells_agg, isCell_v, isCell_sl, cnd_t, cnd_f, tt_and, ff_and, nt_t, nt_f, len1, len3, len5, len8, len10, hlen1, clen1, clen5]
    rw [Int.toNat_natCast, bs_get hil]
    dsimp only [callT_ret, callT_pan, onlyPV_v, Option.bind_some, pBool_v, pTup_v, pAgg_v, aggOf_v, pSl_v, pInt_v, pI64, pU64, pU32, pU8, List.getElem?_cons_zero, List.getElem?_cons_succ, cells_v, cells_sl, cells_agg, isCell_v, isCell_sl, cnd_t, cnd_f, tt_and, ff_and, nt_t, nt_f, len1, len3, len5, len8, len10, hlen1, clen1, clen5]
    have := ih (i + 1) (by omega)
    rw [Int.tdiv_eq_ediv_of_nonneg (by omega), w64 (x := (i : Int) / 8) (by omega), w64 (x := (i : Int) / 8 + 1) (by omega), w64 (x := (i : Int) + 1) (by omega), cond_bne]
    have hs : wordsT (d.take (i + 1)) = if d[i] = 0 then wordsT (d.take i) else i / 8 + 1 := by
      unfold wordsT
      rw [take_snoc hil, keptN_snoc]
      by_cases h0 : d[i] = 0
      · simp [h0]
      · simp [h0, show i ≤ d.length by omega]; omega
    rw [hs] at this
    split
    · rename_i h0
      rw [if_pos h0] at this
      exact this
    · rename_i h0
      rw [if_neg h0] at this
      rw [show (i : Int) / 8 + 1 = ((i / 8 + 1 : Nat) : Int) by push_cast; rfl]
      exact this
theorem V_rwords {d : List Int} (hd : d.length ≤ 17592186044416) : ev 34 [.pv (.sl 1 (bs d))] [] = ok (I (wordsT d : Nat)) := by
  rw [capnpref11_Words_eq]
  have := rwords_loop hd d.length 0 (by omega)
  rw [List.take_zero] at this
  exact this
theorem nd_cell0 (x : Nd) : x.pv.cells[0]? = some (I x.kind) := by cases x; rfl
theorem rptrs_loop {l : List Nd} (hl : l.length ≤ 1073741824) : ∀ (m i : Nat), i + m = l.length → capnpref11_Pointers_L0 (pvs l) (ptrsT (l.take i) : Nat) i = ok (I (ptrsT l : Nat)) := by
  intro m
  induction m with
  | zero =>
    intro i hi
    obtain rfl : i = l.length := by omega
    rw [capnpref11_Pointers_L0_eq, decide_eq_false (by simp), List.take_length]
    rfl
  | succ m ih =>
    intro i hi
    have hil : i < l.length := by omega
    rw [capnpref11_Pointers_L0_eq, decide_eq_true (by simp; omega), decide_eq_true (by omega)]
    dsimp only [callT_ret, callT_pan, onlyPV_v, Option.bind_some, pBool_v, pTup_v, pAgg_v, aggOf_v, pSl_v, pInt_v, pI64, pU64, pU32, pU8, List.getElem?_cons_zero, List.getElem?_cons_succ, cells_v, cells_sl, cells_agg, isCell_v, isCell_sl, cnd_t, cnd_f, tt_and, ff_and, nt_t, nt_f, len1, len3, len5, len8, len10, hlen1, clen1, clen5]
    rw [Int.toNat_natCast, pvs_get hil]
    dsimp only [callT_ret, callT_pan, onlyPV_v, Option.bind_some, pBool_v, pTup_v, pAgg_v, aggOf_v, pSl_v, pInt_v, pI64, pU64, pU32, pU8, List.getElem?_cons_zero, List.getElem?_cons_succ, cells_v, cells_sl, cells_agg, isCell_v, isCell_sl, cnd_t, cnd_f, tt_and, ff_and, nt_t, nt_f, len1, len3, len5, len8, len10, hlen1, clen1, clen5]
    rw [nd_cell0]
    dsimp only [callT_ret, callT_pan, onlyPV_v, Option.bind_some, pBool_v, pTup_v, pAgg_v, aggOf_v, pSl_v, pInt_v, pI64, pU64, pU32, pU8, List.getElem?_cons_zero, List.getElem?_cons_succ, cells_v, cells_sl, cells_agg, isCell_v, isCell_sl, cnd_t, cnd_f, tt_and, ff_and, nt_t, nt_f, len1, len3, len5, len8, len10, hlen1, clen1, clen5]
    have := ih (i + 1) (by omega)
    rw [w64 (x := (i : Int) + 1) (by omega), cond_bne]
    have hs : ptrsT (l.take (i + 1)) = if l[i].kind = 0 then ptrsT (l.take i) else i + 1 := by
      unfold ptrsT
      rw [take_snoc hil, keptN_snoc]
      by_cases h0 : l[i].kind = 0
      · simp [h0]
      · simp [h0, show i ≤ l.length by omega]
    rw [hs] at this
    split
    · rename_i h0
      rw [if_pos h0] at this
      exact this
    · rename_i h0
      rw [if_neg h0] at this
      exact this
theorem V_rptrs {l : List Nd} (hl : l.length ≤ 1073741824) : ev 35 [.pv (.sl 5 (pvs l))] [] = ok (I (ptrsT l : Nat)) := by
  rw [capnpref11_Pointers_eq]
  have := rptrs_loop hl l.length 0 (by omega)
  rw [List.take_zero] at this
  exact this
end Go.Proofs.YtepidhlkackjlaaDoor.E
set_option linter.unusedVariables false
set_option linter.unusedSimpArgs false
namespace Go.Proofs.YtepidhlkackjlaaDoor.E
/-! What a traversal computes. -/
/-- A meter that is well within. -/
def Mt (m : Int) : Prop := 0 ≤ m ∧ m ≤ 4611686018427387904
/-- A traversal's answer is well-formed. -/
def Fn (t : Nd × Int × Int) : Prop := Mt t.2.1 ∧ good t.1
theorem good0 : good nd0 := by unfold nd0; rw [good]; exact ⟨⟨by simp, by simp, by simp, by simp⟩, trivial⟩
end Go.Proofs.YtepidhlkackjlaaDoor.E
set_option linter.unusedVariables false
set_option linter.unusedSimpArgs false
namespace Go.Proofs.YtepidhlkackjlaaDoor.E
/-! The program's traversal. -/
/-- The reader's cells. -/
abbrev hp (l : List (List Int)) (d w b m : Int) : Heap := [[.pv (.sl 1 (sgs l)), .pv (I d), .pv (I w), .pv (I b), .pv (I m)]]
def Nd.x (x : Nd) : PV := .agg [I x.kind, I x.elem, I x.n, .sl 1 (bs x.data), .sl 5 (pvs x.kids)]
end Go.Proofs.YtepidhlkackjlaaDoor.E
set_option linter.unusedVariables false
set_option linter.unusedSimpArgs false
namespace Go.Proofs.YtepidhlkackjlaaDoor.E
/-! Messages: what Message and Measure answer. -/
def emp (l : List (List Int)) : Prop := 0 < l.length ∧ (rdL l 0).length = 0
instance (l : List (List Int)) : Decidable (emp l) := by unfold emp; infer_instance
theorem pv_x (x : Nd) : x.pv = x.x := by cases x; rfl
theorem same_loop {d : List Int} (hd : d.length ≤ 17592186044416) : ∀ (c i : Nat), i + c = d.length → capnpref01_Same_L0 (bs d) (bs d) i = ok (Bo true) := by
  intro c
  induction c with
  | zero => intro i hi; rw [capnpref01_Same_L0_eq, decide_eq_false (by simp; omega)]; rfl
  | succ c ih =>
    intro i hi
    rw [capnpref01_Same_L0_eq, decide_eq_true (show (i : Int) < ((bs d).length : Int) by simp; omega), decide_eq_true (show 0 ≤ (i : Int) by omega)]
    dsimp only [callT_ret, callT_pan, onlyPV_v, Option.bind_some, pBool_v, pTup_v, pAgg_v, aggOf_v, pSl_v, pInt_v, pI64, pU64, pU32, pU8, List.getElem?_cons_zero, List.getElem?_cons_succ, cells_v, cells_sl, cells_agg, isCell_v, isCell_sl, cnd_t, cnd_f, tt_and, ff_and, nt_t, nt_f, len1, len3, len5, len8, len10, hlen1, clen1, clen5]
    rw [Int.toNat_natCast, bs_get (by omega)]
    dsimp only [callT_ret, callT_pan, onlyPV_v, Option.bind_some, pBool_v, pTup_v, pAgg_v, aggOf_v, pSl_v, pInt_v, pI64, pU64, pU32, pU8, List.getElem?_cons_zero, List.getElem?_cons_succ, cells_v, cells_sl, cells_agg, isCell_v, isCell_sl, cnd_t, cnd_f, tt_and, ff_and, nt_t, nt_f, len1, len3, len5, len8, len10, hlen1, clen1, clen5]
    rw [show (d[i] != d[i]) = false from by simp, w64 (x := (i : Int) + 1) (by omega)]
    exact ih (i + 1) (by omega)
theorem equal_loop {l : List Nd} (hl : l.length ≤ 1073741824) (hv : ∀ x ∈ l, ev 14 [.pv x.pv, .pv x.pv] [] = ok (Bo true)) (a b c a' b' c' : Int) (x y : List PV) : ∀ (c0 i : Nat), i + c0 = l.length → capnpref10_Equal_L0 i a b c x (pvs l) a' b' c' y (pvs l) = ok (Bo true) := by
  intro c0
  induction c0 with
  | zero => intro i hi; rw [capnpref10_Equal_L0_eq, decide_eq_false (by simp; omega)]; rfl
  | succ c0 ih =>
    intro i hi
    have hil : i < l.length := by omega
    rw [capnpref10_Equal_L0_eq, decide_eq_true (show (i : Int) < ((pvs l).length : Int) by simp; omega), decide_eq_true (show 0 ≤ (i : Int) by omega)]
    dsimp only [callT_ret, callT_pan, onlyPV_v, Option.bind_some, pBool_v, pTup_v, pAgg_v, aggOf_v, pSl_v, pInt_v, pI64, pU64, pU32, pU8, List.getElem?_cons_zero, List.getElem?_cons_succ, cells_v, cells_sl, cells_agg, isCell_v, isCell_sl, cnd_t, cnd_f, tt_and, ff_and, nt_t, nt_f, len1, len3, len5, len8, len10, hlen1, clen1, clen5]
    rw [Int.toNat_natCast, pvs_get hil]
    dsimp only [callT_ret, callT_pan, onlyPV_v, Option.bind_some, pBool_v, pTup_v, pAgg_v, aggOf_v, pSl_v, pInt_v, pI64, pU64, pU32, pU8, List.getElem?_cons_zero, List.getElem?_cons_succ, cells_v, cells_sl, cells_agg, isCell_v, isCell_sl, cnd_t, cnd_f, tt_and, ff_and, nt_t, nt_f, len1, len3, len5, len8, len10, hlen1, clen1, clen5]
    rw [nd_five, nd_take5, hv _ (List.getElem_mem hil), w64 (x := (i : Int) + 1) (by omega)]
    exact ih (i + 1) (by omega)
theorem V_Equal_pv (x : Nd) : good x → ev 14 [.pv x.pv, .pv x.pv] [] = ok (Bo true) := by
  induction x using Nd.ind with
  | h k e n d ks ih =>
    intro hg
    rw [good, goods_iff] at hg
    obtain ⟨⟨hd, hb, hk, h8⟩, hks⟩ := hg
    rw [Nd.pv, capnpref10_Equal_eq, show (k != k) = false from by simp, show (e != e) = false from by simp, show (n != n) = false from by simp, capnpref01_Same_eq, show (((bs d).length : Int) != ((bs d).length : Int)) = false from by simp]
    dsimp only [callT_ret, callT_pan, onlyPV_v, Option.bind_some, pBool_v, pTup_v, pAgg_v, aggOf_v, pSl_v, pInt_v, pI64, pU64, pU32, pU8, List.getElem?_cons_zero, List.getElem?_cons_succ, cells_v, cells_sl, cells_agg, isCell_v, isCell_sl, cnd_t, cnd_f, tt_and, ff_and, nt_t, nt_f, len1, len3, len5, len8, len10, hlen1, clen1, clen5]
    have hsm : capnpref01_Same_L0 (bs d) (bs d) 0 = ok (Bo true) := same_loop hd d.length 0 (by omega)
    rw [hsm, show (((pvs ks).length : Int) != ((pvs ks).length : Int)) = false from by simp]
    dsimp only [callT_ret, callT_pan, onlyPV_v, Option.bind_some, pBool_v, pTup_v, pAgg_v, aggOf_v, pSl_v, pInt_v, pI64, pU64, pU32, pU8, List.getElem?_cons_zero, List.getElem?_cons_succ, cells_v, cells_sl, cells_agg, isCell_v, isCell_sl, cnd_t, cnd_f, tt_and, ff_and, nt_t, nt_f, len1, len3, len5, len8, len10, hlen1, clen1, clen5]
    exact equal_loop hk (fun x hx => ih x hx (hks x hx)) k e n k e n (bs d) (bs d) ks.length 0 (by omega)
theorem V_Equal {x : Nd} (h : good x) : ev 14 [.pv x.x, .pv x.x] [] = ok (Bo true) := by
  have := V_Equal_pv x h
  rwa [pv_x] at this
end Go.Proofs.YtepidhlkackjlaaDoor.E
set_option linter.unusedVariables false
set_option linter.unusedSimpArgs false
namespace Go.Proofs.YtepidhlkackjlaaDoor.E
/-! Layer 12: its fixed results, and the first law. -/
theorem V_SameR {d : List Int} (hd : d.length ≤ 17592186044416) : ev 25 [.pv (.sl 1 (bs d)), .pv (.sl 1 (bs d))] [] = ok (Bo true) := by
  rw [capnpref01_Same_eq, show (((bs d).length : Int) != ((bs d).length : Int)) = false from by simp]
  exact same_loop hd d.length 0 (by omega)
theorem q0 : ev 14 [.pv (.agg [I 0, I 0, I 0, .sl 1 [], .sl 5 []]), .pv (.agg [I 0, I 0, I 0, .sl 1 [], .sl 5 []])] [] = ok (Bo true) := V_Equal good0
theorem good_leaf : good (.mk 2 1 3 [7] []) := by rw [good]; exact ⟨⟨by simp, by intro b hb; simp at hb; unfold Byte; omega, by simp, fun h => absurd h (by decide)⟩, trivial⟩
theorem q1 : ev 14 [.pv (.agg [I 2, I 1, I 3, .sl 1 (bs [7]), .sl 5 []]), .pv (.agg [I 2, I 1, I 3, .sl 1 [U8 7], .sl 5 []])] [] = ok (Bo true) := V_Equal good_leaf
theorem q2 : ev 25 [.pv (.sl 1 (bs [7, 0, 0, 0, 0, 0, 0, 0])), .pv (.sl 1 [U8 7, U8 0, U8 0, U8 0, U8 0, U8 0, U8 0, U8 0])] [] = ok (Bo true) := V_SameR (by decide)
end Go.Proofs.YtepidhlkackjlaaDoor.E
set_option linter.unusedVariables false
set_option linter.unusedSimpArgs false
namespace Go.Proofs.YtepidhlkackjlaaDoor.E
/-! What a denotation is like. -/
/-- Trimmed. -/
inductive TrN : Nd → Prop
  | mk {k e n : Int} {d : List Int} {ks : List Nd} : (k = 1 → 8 * wordsT d = d.length ∧ ptrsT ks = ks.length) → (∀ x ∈ ks, TrN x) → TrN (.mk k e n d ks)
end Go.Proofs.YtepidhlkackjlaaDoor.E
set_option linter.unusedVariables false
set_option linter.unusedSimpArgs false
namespace Go.Proofs.YtepidhlkackjlaaDoor.E
/-! A denotation is well-formed, and as deep as its limit at most. -/
def tgt (x : Nd) : List Nd := if x.kind = 2 ∧ x.elem = 7 then x.kids.flatMap Nd.kids else x.kids
def Dp : Nat → Nd → Prop
  | 0, x => x.kind = 0
  | D + 1, x => x.kind = 0 ∨ ((tgt x).length ≤ 1073741824 ∧ ∀ y ∈ tgt x, Dp D y)
def Shp (k e n : Int) (d : List Int) (q : Nat) : Prop :=
  (k = 0 ∧ e = 0 ∧ n = 0 ∧ d.length = 0 ∧ q = 0) ∨ (k = 1 ∧ e = 0 ∧ n = 0 ∧ d.length % 8 = 0 ∧ d.length ≤ 524280 ∧ q ≤ 65535) ∨
  (k = 2 ∧ (0 ≤ n ∧ n ≤ 536870911) ∧ (0 ≤ e ∧ e ≤ 7) ∧ (6 ≤ e → d.length = 0 ∧ (q : Int) = n) ∧ (e < 6 → q = 0 ∧ (d.length : Int) = bytesN e n ∧ trimB e n d = d))
/-- Well-formed. -/
inductive VN : Nd → Prop
  | mk {k e n : Int} {d : List Int} {ks : List Nd} : (∀ x ∈ ks, VN x) → (k = 2 → e = 7 → ∀ x ∈ ks, x.kind = 1) → Shp k e n d ks.length → VN (.mk k e n d ks)
theorem vn0 : VN nd0 := .mk (fun x h => by cases h) (fun _ _ x h => by cases h) (.inl ⟨rfl, rfl, rfl, rfl, rfl⟩)
end Go.Proofs.YtepidhlkackjlaaDoor.E
set_option linter.unusedVariables false
set_option linter.unusedSimpArgs false
namespace Go.Proofs.YtepidhlkackjlaaDoor.E
/-! The reference's checks of a node; the law DenoteIsBounded. -/
theorem tgt_mk (k e n : Int) (d : List Int) (ks : List Nd) : tgt (.mk k e n d ks) = if k = 2 ∧ e = 7 then ks.flatMap Nd.kids else ks := rfl
theorem good_tgt {x : Nd} (hg : good x) : ∀ y ∈ tgt x, good y := by
  have kid : ∀ {x : Nd}, good x → ∀ y ∈ x.kids, good y := fun {x} h y hy => by
    cases x with
    | mk k e n d ks => rw [good, goods_iff] at h; exact h.2 y hy
  unfold tgt
  split
  · intro y hy
    obtain ⟨z, hz, hy⟩ := List.mem_flatMap.1 hy
    exact kid (kid hg z hz) y hy
  · exact kid hg
theorem cl5 (a b c d e : PV) : decide ((PV.agg [a, b, c, d, e]).cells.length = 5) = true := rfl
end Go.Proofs.YtepidhlkackjlaaDoor.E
set_option linter.unusedVariables false
set_option linter.unusedSimpArgs false
namespace Go.Proofs.YtepidhlkackjlaaDoor.E
/-! Sizes of canonical forms. -/
def uniD (l : List Nd) : Nat := l.foldr (fun x a => max (x.data.length / 8) a) 0
def uniP (l : List Nd) : Nat := l.foldr (fun x a => max x.kids.length a) 0
def objSz (x : Nd) : Int := if x.kind = 0 then 0 else if x.kind = 1 then ((x.data.length / 8 + x.kids.length : Nat) : Int) else if x.elem = 7 then 1 + x.n * ((uniD x.kids + uniP x.kids : Nat) : Int) else wordsOf x.elem x.n
def sumL (l : List Int) : Int := l.foldr (fun a b => a + b) 0
def nodSz : Nat → Nd → Int
  | 0, x => objSz x
  | D + 1, x => objSz x + sumL ((tgt x).map (nodSz D))
theorem sumL_app (a b : List Int) : sumL (a ++ b) = sumL a + sumL b := by
  unfold sumL
  induction a with
  | nil => simp
  | cons x a ih => simp only [List.cons_append, List.foldr_cons, ih]; omega
theorem sumL_nil : sumL [] = 0 := rfl
theorem sumL_cons (x : Int) (l : List Int) : sumL (x :: l) = x + sumL l := rfl
theorem sumL_nn {l : List Int} (h : ∀ x ∈ l, 0 ≤ x) : 0 ≤ sumL l := by
  induction l with
  | nil => exact Int.le_refl _
  | cons x l ih =>
    rw [sumL_cons]
    have := h x List.mem_cons_self
    have := ih fun y hy => h y (List.mem_cons_of_mem _ hy)
    omega
theorem uniD_le {l : List Nd} {b : Nat} (h : ∀ x ∈ l, x.data.length / 8 ≤ b) : uniD l ≤ b := by
  unfold uniD
  induction l with
  | nil => exact Nat.zero_le _
  | cons y l ih =>
    rw [List.foldr_cons]
    have := h y List.mem_cons_self
    have := ih fun x hx => h x (List.mem_cons_of_mem _ hx)
    omega
theorem uniP_le {l : List Nd} {b : Nat} (h : ∀ x ∈ l, x.kids.length ≤ b) : uniP l ≤ b := by
  unfold uniP
  induction l with
  | nil => exact Nat.zero_le _
  | cons y l ih =>
    rw [List.foldr_cons]
    have := h y List.mem_cons_self
    have := ih fun x hx => h x (List.mem_cons_of_mem _ hx)
    omega
theorem uniD_snoc (l : List Nd) (x : Nd) : uniD (l ++ [x]) = max (uniD l) (x.data.length / 8) := by
  unfold uniD
  induction l with
  | nil => simp
  | cons y l ih => simp only [List.cons_append, List.foldr_cons, ih]; omega
theorem uniP_snoc (l : List Nd) (x : Nd) : uniP (l ++ [x]) = max (uniP l) x.kids.length := by
  unfold uniP
  induction l with
  | nil => simp
  | cons y l ih => simp only [List.cons_append, List.foldr_cons, ih]; omega
-- the program's
theorem uni_loop {l : List Nd} (hl : l.length ≤ 1073741824) (hd : ∀ x ∈ l, x.data.length ≤ 17592186044416) (a b c : Int) (x y : List PV) : ∀ (c0 i : Nat), i + c0 = l.length → trim_Uniform_L0 (uniD (l.take i) : Nat) (uniP (l.take i) : Nat) (pvs l) l.length i a b c x y = ok (.tup [I (uniD l : Nat), I (uniP l : Nat)]) := by
  intro c0
  induction c0 with
  | zero =>
    intro i hi
    rw [trim_Uniform_L0_eq, decide_eq_false (by omega), List.take_of_length_le (by omega)]
    rfl
  | succ c0 ih =>
    intro i hi
    have hil : i < l.length := by omega
    have hdi := hd _ (List.getElem_mem hil)
    rw [trim_Uniform_L0_eq, decide_eq_true (show (i : Int) < (l.length : Int) by omega), decide_eq_true (show 0 ≤ (i : Int) by omega), decide_eq_true (show (i : Int) < ((pvs l).length : Int) by simp; omega)]
    dsimp only [callT_ret, callT_pan, onlyPV_v, Option.bind_some, pBool_v, pTup_v, pAgg_v, aggOf_v, pSl_v, pInt_v, pI64, pU64, pU32, pU8, List.getElem?_cons_zero, List.getElem?_cons_succ, cells_v, cells_sl, cells_agg, isCell_v, isCell_sl, cnd_t, cnd_f, tt_and, ff_and, nt_t, nt_f, len1, len3, len5, len8, len10, hlen1, clen1, clen5]
    rw [Int.toNat_natCast, pvs_get hil]
    dsimp only [callT_ret, callT_pan, onlyPV_v, Option.bind_some, pBool_v, pTup_v, pAgg_v, aggOf_v, pSl_v, pInt_v, pI64, pU64, pU32, pU8, List.getElem?_cons_zero, List.getElem?_cons_succ, cells_v, cells_sl, cells_agg, isCell_v, isCell_sl, cnd_t, cnd_f, tt_and, ff_and, nt_t, nt_f, len1, len3, len5, len8, len10, hlen1, clen1, clen5]
    rw [nd_five, nd_cells, show (l[i].c.drop 0).take 5 = l[i].c from rfl]
    dsimp only [Nd.c, callT_ret, callT_pan, onlyPV_v, Option.bind_some, pBool_v, pTup_v, pAgg_v, aggOf_v, pSl_v, pInt_v, pI64, pU64, pU32, pU8, List.getElem?_cons_zero, List.getElem?_cons_succ, cells_v, cells_sl, cells_agg, isCell_v, isCell_sl, cnd_t, cnd_f, tt_and, ff_and, nt_t, nt_f, len1, len3, len5, len8, len10, hlen1, clen1, clen5]
    rw [bs_len, pvs_len, Int.tdiv_eq_ediv_of_nonneg (by omega), w64 (x := (l[i].data.length : Int) / 8) (by omega), w64 (x := (i : Int) + 1) (by omega)]
    have h1 : (if (l[i].data.length : Int) / 8 > ((uniD (l.take i) : Nat) : Int) then (l[i].data.length : Int) / 8 else ((uniD (l.take i) : Nat) : Int)) = ((uniD (l.take (i + 1)) : Nat) : Int) := by
      rw [take_snoc hil, uniD_snoc]
      split <;> omega
    have h2 : (if (l[i].kids.length : Int) > ((uniP (l.take i) : Nat) : Int) then (l[i].kids.length : Int) else ((uniP (l.take i) : Nat) : Int)) = ((uniP (l.take (i + 1)) : Nat) : Int) := by
      rw [take_snoc hil, uniP_snoc]
      split <;> omega
    rw [h1, h2]
    exact ih (i + 1) (by omega)
theorem V_Uniform {x : Nd} (hl : x.kids.length ≤ 1073741824) (hd : ∀ y ∈ x.kids, y.data.length ≤ 17592186044416) : ev 23 [.pv x.x] [] = ok (.tup [I (uniD x.kids : Nat), I (uniP x.kids : Nat)]) := by
  rw [Nd.x, trim_Uniform_eq, pvs_len]
  exact uni_loop hl hd x.kind x.elem x.n (bs x.data) (pvs x.kids) x.kids.length 0 (by omega)
theorem good_len {x : Nd} (h : good x) : x.data.length ≤ 17592186044416 ∧ x.kids.length ≤ 1073741824 ∧ ∀ y ∈ x.kids, good y := by
  cases x with
  | mk k e n d ks =>
    rw [good, goods_iff] at h
    exact ⟨h.1.1, h.1.2.2.1, h.2⟩
theorem vn_shp {x : Nd} (h : VN x) : Shp x.kind x.elem x.n x.data x.kids.length ∧ (∀ y ∈ x.kids, VN y) := by
  cases h with
  | mk v1 v2 v3 => exact ⟨v3, v1⟩
theorem objSz_nn {x : Nd} (h : VN x) : 0 ≤ objSz x := by
  obtain ⟨hs, _⟩ := vn_shp h
  unfold objSz
  rcases hs with hs | hs | hs
  · rw [if_pos hs.1]; exact Int.le_refl _
  · rw [if_neg (by omega), if_pos hs.1]; omega
  · rw [if_neg (by omega), if_neg (by omega)]
    split
    · have := Int.mul_nonneg hs.2.1.1 (Int.natCast_nonneg (uniD x.kids + uniP x.kids))
      omega
    · exact (wordsOf_range hs.2.1).1
theorem V_Object13 {x : Nd} (hg : good x) (hv : VN x) (hb : objSz x ≤ 4611686018427387904) (hu : uniD x.kids + uniP x.kids ≤ 4611686018427387904) : ev 13 [.pv x.x] [] = ok (I (objSz x)) := by
  obtain ⟨hd, hk, hks⟩ := good_len hg
  obtain ⟨hs, _⟩ := vn_shp hv
  have hun := V_Uniform hk (fun y hy => (good_len (hks y hy)).1)
  rw [Nd.x] at hun ⊢
  rw [canonsize_Object_eq, bs_len, pvs_len]
  unfold objSz at hb ⊢
  rcases hs with hs | hs | hs
  · rw [beq_iff_eq.2 hs.1, if_pos hs.1]; rfl
  · rw [beq_eq_false_iff_ne.2 (show x.kind ≠ 0 by omega), beq_iff_eq.2 hs.1, if_neg (by omega), if_pos hs.1]
    dsimp only [callT_ret, callT_pan, onlyPV_v, Option.bind_some, pBool_v, pTup_v, pAgg_v, aggOf_v, pSl_v, pInt_v, pI64, pU64, pU32, pU8, List.getElem?_cons_zero, List.getElem?_cons_succ, cells_v, cells_sl, cells_agg, isCell_v, isCell_sl, cnd_t, cnd_f, tt_and, ff_and, nt_t, nt_f, len1, len3, len5, len8, len10, hlen1, clen1, clen5]
    rw [Int.tdiv_eq_ediv_of_nonneg (by omega), w64 (x := (x.data.length : Int) / 8) (by omega), w64 (by omega)]
    rw [show (x.data.length : Int) / 8 + (x.kids.length : Int) = ((x.data.length / 8 + x.kids.length : Nat) : Int) by omega]
  · rw [if_neg (by omega), if_neg (by omega)] at hb ⊢
    rw [beq_eq_false_iff_ne.2 (show x.kind ≠ 0 by omega), beq_eq_false_iff_ne.2 (show x.kind ≠ 1 by omega)]
    dsimp only [callT_ret, callT_pan, onlyPV_v, Option.bind_some, pBool_v, pTup_v, pAgg_v, aggOf_v, pSl_v, pInt_v, pI64, pU64, pU32, pU8, List.getElem?_cons_zero, List.getElem?_cons_succ, cells_v, cells_sl, cells_agg, isCell_v, isCell_sl, cnd_t, cnd_f, tt_and, ff_and, nt_t, nt_f, len1, len3, len5, len8, len10, hlen1, clen1, clen5]
    by_cases h7 : x.elem = 7
    · rw [if_pos h7] at hb ⊢
      rw [beq_iff_eq.2 h7]
      dsimp only [callT_ret, callT_pan, onlyPV_v, Option.bind_some, pBool_v, pTup_v, pAgg_v, aggOf_v, pSl_v, pInt_v, pI64, pU64, pU32, pU8, List.getElem?_cons_zero, List.getElem?_cons_succ, cells_v, cells_sl, cells_agg, isCell_v, isCell_sl, cnd_t, cnd_f, tt_and, ff_and, nt_t, nt_f, len1, len3, len5, len8, len10, hlen1, clen1, clen5]
      rw [hun]
      have hm := Int.mul_nonneg hs.2.1.1 (Int.natCast_nonneg (uniD x.kids + uniP x.kids))
      dsimp only [callT_ret, callT_pan, onlyPV_v, Option.bind_some, pBool_v, pTup_v, pAgg_v, aggOf_v, pSl_v, pInt_v, pI64, pU64, pU32, pU8, List.getElem?_cons_zero, List.getElem?_cons_succ, cells_v, cells_sl, cells_agg, isCell_v, isCell_sl, cnd_t, cnd_f, tt_and, ff_and, nt_t, nt_f, len1, len3, len5, len8, len10, hlen1, clen1, clen5]
      rw [w64 (x := ((uniD x.kids : Nat) : Int) + ((uniP x.kids : Nat) : Int)) (by omega), show ((uniD x.kids : Nat) : Int) + ((uniP x.kids : Nat) : Int) = ((uniD x.kids + uniP x.kids : Nat) : Int) by push_cast; rfl, w64 (x := x.n * ((uniD x.kids + uniP x.kids : Nat) : Int)) (by omega), w64 (by omega)]
    · rw [if_neg h7]
      rw [beq_eq_false_iff_ne.2 h7, V_Words hs.2.2.1 hs.2.1]
      rfl
end Go.Proofs.YtepidhlkackjlaaDoor.E
set_option linter.unusedVariables false
set_option linter.unusedSimpArgs false
namespace Go.Proofs.YtepidhlkackjlaaDoor.E
/-! Equality of nodes; the words of data. -/
noncomputable def eqB {α : Type} (x y : α) : Bool := @decide (x = y) (Classical.propDecidable _)
theorem eqB_t {α : Type} {x y : α} (h : x = y) : eqB x y = true := by unfold eqB; exact @decide_eq_true _ (Classical.propDecidable _) h
theorem eqB_f {α : Type} {x y : α} (h : ¬ x = y) : eqB x y = false := by unfold eqB; exact @decide_eq_false _ (Classical.propDecidable _) h
theorem eqB_iff {α β : Type} {x y : α} {u v : β} (h : x = y ↔ u = v) : eqB x y = eqB u v := by
  by_cases hx : x = y
  · rw [eqB_t hx, eqB_t (h.1 hx)]
  · rw [eqB_f hx, eqB_f (fun e => hx (h.2 e))]
theorem take_eq {α : Type} {a b : List α} {i : Nat} (ha : i < a.length) (hb : i < b.length) (h : a.take i = b.take i) (e : a[i] = b[i]) : a.take (i + 1) = b.take (i + 1) := by
  rw [take_snoc ha, take_snoc hb, h, e]
theorem same_loop2 {d d' : List Int} (hd : d.length ≤ 17592186044416) (hl : d.length = d'.length) : ∀ (c i : Nat), i + c = d.length → d.take i = d'.take i → capnpref01_Same_L0 (bs d) (bs d') i = ok (Bo (eqB d d')) := by
  intro c
  induction c with
  | zero =>
    intro i hi ht
    rw [List.take_of_length_le (by omega), List.take_of_length_le (by omega)] at ht
    rw [capnpref01_Same_L0_eq, decide_eq_false (by simp; omega), eqB_t ht]
    rfl
  | succ c ih =>
    intro i hi ht
    rw [capnpref01_Same_L0_eq, decide_eq_true (show (i : Int) < ((bs d).length : Int) by simp; omega), decide_eq_true (show 0 ≤ (i : Int) by omega), decide_eq_true (show (i : Int) < ((bs d').length : Int) by simp; omega)]
    dsimp only [callT_ret, callT_pan, onlyPV_v, Option.bind_some, pBool_v, pTup_v, pAgg_v, aggOf_v, pSl_v, pInt_v, pI64, pU64, pU32, pU8, List.getElem?_cons_zero, List.getElem?_cons_succ, cells_v, cells_sl, cells_agg, isCell_v, isCell_sl, cnd_t, cnd_f, tt_and, ff_and, nt_t, nt_f, len1, len3, len5, len8, len10, hlen1, clen1, clen5]
    rw [Int.toNat_natCast, bs_get (l := d) (by omega)]
    dsimp only [callT_ret, callT_pan, onlyPV_v, Option.bind_some, pBool_v, pTup_v, pAgg_v, aggOf_v, pSl_v, pInt_v, pI64, pU64, pU32, pU8, List.getElem?_cons_zero, List.getElem?_cons_succ, cells_v, cells_sl, cells_agg, isCell_v, isCell_sl, cnd_t, cnd_f, tt_and, ff_and, nt_t, nt_f, len1, len3, len5, len8, len10, hlen1, clen1, clen5]
    rw [bs_get (l := d') (by omega)]
    dsimp only [callT_ret, callT_pan, onlyPV_v, Option.bind_some, pBool_v, pTup_v, pAgg_v, aggOf_v, pSl_v, pInt_v, pI64, pU64, pU32, pU8, List.getElem?_cons_zero, List.getElem?_cons_succ, cells_v, cells_sl, cells_agg, isCell_v, isCell_sl, cnd_t, cnd_f, tt_and, ff_and, nt_t, nt_f, len1, len3, len5, len8, len10, hlen1, clen1, clen5]
    by_cases he : d[i] = d'[i]
    · rw [show (d[i] != d'[i]) = false from by simpa using he, w64 (x := (i : Int) + 1) (by omega)]
      exact ih (i + 1) (by omega) (take_eq (by omega) (by omega) ht he)
    · rw [bne_iff_ne.2 he, eqB_f (fun h => he (by subst h; rfl))]
      rfl
theorem V_SameB {d d' : List Int} (hd : d.length ≤ 17592186044416) (hd' : d'.length ≤ 17592186044416) : ev 25 [.pv (.sl 1 (bs d)), .pv (.sl 1 (bs d'))] [] = ok (Bo (eqB d d')) := by
  rw [capnpref01_Same_eq, bs_len, bs_len]
  by_cases hl : d.length = d'.length
  · rw [show ((d.length : Int) != (d'.length : Int)) = false from by simp; omega]
    exact same_loop2 hd hl d.length 0 (by omega) (by rw [List.take_zero, List.take_zero])
  · rw [show ((d.length : Int) != (d'.length : Int)) = true from by simp; omega, eqB_f (fun h => hl (by rw [h]))]
    rfl
theorem equal_loop2 {l l' : List Nd} (hl : l.length ≤ 1073741824) (he : l.length = l'.length) (hv : ∀ x ∈ l, ∀ y ∈ l', ev 14 [.pv x.pv, .pv y.pv] [] = ok (Bo (eqB x y))) (a b c a' b' c' : Int) (x y : List PV) : ∀ (c0 i : Nat), i + c0 = l.length → l.take i = l'.take i → capnpref10_Equal_L0 i a b c x (pvs l) a' b' c' y (pvs l') = ok (Bo (eqB l l')) := by
  intro c0
  induction c0 with
  | zero =>
    intro i hi ht
    rw [List.take_of_length_le (by omega), List.take_of_length_le (by omega)] at ht
    rw [capnpref10_Equal_L0_eq, decide_eq_false (by simp; omega), eqB_t ht]
    rfl
  | succ c0 ih =>
    intro i hi ht
    have hil : i < l.length := by omega
    have hil' : i < l'.length := by omega
    rw [capnpref10_Equal_L0_eq, decide_eq_true (show (i : Int) < ((pvs l).length : Int) by simp; omega), decide_eq_true (show 0 ≤ (i : Int) by omega), decide_eq_true (show (i : Int) < ((pvs l').length : Int) by simp; omega)]
    dsimp only [callT_ret, callT_pan, onlyPV_v, Option.bind_some, pBool_v, pTup_v, pAgg_v, aggOf_v, pSl_v, pInt_v, pI64, pU64, pU32, pU8, List.getElem?_cons_zero, List.getElem?_cons_succ, cells_v, cells_sl, cells_agg, isCell_v, isCell_sl, cnd_t, cnd_f, tt_and, ff_and, nt_t, nt_f, len1, len3, len5, len8, len10, hlen1, clen1, clen5]
    rw [Int.toNat_natCast, pvs_get hil, pvs_get hil']
    dsimp only [callT_ret, callT_pan, onlyPV_v, Option.bind_some, pBool_v, pTup_v, pAgg_v, aggOf_v, pSl_v, pInt_v, pI64, pU64, pU32, pU8, List.getElem?_cons_zero, List.getElem?_cons_succ, cells_v, cells_sl, cells_agg, isCell_v, isCell_sl, cnd_t, cnd_f, tt_and, ff_and, nt_t, nt_f, len1, len3, len5, len8, len10, hlen1, clen1, clen5]
    rw [nd_five, nd_five, nd_take5, nd_take5, hv _ (List.getElem_mem hil) _ (List.getElem_mem hil')]
    dsimp only [callT_ret, callT_pan, onlyPV_v, Option.bind_some, pBool_v, pTup_v, pAgg_v, aggOf_v, pSl_v, pInt_v, pI64, pU64, pU32, pU8, List.getElem?_cons_zero, List.getElem?_cons_succ, cells_v, cells_sl, cells_agg, isCell_v, isCell_sl, cnd_t, cnd_f, tt_and, ff_and, nt_t, nt_f, len1, len3, len5, len8, len10, hlen1, clen1, clen5]
    by_cases hx : l[i] = l'[i]
    · rw [eqB_t hx, w64 (x := (i : Int) + 1) (by omega)]
      exact ih (i + 1) (by omega) (take_eq hil hil' ht hx)
    · rw [eqB_f hx, eqB_f (fun h => hx (by subst h; rfl))]
      rfl
theorem V_EqualB_pv (x : Nd) : ∀ y : Nd, good x → good y → ev 14 [.pv x.pv, .pv y.pv] [] = ok (Bo (eqB x y)) := by
  induction x using Nd.ind with
  | h k e n d ks ih =>
    intro y hg hg'
    cases y with
    | mk k' e' n' d' ks' =>
    rw [good, goods_iff] at hg hg'
    obtain ⟨⟨hd, hb, hk, h8⟩, hks⟩ := hg
    obtain ⟨⟨hd', hb', hk', h8'⟩, hks'⟩ := hg'
    rw [Nd.pv, Nd.pv, capnpref10_Equal_eq]
    by_cases q1 : k = k'
    · by_cases q2 : e = e'
      · by_cases q3 : n = n'
        · rw [show (k != k') = false from by simpa using q1, show (e != e') = false from by simpa using q2, show (n != n') = false from by simpa using q3, V_SameB hd hd']
          dsimp only [callT_ret, callT_pan, onlyPV_v, Option.bind_some, pBool_v, pTup_v, pAgg_v, aggOf_v, pSl_v, pInt_v, pI64, pU64, pU32, pU8, List.getElem?_cons_zero, List.getElem?_cons_succ, cells_v, cells_sl, cells_agg, isCell_v, isCell_sl, cnd_t, cnd_f, tt_and, ff_and, nt_t, nt_f, len1, len3, len5, len8, len10, hlen1, clen1, clen5]
          by_cases q4 : d = d'
          · rw [eqB_t q4, pvs_len, pvs_len]
            dsimp only [callT_ret, callT_pan, onlyPV_v, Option.bind_some, pBool_v, pTup_v, pAgg_v, aggOf_v, pSl_v, pInt_v, pI64, pU64, pU32, pU8, List.getElem?_cons_zero, List.getElem?_cons_succ, cells_v, cells_sl, cells_agg, isCell_v, isCell_sl, cnd_t, cnd_f, tt_and, ff_and, nt_t, nt_f, len1, len3, len5, len8, len10, hlen1, clen1, clen5]
            by_cases q5 : ks.length = ks'.length
            · rw [show ((ks.length : Int) != (ks'.length : Int)) = false from by simp; omega]
              dsimp only [callT_ret, callT_pan, onlyPV_v, Option.bind_some, pBool_v, pTup_v, pAgg_v, aggOf_v, pSl_v, pInt_v, pI64, pU64, pU32, pU8, List.getElem?_cons_zero, List.getElem?_cons_succ, cells_v, cells_sl, cells_agg, isCell_v, isCell_sl, cnd_t, cnd_f, tt_and, ff_and, nt_t, nt_f, len1, len3, len5, len8, len10, hlen1, clen1, clen5]
              refine (equal_loop2 hk q5 (fun x hx y hy => ih x hx y (hks x hx) (hks' y hy)) k e n k' e' n' (bs d) (bs d') ks.length 0 (by omega) (by rw [List.take_zero, List.take_zero])).trans ?_
              rw [eqB_iff (x := ks) (y := ks') (u := Nd.mk k e n d ks) (v := Nd.mk k' e' n' d' ks') (by subst q1; subst q2; subst q3; subst q4; simp)]
            · rw [show ((ks.length : Int) != (ks'.length : Int)) = true from by simp; omega, eqB_f (fun h => q5 (by cases h; rfl))]
              rfl
          · rw [eqB_f q4, eqB_f (fun h => q4 (by cases h; rfl))]
            rfl
        · rw [show (k != k') = false from by simpa using q1, show (e != e') = false from by simpa using q2, show (n != n') = true from by simpa using q3, eqB_f (fun h => q3 (by cases h; rfl))]
          rfl
      · rw [show (k != k') = false from by simpa using q1, show (e != e') = true from by simpa using q2, eqB_f (fun h => q2 (by cases h; rfl))]
        rfl
    · rw [show (k != k') = true from by simpa using q1, eqB_f (fun h => q1 (by cases h; rfl))]
      rfl
theorem V_EqualB {x y : Nd} (h : good x) (h' : good y) : ev 14 [.pv x.x, .pv y.x] [] = ok (Bo (eqB x y)) := by
  have := V_EqualB_pv x y h h'
  rwa [pv_x, pv_x] at this
-- data: words extended by zeros
end Go.Proofs.YtepidhlkackjlaaDoor.E
set_option linter.unusedVariables false
set_option linter.unusedSimpArgs false
namespace Go.Proofs.YtepidhlkackjlaaDoor.E
/-! What comparing in place looks at. -/
theorem vn_null {x : Nd} (h : VN x) (hk : x.kind = 0) : x = nd0 := by
  cases h with
  | mk v1 v2 v3 =>
    rename_i k e n d ks
    have hk' : k = 0 := hk
    rcases v3 with ⟨a1, a2, a3, a4, a5⟩ | ⟨a1, _⟩ | ⟨a1, _⟩
    · rw [a1, a2, a3, List.length_eq_zero_iff.1 a4, List.length_eq_zero_iff.1 a5]; rfl
    · omega
    · omega
end Go.Proofs.YtepidhlkackjlaaDoor.E
set_option linter.unusedVariables false
set_option linter.unusedSimpArgs false
namespace Go.Proofs.YtepidhlkackjlaaDoor.E
/-! Canonical forms: what is written, and what it denotes. -/
def w8i (b : List Int) : Int := b.getD 0 0 + 256 * b.getD 1 0 + 65536 * b.getD 2 0 + 16777216 * b.getD 3 0 + 4294967296 * b.getD 4 0 + 1099511627776 * b.getD 5 0 + 281474976710656 * b.getD 6 0 + 72057594037927936 * b.getD 7 0
/-- Words out of bytes. -/
def wrdN : Nat → List Int → List Int
  | 0, _ => []
  | n + 1, b => w8i b :: wrdN n (b.drop 8)
@[simp] theorem wrdN_len : ∀ (n : Nat) (b : List Int), (wrdN n b).length = n
  | 0, _ => rfl
  | n + 1, b => by simp [wrdN, wrdN_len n]
def encS (off : Int) (d q : Nat) : Int := off % 1073741824 * 4 + d * 4294967296 + q * 281474976710656
def encL (off e c : Int) : Int := off % 1073741824 * 4 + 1 + e * 4294967296 + c * 34359738368
def uni (x : Nd) : Nat := uniD x.kids + uniP x.kids
/-- The pointer to a node. -/
def ptrI (x : Nd) (off : Int) : Int :=
  if x.kind = 0 then 0 else if x.kind = 1 then (if x.data.length / 8 = 0 ∧ x.kids.length = 0 then encS (-1) 0 0 else encS off (x.data.length / 8) x.kids.length)
  else if x.elem = 7 then encL off 7 (x.n * (uni x : Nat)) else encL off x.elem x.n
def ptrW (B : Nd → List Int) : Nat → Nat → List Nd → List Int
  | _, _, [] => []
  | i, pos, t :: r => ptrI t ((pos : Int) - i - 1) :: ptrW B (i + 1) (pos + (B t).length) r
def blen (B : Nd → List Int) (ts : List Nd) : Nat := (ts.flatMap B).length
def asmC (B : Nd → List Int) (a b : Nat) : Nat → Nat → List Nd → List Int
  | _, _, [] => []
  | i, pos, k :: r => (wrdN a k.data ++ (ptrW B (i + a) pos k.kids ++ List.replicate (b - k.kids.length) 0)) ++ asmC B a b (i + (a + b)) (pos + blen B k.kids) r
/-- An object's words. -/
def obW (B : Nd → List Int) (x : Nd) : List Int :=
  if x.kind = 1 then wrdN (x.data.length / 8) x.data ++ ptrW B (x.data.length / 8) (x.data.length / 8 + x.kids.length) x.kids
  else if x.elem = 7 then encS x.n (uniD x.kids) (uniP x.kids) :: asmC B (uniD x.kids) (uniP x.kids) 1 (1 + x.kids.length * uni x) x.kids
  else if x.elem = 6 then ptrW B 0 x.kids.length x.kids
  else wrdN (wordsOf x.elem x.n).toNat x.data
/-- The words of a node and of what it refers to. -/
def body : Nat → Nd → List Int
  | 0, _ => []
  | D + 1, x => if x.kind = 0 then [] else obW (body D) x ++ (tgt x).flatMap (body D)
@[simp] theorem ptrW_len (B : Nd → List Int) : ∀ (i pos : Nat) (l : List Nd), (ptrW B i pos l).length = l.length
  | _, _, [] => rfl
  | i, pos, t :: r => by simp [ptrW, ptrW_len B]
theorem vn_tgt {x : Nd} (hv : VN x) : ∀ t ∈ tgt x, VN t := by
  obtain ⟨_, hk⟩ := vn_shp hv
  intro t ht
  unfold tgt at ht
  split at ht
  · obtain ⟨k, hk1, hk2⟩ := List.mem_flatMap.1 ht
    exact (vn_shp (hk k hk1)).2 t hk2
  · exact hk t ht
theorem objSz_null {x : Nd} (h : x.kind = 0) : objSz x = 0 := by unfold objSz; rw [if_pos h]
theorem tgt_null {x : Nd} (hv : VN x) (h : x.kind = 0) : tgt x = [] := by rw [vn_null hv h]; rfl
theorem nodSz_null {x : Nd} (hv : VN x) (h : x.kind = 0) : ∀ D, nodSz D x = 0
  | 0 => objSz_null h
  | D + 1 => by rw [nodSz, tgt_null hv h, objSz_null h]; rfl
end Go.Proofs.YtepidhlkackjlaaDoor.E
set_option linter.unusedVariables false
set_option linter.unusedSimpArgs false
namespace Go.Proofs.YtepidhlkackjlaaDoor.E
/-! What a canonical form denotes. -/
def At (W : List Int) (p : Nat) (L : List Int) : Prop := ∃ A C, W = A ++ (L ++ C) ∧ A.length = p
theorem At.app {W L M : List Int} {p : Nat} (h : At W p (L ++ M)) : At W p L ∧ At W (p + L.length) M := by
  obtain ⟨A, C, rfl, rfl⟩ := h
  exact ⟨⟨A, M ++ C, by simp, rfl⟩, ⟨A ++ L, C, by simp, by simp⟩⟩
theorem At.len {W L : List Int} {p : Nat} (h : At W p L) : p + L.length ≤ W.length := by
  obtain ⟨A, C, rfl, rfl⟩ := h
  simp
theorem rdL_one (W : List Int) : rdL [W] 0 = W := rfl
theorem At.inB {W L : List Int} {p : Nat} (h : At W p L) {n : Int} (hn : n = L.length) : inB [W] 0 p n := by
  have := h.len
  refine ⟨Int.le_refl _, by simp, by omega, by omega, ?_⟩
  rw [rdL_one]
  omega
theorem At.cons {W L : List Int} {x : Int} {p : Nat} (h : At W p (x :: L)) : wd [W] 0 p = x ∧ E.inB [W] 0 p 1 ∧ At W (p + 1) L := by
  have h1 : At W p ([x] ++ L) := h
  obtain ⟨a1, a2⟩ := h1.app
  refine ⟨?_, a1.inB rfl, a2⟩
  obtain ⟨A, C, rfl, rfl⟩ := h
  unfold wd rd
  rw [rdL_one, List.getD_eq_getElem?_getD]
  simp
/-- What the traversal of a canonical form costs. -/
def ownC (x : Nd) : Int := objSz x + (if x.kind = 2 ∧ x.elem = 7 ∧ uni x = 0 then x.n else 0)
def cstN : Nat → Nd → Int
  | 0, _ => 0
  | D + 1, x => if x.kind = 0 then 0 else ownC x + sumL ((tgt x).map (cstN D))
theorem ownC_nn {x : Nd} (hv : VN x) : 0 ≤ ownC x := by
  have := objSz_nn hv
  obtain ⟨hs, _⟩ := vn_shp hv
  unfold ownC
  split
  · rename_i h
    rcases hs with hs | hs | hs
    · omega
    · omega
    · omega
  · omega
theorem cstN_nn : ∀ (D : Nat) {x : Nd}, VN x → 0 ≤ cstN D x
  | 0, x, _ => Int.le_refl _
  | D + 1, x, hv => by
    rw [cstN]
    split
    · exact Int.le_refl _
    · have := ownC_nn hv
      have := sumL_nn (l := (tgt x).map (cstN D)) fun y hy => by
        obtain ⟨t, ht, rfl⟩ := List.mem_map.1 hy
        exact cstN_nn D (vn_tgt hv t ht)
      omega
/-- A node that may be written. -/
structure Ok (D : Nat) (t : Nd) : Prop where
  vn : VN t
  tr : TrN t
  gd : good t
  dp : Dp D t
section
variable {W : List Int} {F : Int → Int → Int → Nd × Int × Int} {B : Nd → List Int} {c : Nd → Int} {Q : Nd → Prop}
end
end Go.Proofs.YtepidhlkackjlaaDoor.E
set_option linter.unusedVariables false
set_option linter.unusedSimpArgs false
namespace Go.Proofs.YtepidhlkackjlaaDoor.E
/-! The canonical form denotes the node. -/
theorem sumL_flat (c : Nd → Int) : ∀ l : List Nd, sumL ((l.flatMap Nd.kids).map c) = sumL (l.map fun k => sumL (k.kids.map c))
  | [] => rfl
  | k :: l => by rw [List.flatMap_cons, List.map_append, sumL_app, List.map_cons, sumL_cons, sumL_flat c l]
end Go.Proofs.YtepidhlkackjlaaDoor.E
set_option linter.unusedVariables false
set_option linter.unusedSimpArgs false
namespace Go.Proofs.YtepidhlkackjlaaDoor.E
/-! A canonical form costs no more than the message. -/
theorem nodSz_le : ∀ (D : Nat) {x : Nd}, VN x → Dp D x → nodSz D x ≤ cstN D x
  | 0, x, hv, hd => by
    have h0 : x.kind = 0 := hd
    rw [nodSz_null hv h0]
    exact Int.le_refl _
  | D + 1, x, hv, hd => by
    by_cases h0 : x.kind = 0
    · rw [nodSz_null hv h0]
      exact cstN_nn (D + 1) hv
    · have hd' := (hd.resolve_left h0).2
      rw [nodSz, cstN, if_neg h0]
      have h1 : objSz x ≤ ownC x := by
        unfold ownC
        split
        · rename_i h
          obtain ⟨hs, _⟩ := vn_shp hv
          rcases hs with hs | hs | hs <;> omega
        · omega
      have h2 : ∀ l : List Nd, (∀ t ∈ l, nodSz D t ≤ cstN D t) → sumL (l.map (nodSz D)) ≤ sumL (l.map (cstN D)) := by
        intro l
        induction l with
        | nil => intro _; exact Int.le_refl _
        | cons t l ih =>
          intro h
          rw [List.map_cons, List.map_cons, sumL_cons, sumL_cons]
          have := h t List.mem_cons_self
          have := ih fun x hx => h x (List.mem_cons_of_mem _ hx)
          omega
      have := h2 (tgt x) fun t ht => nodSz_le D (vn_tgt hv t ht) (hd' t ht)
      omega
end Go.Proofs.YtepidhlkackjlaaDoor.E
set_option linter.unusedVariables false
set_option linter.unusedSimpArgs false
namespace Go.Proofs.YtepidhlkackjlaaDoor.E
/-! The program's sizes of canonical forms. -/
def vh (s : Int) : Heap := [[.pv (I s)], [.clo (.func 22) [] [.ptr 0 0, .ptr 1 0]]]
theorem vsame : sameClo (.func 22) [] [.ptr 0 0, .ptr 1 0] (.clo (.func 22) [] [.ptr 0 0, .ptr 1 0]) = true := rfl
theorem hlen2 (a b : List AV) : decide ([a, b].length = 2) = true := rfl
def Vis (D : Nat) (t : Nd) : Prop := ∀ s : Int, 0 ≤ s → s + nodSz D t ≤ 4611686018427387904 → ev 22 [.pv t.x, .ptr 0 0, .ptr 1 0] (vh s) = some (.ret (.pv (.tup [])), vh (s + nodSz D t))
theorem nodSz_nn : ∀ (D : Nat) {x : Nd}, VN x → 0 ≤ nodSz D x
  | 0, x, hv => objSz_nn hv
  | D + 1, x, hv => by
    rw [nodSz]
    have := objSz_nn hv
    have := sumL_nn (l := (tgt x).map (nodSz D)) fun y hy => by
      obtain ⟨t, ht, rfl⟩ := List.mem_map.1 hy
      exact nodSz_nn D (vn_tgt hv t ht)
    omega
theorem drop_sum {f : Nd → Int} {l : List Nd} {i : Nat} (h : i < l.length) : sumL ((l.drop i).map f) = f l[i] + sumL ((l.drop (i + 1)).map f) := by
  rw [List.drop_eq_getElem_cons h, List.map_cons, sumL_cons]
theorem visit_in {D : Nat} {q : List Nd} (hq : q.length ≤ 1073741824) (hv : ∀ t ∈ q, Vis D t) (hn : ∀ t ∈ q, VN t) (ks : List PV) (i1 i2 i7 i8 i9 : Int) (xs10 xs11 : List PV) (c0 c1 c2 c3 c4 : PV) : ∀ (c j : Nat) (s : Int), j + c = q.length → 0 ≤ s → s + sumL ((q.drop j).map (nodSz D)) ≤ 4611686018427387904 →
    canonsize_Node_1_L2 ks i1 i2 (.sl 5 (pvs q)) q.length j (I s) i7 i8 i9 xs10 xs11 c0 c1 c2 c3 c4 = canonsize_Node_1_L0 ks i1 (IntKind.wrap .i64 (i2 + 1)) (I (s + sumL ((q.drop j).map (nodSz D)))) i7 i8 i9 xs10 xs11 := by
  intro c
  induction c with
  | zero =>
    intro j s hj h0 hs
    rw [canonsize_Node_1_L2_eq, decide_eq_false (by omega), List.drop_eq_nil_of_le (by omega)]
    simp [sumL_nil]
  | succ c ih =>
    intro j s hj h0 hs
    have hjl : j < q.length := by omega
    have hV := hv _ (List.getElem_mem hjl) s h0
    have hp := nodSz_nn D (hn _ (List.getElem_mem hjl))
    have hr : 0 ≤ sumL ((q.drop (j + 1)).map (nodSz D)) := sumL_nn fun y hy => by
      obtain ⟨t, ht, rfl⟩ := List.mem_map.1 hy
      exact nodSz_nn D (hn t (List.mem_of_mem_drop ht))
    rw [drop_sum hjl] at hs ⊢
    have hV' := hV (by omega)
    unfold vh at hV'
    dsimp only [Nd.x] at hV'
    rw [canonsize_Node_1_L2_eq, decide_eq_true (show (j : Int) < (q.length : Int) by omega)]
    dsimp only [callT_ret, callT_pan, onlyPV_v, Option.bind_some, pBool_v, pTup_v, pAgg_v, aggOf_v, pSl_v, pInt_v, pI64, pU64, pU32, pU8, List.getElem?_cons_zero, List.getElem?_cons_succ, cells_v, cells_sl, cells_agg, isCell_v, isCell_sl, cnd_t, cnd_f, tt_and, ff_and, nt_t, nt_f, len1, len3, len5, len8, len10, hlen1, clen1, clen5]
    rw [decide_eq_true (show (5 : Nat) = 5 from rfl), decide_eq_true (show 0 ≤ (j : Int) by omega), decide_eq_true (show (j : Int) < ((pvs q).length : Int) by simp; omega)]
    dsimp only [callT_ret, callT_pan, onlyPV_v, Option.bind_some, pBool_v, pTup_v, pAgg_v, aggOf_v, pSl_v, pInt_v, pI64, pU64, pU32, pU8, List.getElem?_cons_zero, List.getElem?_cons_succ, cells_v, cells_sl, cells_agg, isCell_v, isCell_sl, cnd_t, cnd_f, tt_and, ff_and, nt_t, nt_f, len1, len3, len5, len8, len10, hlen1, clen1, clen5]
    rw [Int.toNat_natCast, pvs_get hjl]
    dsimp only [callT_ret, callT_pan, onlyPV_v, Option.bind_some, pBool_v, pTup_v, pAgg_v, aggOf_v, pSl_v, pInt_v, pI64, pU64, pU32, pU8, List.getElem?_cons_zero, List.getElem?_cons_succ, cells_v, cells_sl, cells_agg, isCell_v, isCell_sl, cnd_t, cnd_f, tt_and, ff_and, nt_t, nt_f, len1, len3, len5, len8, len10, hlen1, clen1, clen5]
    rw [nd_five, nd_cells, show (q[j].c.drop 0).take 5 = q[j].c from rfl]
    dsimp only [Nd.c, callT_ret, callT_pan, onlyPV_v, Option.bind_some, pBool_v, pTup_v, pAgg_v, aggOf_v, pSl_v, pInt_v, pI64, pU64, pU32, pU8, List.getElem?_cons_zero, List.getElem?_cons_succ, cells_v, cells_sl, cells_agg, isCell_v, isCell_sl, cnd_t, cnd_f, tt_and, ff_and, nt_t, nt_f, len1, len3, len5, len8, len10, hlen1, clen1, clen5]
    rw [hV']
    dsimp only [callT_ret, callT_pan, onlyPV_v, Option.bind_some, pBool_v, pTup_v, pAgg_v, aggOf_v, pSl_v, pInt_v, pI64, pU64, pU32, pU8, List.getElem?_cons_zero, List.getElem?_cons_succ, cells_v, cells_sl, cells_agg, isCell_v, isCell_sl, cnd_t, cnd_f, tt_and, ff_and, nt_t, nt_f, len1, len3, len5, len8, len10, hlen1, clen1, clen5]
    rw [vsame, hlen2, w64 (x := (j : Int) + 1) (by omega)]
    dsimp only [callT_ret, callT_pan, onlyPV_v, Option.bind_some, pBool_v, pTup_v, pAgg_v, aggOf_v, pSl_v, pInt_v, pI64, pU64, pU32, pU8, List.getElem?_cons_zero, List.getElem?_cons_succ, cells_v, cells_sl, cells_agg, isCell_v, isCell_sl, cnd_t, cnd_f, tt_and, ff_and, nt_t, nt_f, len1, len3, len5, len8, len10, hlen1, clen1, clen5]
    have := ih (j + 1) (s + nodSz D q[j]) (by omega) (by omega) (by omega)
    rw [show s + (nodSz D q[j] + sumL ((q.drop (j + 1)).map (nodSz D))) = s + nodSz D q[j] + sumL ((q.drop (j + 1)).map (nodSz D)) by omega]
    exact this
theorem visit_plain {D : Nat} {ks : List Nd} (hq : ks.length ≤ 1073741824) (hv : ∀ t ∈ ks, Vis D t) (hn : ∀ t ∈ ks, VN t) (i4 i5 i6 : Int) (h7 : i5 ≠ 7) (xs7 xs8 : List PV) : ∀ (c j : Nat) (s : Int), j + c = ks.length → 0 ≤ s → s + sumL ((ks.drop j).map (nodSz D)) ≤ 4611686018427387904 →
    canonsize_Node_1_L0 (pvs ks) ks.length j (I s) i4 i5 i6 xs7 xs8 = some (.ret (.pv (.tup [])), vh (s + sumL ((ks.drop j).map (nodSz D)))) := by
  intro c
  induction c with
  | zero =>
    intro j s hj h0 hs
    rw [canonsize_Node_1_L0_eq, decide_eq_false (by omega), List.drop_eq_nil_of_le (by omega)]
    simp [sumL_nil, vh]
  | succ c ih =>
    intro j s hj h0 hs
    have hjl : j < ks.length := by omega
    have hV := hv _ (List.getElem_mem hjl) s h0
    have hp := nodSz_nn D (hn _ (List.getElem_mem hjl))
    have hr : 0 ≤ sumL ((ks.drop (j + 1)).map (nodSz D)) := sumL_nn fun y hy => by
      obtain ⟨t, ht, rfl⟩ := List.mem_map.1 hy
      exact nodSz_nn D (hn t (List.mem_of_mem_drop ht))
    rw [drop_sum hjl] at hs ⊢
    have hV' := hV (by omega)
    unfold vh at hV'
    dsimp only [Nd.x] at hV'
    rw [canonsize_Node_1_L0_eq, decide_eq_true (show (j : Int) < (ks.length : Int) by omega), decide_eq_true (show 0 ≤ (j : Int) by omega), decide_eq_true (show (j : Int) < ((pvs ks).length : Int) by simp; omega)]
    dsimp only [callT_ret, callT_pan, onlyPV_v, Option.bind_some, pBool_v, pTup_v, pAgg_v, aggOf_v, pSl_v, pInt_v, pI64, pU64, pU32, pU8, List.getElem?_cons_zero, List.getElem?_cons_succ, cells_v, cells_sl, cells_agg, isCell_v, isCell_sl, cnd_t, cnd_f, tt_and, ff_and, nt_t, nt_f, len1, len3, len5, len8, len10, hlen1, clen1, clen5]
    rw [Int.toNat_natCast, pvs_get hjl]
    dsimp only [callT_ret, callT_pan, onlyPV_v, Option.bind_some, pBool_v, pTup_v, pAgg_v, aggOf_v, pSl_v, pInt_v, pI64, pU64, pU32, pU8, List.getElem?_cons_zero, List.getElem?_cons_succ, cells_v, cells_sl, cells_agg, isCell_v, isCell_sl, cnd_t, cnd_f, tt_and, ff_and, nt_t, nt_f, len1, len3, len5, len8, len10, hlen1, clen1, clen5]
    rw [nd_five, nd_cells, show (ks[j].c.drop 0).take 5 = ks[j].c from rfl, show (i5 != 7) = true from by simpa using h7]
    dsimp only [Nd.c, callT_ret, callT_pan, onlyPV_v, Option.bind_some, pBool_v, pTup_v, pAgg_v, aggOf_v, pSl_v, pInt_v, pI64, pU64, pU32, pU8, List.getElem?_cons_zero, List.getElem?_cons_succ, cells_v, cells_sl, cells_agg, isCell_v, isCell_sl, cnd_t, cnd_f, tt_and, ff_and, nt_t, nt_f, len1, len3, len5, len8, len10, hlen1, clen1, clen5]
    rw [hV']
    dsimp only [callT_ret, callT_pan, onlyPV_v, Option.bind_some, pBool_v, pTup_v, pAgg_v, aggOf_v, pSl_v, pInt_v, pI64, pU64, pU32, pU8, List.getElem?_cons_zero, List.getElem?_cons_succ, cells_v, cells_sl, cells_agg, isCell_v, isCell_sl, cnd_t, cnd_f, tt_and, ff_and, nt_t, nt_f, len1, len3, len5, len8, len10, hlen1, clen1, clen5]
    rw [vsame, hlen2, w64 (x := (j : Int) + 1) (by omega)]
    dsimp only [callT_ret, callT_pan, onlyPV_v, Option.bind_some, pBool_v, pTup_v, pAgg_v, aggOf_v, pSl_v, pInt_v, pI64, pU64, pU32, pU8, List.getElem?_cons_zero, List.getElem?_cons_succ, cells_v, cells_sl, cells_agg, isCell_v, isCell_sl, cnd_t, cnd_f, tt_and, ff_and, nt_t, nt_f, len1, len3, len5, len8, len10, hlen1, clen1, clen5]
    have := ih (j + 1) (s + nodSz D ks[j]) (by omega) (by omega) (by omega)
    rw [show s + (nodSz D ks[j] + sumL ((ks.drop (j + 1)).map (nodSz D))) = s + nodSz D ks[j] + sumL ((ks.drop (j + 1)).map (nodSz D)) by omega]
    exact this
theorem visit_comp {D : Nat} {ks : List Nd} (hq : ks.length ≤ 1073741824) (hk : ∀ k ∈ ks, k.kids.length ≤ 1073741824) (hv : ∀ k ∈ ks, ∀ t ∈ k.kids, Vis D t) (hn : ∀ k ∈ ks, ∀ t ∈ k.kids, VN t) (i4 i6 : Int) (xs7 xs8 : List PV) : ∀ (c j : Nat) (s : Int), j + c = ks.length → 0 ≤ s → s + sumL ((ks.drop j).map fun k => sumL (k.kids.map (nodSz D))) ≤ 4611686018427387904 →
    canonsize_Node_1_L0 (pvs ks) ks.length j (I s) i4 7 i6 xs7 xs8 = some (.ret (.pv (.tup [])), vh (s + sumL ((ks.drop j).map fun k => sumL (k.kids.map (nodSz D))))) := by
  intro c
  induction c with
  | zero =>
    intro j s hj h0 hs
    rw [canonsize_Node_1_L0_eq, decide_eq_false (by omega), List.drop_eq_nil_of_le (by omega)]
    simp [sumL_nil, vh]
  | succ c ih =>
    intro j s hj h0 hs
    have hjl : j < ks.length := by omega
    have hmem := List.getElem_mem hjl
    have nn : ∀ k ∈ ks, 0 ≤ sumL (k.kids.map (nodSz D)) := fun k hk => sumL_nn fun y hy => by
      obtain ⟨t, ht, rfl⟩ := List.mem_map.1 hy
      exact nodSz_nn D (hn k hk t ht)
    have hp := nn _ hmem
    have hr : 0 ≤ sumL ((ks.drop (j + 1)).map fun k => sumL (k.kids.map (nodSz D))) := sumL_nn fun y hy => by
      obtain ⟨t, ht, rfl⟩ := List.mem_map.1 hy
      exact nn t (List.mem_of_mem_drop ht)
    rw [drop_sum hjl] at hs ⊢
    have hin := visit_in (hk _ hmem) (hv _ hmem) (hn _ hmem) (pvs ks) ks.length j i4 7 i6 xs7 xs8 (I ks[j].kind) (I ks[j].elem) (I ks[j].n) (.sl 1 (bs ks[j].data)) (.sl 5 (pvs ks[j].kids)) ks[j].kids.length 0 s (by omega) h0 (by rw [List.drop_zero]; omega)
    rw [List.drop_zero, w64 (x := (j : Int) + 1) (by omega)] at hin
    rw [canonsize_Node_1_L0_eq, decide_eq_true (show (j : Int) < (ks.length : Int) by omega), decide_eq_true (show 0 ≤ (j : Int) by omega), decide_eq_true (show (j : Int) < ((pvs ks).length : Int) by simp; omega)]
    dsimp only [callT_ret, callT_pan, onlyPV_v, Option.bind_some, pBool_v, pTup_v, pAgg_v, aggOf_v, pSl_v, pInt_v, pI64, pU64, pU32, pU8, List.getElem?_cons_zero, List.getElem?_cons_succ, cells_v, cells_sl, cells_agg, isCell_v, isCell_sl, cnd_t, cnd_f, tt_and, ff_and, nt_t, nt_f, len1, len3, len5, len8, len10, hlen1, clen1, clen5]
    rw [Int.toNat_natCast, pvs_get hjl]
    dsimp only [callT_ret, callT_pan, onlyPV_v, Option.bind_some, pBool_v, pTup_v, pAgg_v, aggOf_v, pSl_v, pInt_v, pI64, pU64, pU32, pU8, List.getElem?_cons_zero, List.getElem?_cons_succ, cells_v, cells_sl, cells_agg, isCell_v, isCell_sl, cnd_t, cnd_f, tt_and, ff_and, nt_t, nt_f, len1, len3, len5, len8, len10, hlen1, clen1, clen5]
    rw [nd_five, nd_cells, show (ks[j].c.drop 0).take 5 = ks[j].c from rfl, show ((7 : Int) != 7) = false from rfl]
    dsimp only [Nd.c, callT_ret, callT_pan, onlyPV_v, Option.bind_some, pBool_v, pTup_v, pAgg_v, aggOf_v, pSl_v, pInt_v, pI64, pU64, pU32, pU8, List.getElem?_cons_zero, List.getElem?_cons_succ, cells_v, cells_sl, cells_agg, isCell_v, isCell_sl, cnd_t, cnd_f, tt_and, ff_and, nt_t, nt_f, len1, len3, len5, len8, len10, hlen1, clen1, clen5]
    rw [pvs_len]
    refine hin.trans ?_
    have := ih (j + 1) (s + sumL (ks[j].kids.map (nodSz D))) (by omega) (by omega) (by omega)
    rw [show s + (sumL (ks[j].kids.map (nodSz D)) + sumL ((ks.drop (j + 1)).map fun k => sumL (k.kids.map (nodSz D)))) = s + sumL (ks[j].kids.map (nodSz D)) + sumL ((ks.drop (j + 1)).map fun k => sumL (k.kids.map (nodSz D))) by omega]
    exact this
theorem uni_small {x : Nd} (hg : good x) (hv : VN x) : uniD x.kids + uniP x.kids ≤ 4611686018427387904 := by
  obtain ⟨hd, hk, hks⟩ := good_len hg
  have := uniD_le (l := x.kids) (b := 17592186044416) fun y hy => by
    have := (good_len (hks y hy)).1
    omega
  have := uniP_le (l := x.kids) (b := 1073741824) fun y hy => (good_len (hks y hy)).2.1
  omega
theorem visit_ok : ∀ (D : Nat) (x : Nd), good x → VN x → Dp D x → Vis D x
  | D, x, hg, hv, hd => by
    intro s h0 hs
    have ho := objSz_nn hv
    obtain ⟨hgd, hgk, hgs⟩ := good_len hg
    have hob : objSz x ≤ nodSz D x := by
      cases D with
      | zero => exact Int.le_refl _
      | succ D =>
        rw [nodSz]
        have := sumL_nn (l := (tgt x).map (nodSz D)) fun y hy => by
          obtain ⟨t, ht, rfl⟩ := List.mem_map.1 hy
          exact nodSz_nn D (vn_tgt hv t ht)
        omega
    have hO := V_Object13 hg hv (by omega) (uni_small hg hv)
    dsimp only [Nd.x] at hO
    unfold vh
    rw [Nd.x, canonsize_Node_1_eq, hO, pvs_len]
    dsimp only [callT_ret, callT_pan, onlyPV_v, Option.bind_some, pBool_v, pTup_v, pAgg_v, aggOf_v, pSl_v, pInt_v, pI64, pU64, pU32, pU8, List.getElem?_cons_zero, List.getElem?_cons_succ, cells_v, cells_sl, cells_agg, isCell_v, isCell_sl, cnd_t, cnd_f, tt_and, ff_and, nt_t, nt_f, len1, len3, len5, len8, len10, hlen1, clen1, clen5]
    rw [w64 (x := s + objSz x) (by omega)]
    by_cases k0 : x.kind = 0
    · have := vn_null hv k0
      subst this
      have := visit_plain (D := D) (ks := []) (by simp) (fun t h => by cases h) (fun t h => by cases h) 0 0 0 (by decide) (bs []) (pvs []) 0 0 (s + objSz nd0) rfl (by omega) (by simp [sumL_nil]; omega)
      refine this.trans ?_
      rw [nodSz_null hv k0, objSz_null k0]
      simp [sumL_nil, vh]
    · cases D with
      | zero => exact absurd hd k0
      | succ D =>
        have hd' := (hd.resolve_left k0).2
        have hT : ∀ t ∈ tgt x, Vis D t := fun t ht => visit_ok D t (good_tgt hg t ht) (vn_tgt hv t ht) (hd' t ht)
        rw [nodSz] at hs ⊢
        by_cases h7 : x.kind = 2 ∧ x.elem = 7
        · have et : tgt x = x.kids.flatMap Nd.kids := if_pos h7
          rw [et, sumL_flat] at hs ⊢
          rw [et] at hT
          have := visit_comp (D := D) hgk (fun k hk => (good_len (hgs k hk)).2.1) (fun k hk t ht => hT t (List.mem_flatMap.2 ⟨k, hk, ht⟩)) (fun k hk t ht => vn_tgt hv t (by rw [et]; exact List.mem_flatMap.2 ⟨k, hk, ht⟩)) x.kind x.n (bs x.data) (pvs x.kids) x.kids.length 0 (s + objSz x) (by omega) (by omega) (by rw [List.drop_zero]; omega)
          rw [List.drop_zero] at this
          rw [h7.2]
          refine this.trans ?_
          unfold vh
          rw [show s + (objSz x + sumL (x.kids.map fun k => sumL (k.kids.map (nodSz D)))) = s + objSz x + sumL (x.kids.map fun k => sumL (k.kids.map (nodSz D))) by omega]
        · have et : tgt x = x.kids := if_neg h7
          have he7 : x.elem ≠ 7 := fun h => by
            obtain ⟨hs', _⟩ := vn_shp hv
            rcases hs' with h' | h' | h' <;> omega
          rw [et] at hs hT ⊢
          have := visit_plain (D := D) hgk hT (fun t ht => vn_tgt hv t (by rw [et]; exact ht)) x.kind x.elem x.n he7 (bs x.data) (pvs x.kids) x.kids.length 0 (s + objSz x) (by omega) (by omega) (by rw [List.drop_zero]; omega)
          rw [List.drop_zero] at this
          refine this.trans ?_
          unfold vh
          rw [show s + (objSz x + sumL (x.kids.map (nodSz D))) = s + objSz x + sumL (x.kids.map (nodSz D)) by omega]
theorem V_Node13 {D : Nat} {x : Nd} (hg : good x) (hv : VN x) (hd : Dp D x) (hb : nodSz D x ≤ 4611686018427387904) : ev 10 [.pv x.x] [] = ok (I (nodSz D x)) := by
  have h := visit_ok D x hg hv hd 0 (Int.le_refl _) (by omega)
  unfold vh at h
  dsimp only [Nd.x] at h
  rw [Nd.x, canonsize_Node_eq, h]
  dsimp only [callT_ret, callT_pan, onlyPV_v, Option.bind_some, pBool_v, pTup_v, pAgg_v, aggOf_v, pSl_v, pInt_v, pI64, pU64, pU32, pU8, List.getElem?_cons_zero, List.getElem?_cons_succ, cells_v, cells_sl, cells_agg, isCell_v, isCell_sl, cnd_t, cnd_f, tt_and, ff_and, nt_t, nt_f, len1, len3, len5, len8, len10, hlen1, clen1, clen5]
  rw [vsame, hlen2, Int.zero_add]
  rfl
theorem V_Total13 {D : Nat} {x : Nd} (hg : good x) (hv : VN x) (hd : Dp D x) (hb : nodSz D x ≤ 4611686018427387904) : ev 11 [.pv x.x] [] = ok (I (nodSz D x + 1)) := by
  have h := V_Node13 hg hv hd hb
  have hn := nodSz_nn D hv
  dsimp only [Nd.x] at h
  rw [Nd.x, canonsize_Total_eq, h]
  dsimp only [callT_ret, callT_pan, onlyPV_v, Option.bind_some, pBool_v, pTup_v, pAgg_v, aggOf_v, pSl_v, pInt_v, pI64, pU64, pU32, pU8, List.getElem?_cons_zero, List.getElem?_cons_succ, cells_v, cells_sl, cells_agg, isCell_v, isCell_sl, cnd_t, cnd_f, tt_and, ff_and, nt_t, nt_f, len1, len3, len5, len8, len10, hlen1, clen1, clen5]
  rw [w64 (by omega)]
end Go.Proofs.YtepidhlkackjlaaDoor.E
set_option linter.unusedVariables false
set_option linter.unusedSimpArgs false
namespace Go.Proofs.YtepidhlkackjlaaDoor.E
/-! The size of a denotation, and its cost. -/
def nB : Nd := .mk 2 2 9 [0, 0, 0, 0, 0, 0, 0, 0, 0] []
def nS : Nd := .mk 1 0 0 [1, 0, 0, 0, 0, 0, 0, 0] [nB]
def nE : Nd := .mk 1 0 0 [] []
def nC : Nd := .mk 2 7 2 [] [nS, nE]
def nV : Nd := .mk 2 0 1048576 [] []
theorem nB_ok : good nB ∧ VN nB := ⟨by rw [nB, good]; exact ⟨⟨by decide, (by intro b hb; simp at hb; unfold Byte; omega), by decide, by decide⟩, trivial⟩, .mk (fun x h => by cases h) (fun _ _ x h => by cases h) (.inr (.inr ⟨rfl, by decide, by decide, by decide, fun _ => ⟨rfl, rfl, rfl⟩⟩))⟩
theorem nE_ok : good nE ∧ VN nE := ⟨by rw [nE, good]; exact ⟨⟨by decide, (by intro b hb; cases hb), by decide, by decide⟩, trivial⟩, .mk (fun x h => by cases h) (fun _ _ x h => by cases h) (.inr (.inl ⟨rfl, rfl, rfl, rfl, by decide, by decide⟩))⟩
theorem nS_ok : good nS ∧ VN nS := ⟨by rw [nS, good]; exact ⟨⟨by decide, (by intro b hb; simp at hb; unfold Byte; omega), by decide, by decide⟩, nB_ok.1, trivial⟩, .mk (fun x h => by rw [List.mem_singleton.1 h]; exact nB_ok.2) (fun h => absurd h (by decide)) (.inr (.inl ⟨rfl, rfl, rfl, rfl, by decide, by decide⟩))⟩
theorem nC_ok : good nC ∧ VN nC := ⟨by rw [nC, good]; exact ⟨⟨by decide, (by intro b hb; cases hb), by decide, by decide⟩, nS_ok.1, nE_ok.1, trivial⟩, .mk (fun x h => by
    rcases List.mem_cons.1 h with rfl | h
    · exact nS_ok.2
    · rw [List.mem_singleton.1 h]; exact nE_ok.2) (fun _ _ x h => by
    rcases List.mem_cons.1 h with rfl | h
    · rfl
    · rw [List.mem_singleton.1 h]; rfl) (.inr (.inr ⟨rfl, by decide, by decide, fun _ => ⟨rfl, rfl⟩, fun h => absurd h (by decide)⟩))⟩
theorem nV_ok : good nV ∧ VN nV := ⟨by rw [nV, good]; exact ⟨⟨by decide, (by intro b hb; cases hb), by decide, by decide⟩, trivial⟩, .mk (fun x h => by cases h) (fun _ _ x h => by cases h) (.inr (.inr ⟨rfl, by decide, by decide, by decide, fun _ => ⟨rfl, rfl, rfl⟩⟩))⟩
theorem dp_leaf {x : Nd} (h : tgt x = []) : Dp 1 x := .inr (by rw [h]; exact ⟨by decide, fun y hy => by cases hy⟩)
theorem dS : Dp 2 nS := .inr ⟨by decide, fun y hy => by rw [List.mem_singleton.1 (show y ∈ [nB] from hy)]; exact dp_leaf rfl⟩
theorem dC : Dp 2 nC := .inr ⟨by decide, fun y hy => by rw [List.mem_singleton.1 (show y ∈ [nB] from hy)]; exact dp_leaf rfl⟩
theorem V_awake13 : ev 5 [] [] = ok (Bo true) := by
  have a1 := V_Object13 nS_ok.1 nS_ok.2 (by decide) (by decide)
  have a2 := V_Node13 nS_ok.1 nS_ok.2 dS (by decide)
  have a3 := V_Total13 nS_ok.1 nS_ok.2 dS (by decide)
  have a4 := V_Object13 nC_ok.1 nC_ok.2 (by decide) (by decide)
  have a5 := V_Node13 nC_ok.1 nC_ok.2 dC (by decide)
  have a6 := V_Node13 good0 vn0 (D := 0) rfl (by decide)
  have a7 := V_Total13 nV_ok.1 nV_ok.2 (D := 1) (dp_leaf rfl) (by decide)
  have a8 := V_Object13 nB_ok.1 nB_ok.2 (by decide) (by decide)
  rw [show objSz nS = 2 from rfl] at a1
  rw [show nodSz 2 nS = 4 from rfl] at a2 a3
  rw [show objSz nC = 5 from rfl] at a4
  rw [show nodSz 2 nC = 7 from rfl] at a5
  rw [show nodSz 0 nd0 = 0 from rfl] at a6
  rw [show nodSz 1 nV = 0 from rfl] at a7
  rw [show objSz nB = 2 from rfl] at a8
  dsimp only [nS, nB, nC, nE, nV, nd0, Nd.x, Nd.kind, Nd.elem, Nd.n, Nd.data, Nd.kids, bs, pvs, Nd.pv, List.map] at a1 a2 a3 a4 a5 a6 a7 a8
  rw [capnplaw13_awake_eq, a1]
  dsimp only [callT_ret, callT_pan, onlyPV_v, Option.bind_some, pBool_v, pTup_v, pAgg_v, aggOf_v, pSl_v, pInt_v, pI64, pU64, pU32, pU8, List.getElem?_cons_zero, List.getElem?_cons_succ, cells_v, cells_sl, cells_agg, isCell_v, isCell_sl, cnd_t, cnd_f, tt_and, ff_and, nt_t, nt_f, len1, len3, len5, len8, len10, hlen1, clen1, clen5]
  rw [a2]
  dsimp only [callT_ret, callT_pan, onlyPV_v, Option.bind_some, pBool_v, pTup_v, pAgg_v, aggOf_v, pSl_v, pInt_v, pI64, pU64, pU32, pU8, List.getElem?_cons_zero, List.getElem?_cons_succ, cells_v, cells_sl, cells_agg, isCell_v, isCell_sl, cnd_t, cnd_f, tt_and, ff_and, nt_t, nt_f, len1, len3, len5, len8, len10, hlen1, clen1, clen5]
  rw [a3]
  dsimp only [callT_ret, callT_pan, onlyPV_v, Option.bind_some, pBool_v, pTup_v, pAgg_v, aggOf_v, pSl_v, pInt_v, pI64, pU64, pU32, pU8, List.getElem?_cons_zero, List.getElem?_cons_succ, cells_v, cells_sl, cells_agg, isCell_v, isCell_sl, cnd_t, cnd_f, tt_and, ff_and, nt_t, nt_f, len1, len3, len5, len8, len10, hlen1, clen1, clen5]
  rw [a4]
  dsimp only [callT_ret, callT_pan, onlyPV_v, Option.bind_some, pBool_v, pTup_v, pAgg_v, aggOf_v, pSl_v, pInt_v, pI64, pU64, pU32, pU8, List.getElem?_cons_zero, List.getElem?_cons_succ, cells_v, cells_sl, cells_agg, isCell_v, isCell_sl, cnd_t, cnd_f, tt_and, ff_and, nt_t, nt_f, len1, len3, len5, len8, len10, hlen1, clen1, clen5]
  rw [a5]
  dsimp only [callT_ret, callT_pan, onlyPV_v, Option.bind_some, pBool_v, pTup_v, pAgg_v, aggOf_v, pSl_v, pInt_v, pI64, pU64, pU32, pU8, List.getElem?_cons_zero, List.getElem?_cons_succ, cells_v, cells_sl, cells_agg, isCell_v, isCell_sl, cnd_t, cnd_f, tt_and, ff_and, nt_t, nt_f, len1, len3, len5, len8, len10, hlen1, clen1, clen5]
  rw [a6]
  dsimp only [callT_ret, callT_pan, onlyPV_v, Option.bind_some, pBool_v, pTup_v, pAgg_v, aggOf_v, pSl_v, pInt_v, pI64, pU64, pU32, pU8, List.getElem?_cons_zero, List.getElem?_cons_succ, cells_v, cells_sl, cells_agg, isCell_v, isCell_sl, cnd_t, cnd_f, tt_and, ff_and, nt_t, nt_f, len1, len3, len5, len8, len10, hlen1, clen1, clen5]
  rw [a7]
  dsimp only [callT_ret, callT_pan, onlyPV_v, Option.bind_some, pBool_v, pTup_v, pAgg_v, aggOf_v, pSl_v, pInt_v, pI64, pU64, pU32, pU8, List.getElem?_cons_zero, List.getElem?_cons_succ, cells_v, cells_sl, cells_agg, isCell_v, isCell_sl, cnd_t, cnd_f, tt_and, ff_and, nt_t, nt_f, len1, len3, len5, len8, len10, hlen1, clen1, clen5]
  rw [a8]
  rfl
end Go.Proofs.YtepidhlkackjlaaDoor.E
set_option linter.unusedVariables false
set_option linter.unusedSimpArgs false
namespace Go.Proofs.YtepidhlkackjlaaDoor.E
/-! The canonical form as a message. -/
theorem nodSz_obj {D : Nat} {x : Nd} (hv : VN x) : objSz x ≤ nodSz D x := by
  cases D with
  | zero => exact Int.le_refl _
  | succ D =>
    rw [nodSz]
    have : 0 ≤ sumL ((tgt x).map (nodSz D)) := sumL_nn fun y hy => by
      obtain ⟨t, ht, rfl⟩ := List.mem_map.1 hy
      exact nodSz_nn D (vn_tgt hv t ht)
    omega
end Go.Proofs.YtepidhlkackjlaaDoor.E
