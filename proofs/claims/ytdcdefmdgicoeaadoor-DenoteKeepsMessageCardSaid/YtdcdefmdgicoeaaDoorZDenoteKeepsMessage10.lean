/- This text is one of those that prove the law DenoteKeepsMessage of the given program, as its statement says it: true on every input that the statement covers. Its conditions are the statement's own. -/
import Derived.Test.YtdcdefmdgicoeaaDoorZDenoteKeepsMessage1
import Derived.Test.YtdcdefmdgicoeaaDoorZDenoteKeepsMessage2
import Derived.Test.YtdcdefmdgicoeaaDoorZDenoteKeepsMessage3
import Derived.Test.YtdcdefmdgicoeaaDoorZDenoteKeepsMessage4
import Derived.Test.YtdcdefmdgicoeaaDoorZDenoteKeepsMessage5
import Derived.Test.YtdcdefmdgicoeaaDoorZDenoteKeepsMessage6
import Derived.Test.YtdcdefmdgicoeaaDoorZDenoteKeepsMessage7
import Derived.Test.YtdcdefmdgicoeaaDoorZDenoteKeepsMessage8
import Derived.Test.YtdcdefmdgicoeaaDoorZDenoteKeepsMessage9
set_option linter.unusedVariables false
set_option linter.unusedSimpArgs false
set_option linter.unusedVariables false
set_option linter.unusedSimpArgs false
namespace Go.Proofs.YtdcdefmdgicoeaaDoor.E
/-! Layer 12: its fixed results, and the first law. -/
theorem V_SameR {d : List Int} (hd : d.length ≤ 17592186044416) : ev 10 [.pv (.sl 1 (bs d)), .pv (.sl 1 (bs d))] [] = ok (Bo true) := by
  rw [capnpref01_Same_eq, show (((bs d).length : Int) != ((bs d).length : Int)) = false from by simp]
  exact same_loop hd d.length 0 (by omega)
theorem w12a : ev 8 [.pv (.agg [I 0, I 0, I 2, I 1, I 0, I 0, Bo false, I 0, U32 0, U32 0])] [] = ok (U 281483566645248) := by
  rw [capnplaw12_word_eq, capnpref02_Encode_eq, capnpref02_Valid_eq, capnpref02_offset_eq]; kernel_rfl
theorem w12b : ev 8 [.pv (.agg [I 1, I 0, I 0, I 0, I 1, I 3, Bo false, I 0, U32 0, U32 0])] [] = ok (U 107374182401) := by
  rw [capnplaw12_word_eq, capnpref02_Encode_eq, capnpref02_Valid_eq, capnpref02_offset_eq]; kernel_rfl
theorem w12c : ev 8 [.pv (.agg [I 0, I 0, I 0, I 1, I 0, I 0, Bo false, I 0, U32 0, U32 0])] [] = ok (U 281474976710656) := by
  rw [capnplaw12_word_eq, capnpref02_Encode_eq, capnpref02_Valid_eq, capnpref02_offset_eq]; kernel_rfl
theorem w12d : ev 8 [.pv (.agg [I 0, I (-1), I 0, I 1, I 0, I 0, Bo false, I 0, U32 0, U32 0])] [] = ok (U 281479271677948) := by
  rw [capnplaw12_word_eq, capnpref02_Encode_eq, capnpref02_Valid_eq, capnpref02_offset_eq]; kernel_rfl
theorem one_segs {s : List Int} (h : s.length ≤ 300) (hw : ∀ x ∈ s, Word x) : Segs [s] ∧ Sm [s] := by
  refine ⟨⟨by simp, fun t ht => ?_⟩, sm_of fun j hj => ?_⟩
  · rw [List.mem_singleton.1 ht]; exact ⟨by omega, hw⟩
  · rw [show j = 0 by simp at hj; omega]; exact h
theorem no_segs : Segs [] ∧ Sm [] := ⟨⟨by simp, fun t ht => by cases ht⟩, sm_of fun j hj => by simp at hj⟩
theorem sA : Segs [[281483566645248, 7, 0, 107374182401, 255]] ∧ Sm [[281483566645248, 7, 0, 107374182401, 255]] := one_segs (by decide) (by intro x hx; simp at hx; unfold Word; omega)
theorem sB : Segs [[281474976710656, 281479271677948]] ∧ Sm [[281474976710656, 281479271677948]] := one_segs (by decide) (by intro x hx; simp at hx; unfold Word; omega)
theorem sC : Segs [[]] ∧ Sm [[]] := one_segs (by decide) (by intro x hx; cases hx)
theorem mA' : ev 9 [.pv (.sl 1 [.sl 1 [U 281483566645248, U 7, U 0, U 107374182401, U 255]]), .pv (.agg [I 3, I 20, I 0])] [] = ok (.tup [I 4, I 0]) := by
  have h := V_Measure sA.1 sA.2 (d := 3) (w := 20) (b := 0) (by decide) (by decide)
  have e : ok (.tup [I (meaC [[281483566645248, 7, 0, 107374182401, 255]] 3 20), I (msgE [[281483566645248, 7, 0, 107374182401, 255]] 3 20)]) = ok (.tup [I 4, I 0]) := by kernel_rfl
  exact h.trans e
theorem wcell (x : Value) : (decide ((PV.v x).cells.length = 1) && (PV.v x).cells.all PV.isCell) = true := rfl
theorem q0 : ev 11 [.pv (.agg [I 0, I 0, I 0, .sl 1 [], .sl 5 []]), .pv (.agg [I 0, I 0, I 0, .sl 1 [], .sl 5 []])] [] = ok (Bo true) := V_Equal good0
theorem good_leaf : good (.mk 2 1 3 [7] []) := by rw [good]; exact ⟨⟨by simp, by intro b hb; simp at hb; unfold Byte; omega, by simp, fun h => absurd h (by decide)⟩, trivial⟩
theorem q1 : ev 11 [.pv (.agg [I 2, I 1, I 3, .sl 1 (bs [7]), .sl 5 []]), .pv (.agg [I 2, I 1, I 3, .sl 1 [U8 7], .sl 5 []])] [] = ok (Bo true) := V_Equal good_leaf
theorem q2 : ev 10 [.pv (.sl 1 (bs [7, 0, 0, 0, 0, 0, 0, 0])), .pv (.sl 1 [U8 7, U8 0, U8 0, U8 0, U8 0, U8 0, U8 0, U8 0])] [] = ok (Bo true) := V_SameR (by decide)
end Go.Proofs.YtdcdefmdgicoeaaDoor.E
set_option linter.unusedVariables false
set_option linter.unusedSimpArgs false
namespace Go.Proofs.YtdcdefmdgicoeaaDoor.E
/-! Where a denotation owns its rows: trimming, messages, the fixed results of layer 12; the law DenoteKeepsMessage. -/
theorem pAggO_v (l : List AV) : pAggO (.agg l) = some l := rfl
theorem pTupO_v (a : AV) (p q : PV) : pTupO 0 2 (.tup 0 a [p, q]) = some (a, [p, q]) := rfl
theorem al5 (a b c d e : AV) : decide (([a, b, c, d, e] : List AV).length = 5) = true := rfl
def trR (x : Nd) : Option (Out × Heap) := some (.ret (.agg [.pv (I x.kind), .pv (I x.elem), .pv (I x.n), .slu 5 1 (bs x.data), .slu 31 5 (pvs x.kids)]), [])
def msR (x : Nd) (e : Int) : Option (Out × Heap) := some (.ret (.tup 0 (.agg [.pv (I x.kind), .pv (I x.elem), .pv (I x.n), .slu 5 1 (bs x.data), .slu 31 5 (pvs x.kids)]) [.v .nilIface, I e]), [])
theorem ktrim_loop {l : List Nd} (hl : l.length ≤ 1073741824) (hv : ∀ x ∈ l, ev 14 [.pv x.pv] [] = trR (trimN x)) (i3 i4 i5 : Int) (xs6 xs7 : List PV) (i8 i9 i10 : Int) (xs11 xs12 : List PV) (k e n : Int) (d : List Int) : ∀ (m i : Nat), i + m = l.length →
    trim_Trim_L0 (pvs l) l.length i i3 i4 i5 xs6 xs7 i8 i9 i10 xs11 xs12 k e n (bs d) (pvs (trimNs (l.take i))) = trR (Nd.mk k e n d (trimNs l)) := by
  intro m
  induction m with
  | zero =>
    intro i hi
    obtain rfl : i = l.length := by omega
    rw [trim_Trim_L0_eq, decide_eq_false (by omega), List.take_length]
    rfl
  | succ m ih =>
    intro i hi
    have hil : i < l.length := by omega
    rw [trim_Trim_L0_eq, decide_eq_true (by omega), decide_eq_true (by omega), decide_eq_true (by simp; omega)]
    dsimp only [callT_ret, callT_pan, onlyPV_v, Option.bind_some, pBool_v, pTup_v, pAgg_v, aggOf_v, pSl_v, pInt_v, pI64, pU64, pU32, pU8, List.getElem?_cons_zero, List.getElem?_cons_succ, cells_v, cells_sl, cells_agg, isCell_v, isCell_sl, cnd_t, cnd_f, tt_and, ff_and, nt_t, nt_f, len1, len3, len5, len8, len10, hlen1, clen1, clen5]
    rw [Int.toNat_natCast, pvs_get hil]
    obtain ⟨c0, c1, c2, c3, c4, h1, h2, h3, h4, h5, h6, h7⟩ := nd_back l[i]
    have hvi := hv _ (List.getElem_mem hil)
    rw [h2] at hvi
    dsimp only [callT_ret, callT_pan, onlyPV_v, Option.bind_some, pBool_v, pTup_v, pAgg_v, aggOf_v, pSl_v, pInt_v, pI64, pU64, pU32, pU8, List.getElem?_cons_zero, List.getElem?_cons_succ, cells_v, cells_sl, cells_agg, isCell_v, isCell_sl, cnd_t, cnd_f, tt_and, ff_and, nt_t, nt_f, len1, len3, len5, len8, len10, hlen1, clen1, clen5]
    rw [h1]
    rw [show decide (5 ≤ [c0, c1, c2, c3, c4].length) = true from rfl, show List.take 5 (List.drop 0 [c0, c1, c2, c3, c4]) = [c0, c1, c2, c3, c4] from rfl]
    dsimp only [callT_ret, callT_pan, onlyPV_v, Option.bind_some, pBool_v, pTup_v, pAgg_v, aggOf_v, pSl_v, pInt_v, pI64, pU64, pU32, pU8, List.getElem?_cons_zero, List.getElem?_cons_succ, cells_v, cells_sl, cells_agg, isCell_v, isCell_sl, cnd_t, cnd_f, tt_and, ff_and, nt_t, nt_f, len1, len3, len5, len8, len10, hlen1, clen1, clen5]
    rw [h3, h4, h5, h6, h7]
    dsimp only [callT_ret, callT_pan, onlyPV_v, Option.bind_some, pBool_v, pTup_v, pAgg_v, aggOf_v, pSl_v, pInt_v, pI64, pU64, pU32, pU8, List.getElem?_cons_zero, List.getElem?_cons_succ, cells_v, cells_sl, cells_agg, isCell_v, isCell_sl, cnd_t, cnd_f, tt_and, ff_and, nt_t, nt_f, len1, len3, len5, len8, len10, hlen1, clen1, clen5]
    rw [hvi]
    unfold trR
    dsimp only [pAggO_v, ↓al5, callT_ret, callT_pan, onlyPV_v, Option.bind_some, pBool_v, pTup_v, pAgg_v, aggOf_v, pSl_v, pInt_v, pI64, pU64, pU32, pU8, List.getElem?_cons_zero, List.getElem?_cons_succ, cells_v, cells_sl, cells_agg, isCell_v, isCell_sl, cnd_t, cnd_f, tt_and, ff_and, nt_t, nt_f, len1, len3, len5, len8, len10, hlen1, clen1, clen5]
    rw [pSlu_v]
    dsimp only [pAggO_v, ↓al5, callT_ret, callT_pan, onlyPV_v, Option.bind_some, pBool_v, pTup_v, pAgg_v, aggOf_v, pSl_v, pInt_v, pI64, pU64, pU32, pU8, List.getElem?_cons_zero, List.getElem?_cons_succ, cells_v, cells_sl, cells_agg, isCell_v, isCell_sl, cnd_t, cnd_f, tt_and, ff_and, nt_t, nt_f, len1, len3, len5, len8, len10, hlen1, clen1, clen5]
    rw [pSlu_v]
    dsimp only [pAggO_v, ↓al5, callT_ret, callT_pan, onlyPV_v, Option.bind_some, pBool_v, pTup_v, pAgg_v, aggOf_v, pSl_v, pInt_v, pI64, pU64, pU32, pU8, List.getElem?_cons_zero, List.getElem?_cons_succ, cells_v, cells_sl, cells_agg, isCell_v, isCell_sl, cnd_t, cnd_f, tt_and, ff_and, nt_t, nt_f, len1, len3, len5, len8, len10, hlen1, clen1, clen5]
    have hroom : roomy ((pvs (trimNs (l.take i))).length + 1) 72 = true := roomy_ok (by rw [pvs_len, trimNs_eq]; simp; omega) (by rw [pvs_len, trimNs_eq]; simp; omega)
    have hnext : pvs (trimNs (l.take i)) ++ [.agg [I (trimN l[i]).kind, I (trimN l[i]).elem, I (trimN l[i]).n, .sl 1 (bs (trimN l[i]).data), .sl 5 (pvs (trimN l[i]).kids)]] = pvs (trimNs (l.take (i + 1))) := by
      rw [take_snoc hil, trimNs_eq, trimNs_eq, List.map_append, pvs_app]
      rw [List.map_cons, List.map_nil, pvs, pvs, Nd.pv_c]
      rfl
    rw [hroom, hnext, w64 (x := (i : Int) + 1) (by omega)]
    exact ih (i + 1) (by omega)
theorem K_tTrim (x : Nd) : good x → ev 14 [.pv x.pv] [] = trR (trimN x) := by
  induction x using Nd.ind with
  | h k e n d ks ih =>
    intro hg
    rw [good, goods_iff] at hg
    obtain ⟨⟨hd, hb, hk, h8⟩, hks⟩ := hg
    have hv : ∀ x ∈ ks, ev 14 [.pv x.pv] [] = trR (trimN x) := fun x hx => ih x hx (hks x hx)
    rw [Nd.pv, trim_Trim_eq, trimN]
    by_cases h1 : k = 1
    · subst h1
      have hkw := keptN_le (· == 0) d
      have h88 := h8 rfl
      have hw : 8 * wordsT d ≤ d.length := by unfold wordsT; omega
      have hp : ptrsT ks ≤ ks.length := keptN_le _ _
      rw [show ((1 : Int) == 1) = true from rfl, V_twords hd, V_tptrs hk, if_pos rfl]
      dsimp only [callT_ret, callT_pan, onlyPV_v, Option.bind_some, pBool_v, pTup_v, pAgg_v, aggOf_v, pSl_v, pInt_v, pI64, pU64, pU32, pU8, List.getElem?_cons_zero, List.getElem?_cons_succ, cells_v, cells_sl, cells_agg, isCell_v, isCell_sl, cnd_t, cnd_f, tt_and, ff_and, nt_t, nt_f, len1, len3, len5, len8, len10, hlen1, clen1, clen5]
      rw [w64 (x := 8 * ((wordsT d : Nat) : Int)) (by omega), decide_eq_true (by omega), decide_eq_true (by simp; omega), decide_eq_true (by omega), decide_eq_true (by simp; omega)]
      dsimp only [callT_ret, callT_pan, onlyPV_v, Option.bind_some, pBool_v, pTup_v, pAgg_v, aggOf_v, pSl_v, pInt_v, pI64, pU64, pU32, pU8, List.getElem?_cons_zero, List.getElem?_cons_succ, cells_v, cells_sl, cells_agg, isCell_v, isCell_sl, cnd_t, cnd_f, tt_and, ff_and, nt_t, nt_f, len1, len3, len5, len8, len10, hlen1, clen1, clen5]
      have e1 : (8 * ((wordsT d : Nat) : Int)).toNat = 8 * wordsT d := by omega
      rw [e1, Int.toNat_natCast, drop0, drop0, bs_take, pvs_take, roomy_ok (by simp; omega) (by simp; omega), pvs_len]
      dsimp only [callT_ret, callT_pan, onlyPV_v, Option.bind_some, pBool_v, pTup_v, pAgg_v, aggOf_v, pSl_v, pInt_v, pI64, pU64, pU32, pU8, List.getElem?_cons_zero, List.getElem?_cons_succ, cells_v, cells_sl, cells_agg, isCell_v, isCell_sl, cnd_t, cnd_f, tt_and, ff_and, nt_t, nt_f, len1, len3, len5, len8, len10, hlen1, clen1, clen5]
      have := ktrim_loop (l := ks.take (ptrsT ks)) (by simp; omega) (fun x hx => hv x (List.mem_of_mem_take hx)) 1 e n (bs d) (pvs ks) 0 0 0 [] [] 1 e n (d.take (8 * wordsT d)) (ks.take (ptrsT ks)).length 0 (by omega)
      refine this.trans ?_
      rw [trimNs_eq, trimNs_eq, List.map_take]
    · rw [beq_eq_false_iff_ne.2 h1, if_neg h1, roomy_ok (by simp; omega) (by simp; omega), pvs_len]
      exact ktrim_loop hk hv k e n (bs d) (pvs ks) 0 0 0 [] [] k e n d ks.length 0 (by omega)
theorem K_Message {l : List (List Int)} (hl : Segs l) (hs : Sm l) {d w b : Int} (hd : d ≤ 1099511627775) (hw : w ≤ 4611686018427387904) : ev 6 [.pv (.sl 1 (sgs l)), .pv (.agg [I d, I w, I b])] [] = msR (msgN l d w) (msgE l d w) := by
  have hr := runT_ok hl hs (d := d) hw
  rw [denote_Message_eq, V_run hl hs hd hw]
  unfold msgN msgE
  generalize runT l d w = K at hr
  unfold runV
  by_cases h9 : K.2.2 = 0
  · rw [if_pos h9, if_pos h9, if_pos h9]
    have ht := K_tTrim K.1 hr.2
    rw [pv_x] at ht
    unfold trR at ht
    dsimp only [Nd.x, callT_ret, callT_pan, onlyPV_v, Option.bind_some, pBool_v, pTup_v, pAgg_v, aggOf_v, pSl_v, pInt_v, pI64, pU64, pU32, pU8, List.getElem?_cons_zero, List.getElem?_cons_succ, cells_v, cells_sl, cells_agg, isCell_v, isCell_sl, cnd_t, cnd_f, tt_and, ff_and, nt_t, nt_f, len1, len3, len5, len8, len10, hlen1, clen1, clen5] at ht ⊢
    rw [ht]
    dsimp only [pAggO_v, ↓al5, callT_ret, callT_pan, onlyPV_v, Option.bind_some, pBool_v, pTup_v, pAgg_v, aggOf_v, pSl_v, pInt_v, pI64, pU64, pU32, pU8, List.getElem?_cons_zero, List.getElem?_cons_succ, cells_v, cells_sl, cells_agg, isCell_v, isCell_sl, cnd_t, cnd_f, tt_and, ff_and, nt_t, nt_f, len1, len3, len5, len8, len10, hlen1, clen1, clen5]
    rw [pSlu_v]
    dsimp only [pAggO_v, ↓al5, callT_ret, callT_pan, onlyPV_v, Option.bind_some, pBool_v, pTup_v, pAgg_v, aggOf_v, pSl_v, pInt_v, pI64, pU64, pU32, pU8, List.getElem?_cons_zero, List.getElem?_cons_succ, cells_v, cells_sl, cells_agg, isCell_v, isCell_sl, cnd_t, cnd_f, tt_and, ff_and, nt_t, nt_f, len1, len3, len5, len8, len10, hlen1, clen1, clen5]
    rw [pSlu_v]
    rfl
  · rw [if_neg h9, if_neg h9, if_neg h9]
    have ht := K_tTrim nd0 good0
    rw [trimN0, pv_x] at ht
    unfold trR at ht
    rw [nd0x] at ht ⊢
    dsimp only [callT_ret, callT_pan, onlyPV_v, Option.bind_some, pBool_v, pTup_v, pAgg_v, aggOf_v, pSl_v, pInt_v, pI64, pU64, pU32, pU8, List.getElem?_cons_zero, List.getElem?_cons_succ, cells_v, cells_sl, cells_agg, isCell_v, isCell_sl, cnd_t, cnd_f, tt_and, ff_and, nt_t, nt_f, len1, len3, len5, len8, len10, hlen1, clen1, clen5]
    rw [ht]
    dsimp only [pAggO_v, ↓al5, callT_ret, callT_pan, onlyPV_v, Option.bind_some, pBool_v, pTup_v, pAgg_v, aggOf_v, pSl_v, pInt_v, pI64, pU64, pU32, pU8, List.getElem?_cons_zero, List.getElem?_cons_succ, cells_v, cells_sl, cells_agg, isCell_v, isCell_sl, cnd_t, cnd_f, tt_and, ff_and, nt_t, nt_f, len1, len3, len5, len8, len10, hlen1, clen1, clen5]
    rw [pSlu_v]
    dsimp only [pAggO_v, ↓al5, callT_ret, callT_pan, onlyPV_v, Option.bind_some, pBool_v, pTup_v, pAgg_v, aggOf_v, pSl_v, pInt_v, pI64, pU64, pU32, pU8, List.getElem?_cons_zero, List.getElem?_cons_succ, cells_v, cells_sl, cells_agg, isCell_v, isCell_sl, cnd_t, cnd_f, tt_and, ff_and, nt_t, nt_f, len1, len3, len5, len8, len10, hlen1, clen1, clen5]
    rw [pSlu_v]
    rfl
theorem kmA : ev 6 [.pv (.sl 1 [.sl 1 [U 281483566645248, U 7, U 0, U 107374182401, U 255]]), .pv (.agg [I 3, I 20, I 0])] [] = some (.ret (.tup 0 (.agg [.pv (I 1), .pv (I 0), .pv (I 0), .slu 5 1 (bs [7, 0, 0, 0, 0, 0, 0, 0]), .slu 31 5 [.agg [I 2, I 1, I 3, .sl 1 (bs [7]), .sl 5 []]]]) [.v .nilIface, I 0]), []) :=
  (K_Message sA.1 sA.2 (d := 3) (w := 20) (b := 0) (by decide) (by decide)).trans (by kernel_rfl)
theorem kmB : ev 6 [.pv (.sl 1 [.sl 1 [U 281474976710656, U 281479271677948]]), .pv (.agg [I 3, I 20, I 0])] [] = some (.ret (.tup 0 (.agg [.pv (I 0), .pv (I 0), .pv (I 0), .slu 5 1 [], .slu 31 5 []]) [.v .nilIface, I 7]), []) :=
  (K_Message sB.1 sB.2 (d := 3) (w := 20) (b := 0) (by decide) (by decide)).trans (by kernel_rfl)
theorem kmB' : ev 6 [.pv (.sl 1 [.sl 1 [U 281474976710656, U 281479271677948]]), .pv (.agg [I 40, I 9, I 0])] [] = some (.ret (.tup 0 (.agg [.pv (I 0), .pv (I 0), .pv (I 0), .slu 5 1 [], .slu 31 5 []]) [.v .nilIface, I 8]), []) :=
  (K_Message sB.1 sB.2 (d := 40) (w := 9) (b := 0) (by decide) (by decide)).trans (by kernel_rfl)
theorem kmC : ev 6 [.pv (.sl 1 [.sl 1 []]), .pv (.agg [I 3, I 20, I 0])] [] = some (.ret (.tup 0 (.agg [.pv (I 0), .pv (I 0), .pv (I 0), .slu 5 1 [], .slu 31 5 []]) [.v .nilIface, I 0]), []) :=
  (K_Message sC.1 sC.2 (d := 3) (w := 20) (b := 0) (by decide) (by decide)).trans (by kernel_rfl)
theorem kmD : ev 6 [.pv (.sl 1 []), .pv (.agg [I 3, I 20, I 0])] [] = some (.ret (.tup 0 (.agg [.pv (I 0), .pv (I 0), .pv (I 0), .slu 5 1 [], .slu 31 5 []]) [.v .nilIface, I 2]), []) :=
  (K_Message no_segs.1 no_segs.2 (d := 3) (w := 20) (b := 0) (by decide) (by decide)).trans (by kernel_rfl)
theorem K_awake12 : ev 4 [] [] = ok (Bo true) := by
  rw [capnplaw12_awake_eq, w12a, w12b, w12c, w12d]
  dsimp only [↓wcell, callT_ret, callT_pan, onlyPV_v, Option.bind_some, pBool_v, pTup_v, pAgg_v, aggOf_v, pSl_v, pInt_v, pI64, pU64, pU32, pU8, List.getElem?_cons_zero, List.getElem?_cons_succ, cells_v, cells_sl, cells_agg, isCell_v, isCell_sl, cnd_t, cnd_f, tt_and, ff_and, nt_t, nt_f, len1, len3, len5, len8, len10, hlen1, clen1, clen5]
  rw [kmA, kmB, kmB', kmC, kmD, mA']
  dsimp only [pTupO_v, pAggO_v, ↓al5, ↓wcell, callT_ret, callT_pan, onlyPV_v, Option.bind_some, pBool_v, pTup_v, pAgg_v, aggOf_v, pSl_v, pInt_v, pI64, pU64, pU32, pU8, List.getElem?_cons_zero, List.getElem?_cons_succ, cells_v, cells_sl, cells_agg, isCell_v, isCell_sl, cnd_t, cnd_f, tt_and, ff_and, nt_t, nt_f, len1, len3, len5, len8, len10, hlen1, clen1, clen5]
  rw [pSlu_v, pSlu_v, pSlu_v, pSlu_v]
  dsimp only [pTupO_v, pAggO_v, ↓al5, ↓wcell, callT_ret, callT_pan, onlyPV_v, Option.bind_some, pBool_v, pTup_v, pAgg_v, aggOf_v, pSl_v, pInt_v, pI64, pU64, pU32, pU8, List.getElem?_cons_zero, List.getElem?_cons_succ, cells_v, cells_sl, cells_agg, isCell_v, isCell_sl, cnd_t, cnd_f, tt_and, ff_and, nt_t, nt_f, len1, len3, len5, len8, len10, hlen1, clen1, clen5]
  rw [show ((([PV.agg [I 2, I 1, I 3, .sl 1 (bs [7]), .sl 5 []]] : List PV).length : Int) != 1) = false from rfl, show ((0 : Int) == 0) = true from rfl, q2]
  dsimp only [↓wcell, callT_ret, callT_pan, onlyPV_v, Option.bind_some, pBool_v, pTup_v, pAgg_v, aggOf_v, pSl_v, pInt_v, pI64, pU64, pU32, pU8, List.getElem?_cons_zero, List.getElem?_cons_succ, cells_v, cells_sl, cells_agg, isCell_v, isCell_sl, cnd_t, cnd_f, tt_and, ff_and, nt_t, nt_f, len1, len3, len5, len8, len10, hlen1, clen1, clen5]
  rw [q0, show List.take 5 (List.drop 0 [I 2, I 1, I 3, PV.sl 1 (bs [7]), PV.sl 5 []]) = [I 2, I 1, I 3, PV.sl 1 (bs [7]), PV.sl 5 []] from rfl, q1]
  rfl
theorem ksamew_loop {d : List Int} (hd : d.length ≤ 17592186044416) : ∀ (c i : Nat), i + c = d.length → capnpref01_SameWords_L0 (ws d) (ws d) i = ok (Bo true) := by
  intro c
  induction c with
  | zero => intro i hi; rw [capnpref01_SameWords_L0_eq, decide_eq_false (by simp; omega)]; rfl
  | succ c ih =>
    intro i hi
    rw [capnpref01_SameWords_L0_eq, decide_eq_true (show (i : Int) < ((ws d).length : Int) by simp; omega), decide_eq_true (show 0 ≤ (i : Int) by omega)]
    dsimp only [callT_ret, callT_pan, onlyPV_v, Option.bind_some, pBool_v, pTup_v, pAgg_v, aggOf_v, pSl_v, pInt_v, pI64, pU64, pU32, pU8, List.getElem?_cons_zero, List.getElem?_cons_succ, cells_v, cells_sl, cells_agg, isCell_v, isCell_sl, cnd_t, cnd_f, tt_and, ff_and, nt_t, nt_f, len1, len3, len5, len8, len10, hlen1, clen1, clen5]
    rw [Int.toNat_natCast, ws_get (by omega)]
    dsimp only [callT_ret, callT_pan, onlyPV_v, Option.bind_some, pBool_v, pTup_v, pAgg_v, aggOf_v, pSl_v, pInt_v, pI64, pU64, pU32, pU8, List.getElem?_cons_zero, List.getElem?_cons_succ, cells_v, cells_sl, cells_agg, isCell_v, isCell_sl, cnd_t, cnd_f, tt_and, ff_and, nt_t, nt_f, len1, len3, len5, len8, len10, hlen1, clen1, clen5]
    rw [show (d[i] != d[i]) = false from by simp, w64 (x := (i : Int) + 1) (by omega)]
    exact ih (i + 1) (by omega)
theorem K_SameW {d : List Int} (hd : d.length ≤ 17592186044416) : ev 15 [.pv (.sl 1 (ws d)), .pv (.sl 1 (ws d))] [] = ok (Bo true) := by
  rw [capnpref01_SameWords_eq, show (((ws d).length : Int) != ((ws d).length : Int)) = false from by simp]
  exact ksamew_loop hd d.length 0 (by omega)
theorem ksame4_loop {l : List (List Int)} (hl : l.length ≤ 17592186044416) (hs : ∀ s ∈ l, s.length ≤ 17592186044416) : ∀ (c i : Nat), i + c = l.length → capnpref04_Same_L0 (sgs l) (sgs l) i = ok (Bo true) := by
  intro c
  induction c with
  | zero => intro i hi; rw [capnpref04_Same_L0_eq, decide_eq_false (by simp; omega)]; rfl
  | succ c ih =>
    intro i hi
    have hil : i < l.length := by omega
    rw [capnpref04_Same_L0_eq, decide_eq_true (show (i : Int) < ((sgs l).length : Int) by simp; omega), decide_eq_true (show 0 ≤ (i : Int) by omega)]
    dsimp only [callT_ret, callT_pan, onlyPV_v, Option.bind_some, pBool_v, pTup_v, pAgg_v, aggOf_v, pSl_v, pInt_v, pI64, pU64, pU32, pU8, List.getElem?_cons_zero, List.getElem?_cons_succ, cells_v, cells_sl, cells_agg, isCell_v, isCell_sl, cnd_t, cnd_f, tt_and, ff_and, nt_t, nt_f, len1, len3, len5, len8, len10, hlen1, clen1, clen5]
    rw [Int.toNat_natCast, sgs_get hil]
    dsimp only [callT_ret, callT_pan, onlyPV_v, Option.bind_some, pBool_v, pTup_v, pAgg_v, aggOf_v, pSl_v, pInt_v, pI64, pU64, pU32, pU8, List.getElem?_cons_zero, List.getElem?_cons_succ, cells_v, cells_sl, cells_agg, isCell_v, isCell_sl, cnd_t, cnd_f, tt_and, ff_and, nt_t, nt_f, len1, len3, len5, len8, len10, hlen1, clen1, clen5]
    rw [K_SameW (hs _ (List.getElem_mem hil)), w64 (x := (i : Int) + 1) (by omega)]
    exact ih (i + 1) (by omega)
theorem K_Same4 {l : List (List Int)} (hl : l.length ≤ 17592186044416) (hs : ∀ s ∈ l, s.length ≤ 17592186044416) : ev 7 [.pv (.sl 1 (sgs l)), .pv (.sl 1 (sgs l))] [] = ok (Bo true) := by
  rw [capnpref04_Same_eq, show (((sgs l).length : Int) != ((sgs l).length : Int)) = false from by simp]
  exact ksame4_loop hl hs l.length 0 (by omega)
theorem ksgs_snoc (l : List (List Int)) (s : List Int) : sgs l ++ [.sl 1 (ws s)] = sgs (l ++ [s]) := by simp [sgs]
theorem kgood {x : Nd} (h : good x) : x.data.length ≤ 17592186044416 := by
  cases x
  rw [good] at h
  exact h.1.1
theorem kdata_loop {l : List (List Int)} (h4 : ev 7 [.pv (.sl 1 (sgs l)), .pv (.sl 1 (sgs l))] [] = ok (Bo true)) (d w b k e n : Int) (ks : List Nd) : ∀ (c i : Nat) (A : List Int), i + c = A.length → A.length ≤ 17592186044416 → capnplaw12_DenoteKeepsMessage_L2 (sgs l) (sgs l) i d w b (I k) (I e) (I n) (bs A) (pvs ks) = ok (Bo true) := by
  intro c
  induction c with
  | zero =>
    intro i A hi hA
    rw [capnplaw12_DenoteKeepsMessage_L2_eq, decide_eq_false (by rw [bs_len]; omega), pvs_len]
    dsimp only [callT_ret, callT_pan, onlyPV_v, Option.bind_some, pBool_v, pTup_v, pAgg_v, aggOf_v, pSl_v, pInt_v, pI64, pU64, pU32, pU8, List.getElem?_cons_zero, List.getElem?_cons_succ, cells_v, cells_sl, cells_agg, isCell_v, isCell_sl, cnd_t, cnd_f, tt_and, ff_and, nt_t, nt_f, len1, len3, len5, len8, len10, hlen1, clen1, clen5]
    cases ks with
    | nil =>
      rw [show decide (((([] : List Nd).length : Nat) : Int) > 0) = false from rfl, h4]
      rfl
    | cons x r =>
      rw [decide_eq_true (show ((((x :: r).length : Nat) : Int)) > 0 by rw [List.length_cons]; omega), show (pvs (x :: r))[0]? = some x.pv from rfl]
      dsimp only [callT_ret, callT_pan, onlyPV_v, Option.bind_some, pBool_v, pTup_v, pAgg_v, aggOf_v, pSl_v, pInt_v, pI64, pU64, pU32, pU8, List.getElem?_cons_zero, List.getElem?_cons_succ, cells_v, cells_sl, cells_agg, isCell_v, isCell_sl, cnd_t, cnd_f, tt_and, ff_and, nt_t, nt_f, len1, len3, len5, len8, len10, hlen1, clen1, clen5]
      rw [nd_five, Nd.pv_c, Nd.c]
      dsimp only [setCells, List.length_cons, List.length_nil, callT_ret, callT_pan, onlyPV_v, Option.bind_some, pBool_v, pTup_v, pAgg_v, aggOf_v, pSl_v, pInt_v, pI64, pU64, pU32, pU8, List.getElem?_cons_zero, List.getElem?_cons_succ, cells_v, cells_sl, cells_agg, isCell_v, isCell_sl, cnd_t, cnd_f, tt_and, ff_and, nt_t, nt_f, len1, len3, len5, len8, len10, hlen1, clen1, clen5]
      rw [h4]
      rfl
  | succ c ih =>
    intro i A hi hA
    have hil : i < A.length := by omega
    rw [capnplaw12_DenoteKeepsMessage_L2_eq, decide_eq_true (show (i : Int) < ((bs A).length : Int) by rw [bs_len]; omega), decide_eq_true (show 0 ≤ (i : Int) by omega)]
    dsimp only [callT_ret, callT_pan, onlyPV_v, Option.bind_some, pBool_v, pTup_v, pAgg_v, aggOf_v, pSl_v, pInt_v, pI64, pU64, pU32, pU8, List.getElem?_cons_zero, List.getElem?_cons_succ, cells_v, cells_sl, cells_agg, isCell_v, isCell_sl, cnd_t, cnd_f, tt_and, ff_and, nt_t, nt_f, len1, len3, len5, len8, len10, hlen1, clen1, clen5]
    rw [Int.toNat_natCast, show (bs A)[i]? = some (U8 A[i]) by simp [bs, hil]]
    dsimp only [setCells, List.length_cons, List.length_nil, callT_ret, callT_pan, onlyPV_v, Option.bind_some, pBool_v, pTup_v, pAgg_v, aggOf_v, pSl_v, pInt_v, pI64, pU64, pU32, pU8, List.getElem?_cons_zero, List.getElem?_cons_succ, cells_v, cells_sl, cells_agg, isCell_v, isCell_sl, cnd_t, cnd_f, tt_and, ff_and, nt_t, nt_f, len1, len3, len5, len8, len10, hlen1, clen1, clen5]
    rw [show (bs A).set i (U8 (IntKind.wrap .u8 (A[i] + 1))) = bs (A.set i (IntKind.wrap .u8 (A[i] + 1))) by simp [bs, List.map_set], w64 (x := (i : Int) + 1) (by omega)]
    exact ih (i + 1) _ (by rw [List.length_set]; omega) (by rw [List.length_set]; exact hA)
theorem kcopy_loop {l : List (List Int)} (hl : Segs l) (hs : Sm l) (h20 : l.length ≤ 20) (h300 : ∀ s ∈ l, s.length ≤ 300) {d w b : Int} (hd : d ≤ 40) (hw : w ≤ 2000) : ∀ (c i : Nat), i + c = l.length → capnplaw12_DenoteKeepsMessage_L0 (sgs l) (sgs (l.take i)) i d w b = ok (Bo true) := by
  have h4 := K_Same4 (l := l) (by omega) (fun s h => by have := h300 s h; omega)
  intro c
  induction c with
  | zero =>
    intro i hi
    have hg := (msgN_ok hl hs (d := d) (w := w) (by omega))
    have hdl := kgood hg
    rw [capnplaw12_DenoteKeepsMessage_L0_eq, decide_eq_false (by rw [sgs_len]; omega), List.take_of_length_le (by omega), K_Message hl hs (by omega) (by omega)]
    unfold msR
    dsimp only [pTupO_v, pAggO_v, ↓al5, callT_ret, callT_pan, onlyPV_v, Option.bind_some, pBool_v, pTup_v, pAgg_v, aggOf_v, pSl_v, pInt_v, pI64, pU64, pU32, pU8, List.getElem?_cons_zero, List.getElem?_cons_succ, cells_v, cells_sl, cells_agg, isCell_v, isCell_sl, cnd_t, cnd_f, tt_and, ff_and, nt_t, nt_f, len1, len3, len5, len8, len10, hlen1, clen1, clen5]
    rw [pSlu_v]
    dsimp only [pTupO_v, pAggO_v, ↓al5, callT_ret, callT_pan, onlyPV_v, Option.bind_some, pBool_v, pTup_v, pAgg_v, aggOf_v, pSl_v, pInt_v, pI64, pU64, pU32, pU8, List.getElem?_cons_zero, List.getElem?_cons_succ, cells_v, cells_sl, cells_agg, isCell_v, isCell_sl, cnd_t, cnd_f, tt_and, ff_and, nt_t, nt_f, len1, len3, len5, len8, len10, hlen1, clen1, clen5]
    rw [pSlu_v]
    dsimp only [pTupO_v, pAggO_v, ↓al5, callT_ret, callT_pan, onlyPV_v, Option.bind_some, pBool_v, pTup_v, pAgg_v, aggOf_v, pSl_v, pInt_v, pI64, pU64, pU32, pU8, List.getElem?_cons_zero, List.getElem?_cons_succ, cells_v, cells_sl, cells_agg, isCell_v, isCell_sl, cnd_t, cnd_f, tt_and, ff_and, nt_t, nt_f, len1, len3, len5, len8, len10, hlen1, clen1, clen5]
    exact kdata_loop h4 d w b _ _ _ _ (msgN l d w).data.length 0 (msgN l d w).data (by omega) hdl
  | succ c ih =>
    intro i hi
    have hil : i < l.length := by omega
    have hsl := h300 _ (List.getElem_mem hil)
    rw [capnplaw12_DenoteKeepsMessage_L0_eq, decide_eq_true (show (i : Int) < ((sgs l).length : Int) by rw [sgs_len]; omega), decide_eq_true (show 0 ≤ (i : Int) by omega)]
    dsimp only [callT_ret, callT_pan, onlyPV_v, Option.bind_some, pBool_v, pTup_v, pAgg_v, aggOf_v, pSl_v, pInt_v, pI64, pU64, pU32, pU8, List.getElem?_cons_zero, List.getElem?_cons_succ, cells_v, cells_sl, cells_agg, isCell_v, isCell_sl, cnd_t, cnd_f, tt_and, ff_and, nt_t, nt_f, len1, len3, len5, len8, len10, hlen1, clen1, clen5]
    rw [Int.toNat_natCast, sgs_get hil]
    dsimp only [callT_ret, callT_pan, onlyPV_v, Option.bind_some, pBool_v, pTup_v, pAgg_v, aggOf_v, pSl_v, pInt_v, pI64, pU64, pU32, pU8, List.getElem?_cons_zero, List.getElem?_cons_succ, cells_v, cells_sl, cells_agg, isCell_v, isCell_sl, cnd_t, cnd_f, tt_and, ff_and, nt_t, nt_f, len1, len3, len5, len8, len10, hlen1, clen1, clen5]
    rw [decide_eq_true (show (1 : Nat) = 1 from rfl), roomy_ok (by rw [ws_len]; omega) (by rw [ws_len]; omega), roomy_ok (by rw [sgs_len, List.length_take]; omega) (by rw [sgs_len, List.length_take]; omega), w64 (x := (i : Int) + 1) (by omega), ksgs_snoc, ← take_snoc hil]
    exact ih (i + 1) (by omega)
/-- The law DenoteKeepsMessage. -/
theorem law_DenoteKeepsMessage {l : List (List Int)} (hl : Segs l) (d w b : Int) : ev 3 [.pv (.sl 1 (sgs l)), .pv (.agg [I d, I w, I b])] [] = ok (Bo true) := by
  obtain ⟨bl, e, hb⟩ := V_Small hl d w b
  rw [capnplaw12_DenoteKeepsMessage_eq, K_awake12]
  dsimp only [callT_ret, callT_pan, onlyPV_v, Option.bind_some, pBool_v, pTup_v, pAgg_v, aggOf_v, pSl_v, pInt_v, pI64, pU64, pU32, pU8, List.getElem?_cons_zero, List.getElem?_cons_succ, cells_v, cells_sl, cells_agg, isCell_v, isCell_sl, cnd_t, cnd_f, tt_and, ff_and, nt_t, nt_f, len1, len3, len5, len8, len10, hlen1, clen1, clen5]
  rw [e]
  dsimp only [callT_ret, callT_pan, onlyPV_v, Option.bind_some, pBool_v, pTup_v, pAgg_v, aggOf_v, pSl_v, pInt_v, pI64, pU64, pU32, pU8, List.getElem?_cons_zero, List.getElem?_cons_succ, cells_v, cells_sl, cells_agg, isCell_v, isCell_sl, cnd_t, cnd_f, tt_and, ff_and, nt_t, nt_f, len1, len3, len5, len8, len10, hlen1, clen1, clen5]
  cases bl with
  | false => rfl
  | true =>
    obtain ⟨hd, hw, h20, h300⟩ := hb rfl
    have hs := sm_of h300
    have h3 : ∀ s ∈ l, s.length ≤ 300 := fun s h => by
      obtain ⟨j, hj, rfl⟩ := List.getElem_of_mem h
      have := h300 j hj
      unfold rdL at this
      rw [Int.toNat_natCast, List.getD_eq_getElem?_getD, List.getElem?_eq_getElem hj] at this
      exact this
    dsimp only [callT_ret, callT_pan, onlyPV_v, Option.bind_some, pBool_v, pTup_v, pAgg_v, aggOf_v, pSl_v, pInt_v, pI64, pU64, pU32, pU8, List.getElem?_cons_zero, List.getElem?_cons_succ, cells_v, cells_sl, cells_agg, isCell_v, isCell_sl, cnd_t, cnd_f, tt_and, ff_and, nt_t, nt_f, len1, len3, len5, len8, len10, hlen1, clen1, clen5]
    exact kcopy_loop hl hs h20 h3 hd hw l.length 0 (by omega)
end Go.Proofs.YtdcdefmdgicoeaaDoor.E
