/- This text is one of those that prove the law DenoteIgnoresUnreachableWords of the given program, as its statement says it: true on every input that the statement covers. Its conditions are the statement's own. -/
import Derived.Test.YthpbjpnbafiipaaDoorZDenoteIgnoresUnreachableWords1
import Derived.Test.YthpbjpnbafiipaaDoorZDenoteIgnoresUnreachableWords2
import Derived.Test.YthpbjpnbafiipaaDoorZDenoteIgnoresUnreachableWords3
import Derived.Test.YthpbjpnbafiipaaDoorZDenoteIgnoresUnreachableWords4
import Derived.Test.YthpbjpnbafiipaaDoorZDenoteIgnoresUnreachableWords5
import Derived.Test.YthpbjpnbafiipaaDoorZDenoteIgnoresUnreachableWords6
import Derived.Test.YthpbjpnbafiipaaDoorZDenoteIgnoresUnreachableWords7
import Derived.Test.YthpbjpnbafiipaaDoorZDenoteIgnoresUnreachableWords8
import Derived.Test.YthpbjpnbafiipaaDoorZDenoteIgnoresUnreachableWords9
set_option linter.unusedVariables false
set_option linter.unusedSimpArgs false
set_option linter.unusedVariables false
set_option linter.unusedSimpArgs false
namespace Go.Proofs.YthpbjpnbafiipaaDoor.E
/-! Layer 12: its fixed results, and the first law. -/
theorem V_SameR {d : List Int} (hd : d.length ≤ 17592186044416) : ev 34 [.pv (.sl 1 (bs d)), .pv (.sl 1 (bs d))] [] = ok (Bo true) := by
  rw [capnpref01_Same_eq, show (((bs d).length : Int) != ((bs d).length : Int)) = false from by simp]
  exact same_loop hd d.length 0 (by omega)
theorem w12a : ev 33 [.pv (.agg [I 0, I 0, I 2, I 1, I 0, I 0, Bo false, I 0, U32 0, U32 0])] [] = ok (U 281483566645248) := by
  rw [capnplaw12_word_eq, capnpref02_Encode_eq, capnpref02_Valid_eq, capnpref02_offset_eq]; kernel_rfl
theorem w12b : ev 33 [.pv (.agg [I 1, I 0, I 0, I 0, I 1, I 3, Bo false, I 0, U32 0, U32 0])] [] = ok (U 107374182401) := by
  rw [capnplaw12_word_eq, capnpref02_Encode_eq, capnpref02_Valid_eq, capnpref02_offset_eq]; kernel_rfl
theorem w12c : ev 33 [.pv (.agg [I 0, I 0, I 0, I 1, I 0, I 0, Bo false, I 0, U32 0, U32 0])] [] = ok (U 281474976710656) := by
  rw [capnplaw12_word_eq, capnpref02_Encode_eq, capnpref02_Valid_eq, capnpref02_offset_eq]; kernel_rfl
theorem w12d : ev 33 [.pv (.agg [I 0, I (-1), I 0, I 1, I 0, I 0, Bo false, I 0, U32 0, U32 0])] [] = ok (U 281479271677948) := by
  rw [capnplaw12_word_eq, capnpref02_Encode_eq, capnpref02_Valid_eq, capnpref02_offset_eq]; kernel_rfl
theorem one_segs {s : List Int} (h : s.length ≤ 300) (hw : ∀ x ∈ s, Word x) : Segs [s] ∧ Sm [s] := by
  refine ⟨⟨by simp, fun t ht => ?_⟩, sm_of fun j hj => ?_⟩
  · rw [List.mem_singleton.1 ht]; exact ⟨by omega, hw⟩
  · rw [show j = 0 by simp at hj; omega]; exact h
theorem no_segs : Segs [] ∧ Sm [] := ⟨⟨by simp, fun t ht => by cases ht⟩, sm_of fun j hj => by simp at hj⟩
theorem sA : Segs [[281483566645248, 7, 0, 107374182401, 255]] ∧ Sm [[281483566645248, 7, 0, 107374182401, 255]] := one_segs (by decide) (by intro x hx; simp at hx; unfold Word; omega)
theorem sB : Segs [[281474976710656, 281479271677948]] ∧ Sm [[281474976710656, 281479271677948]] := one_segs (by decide) (by intro x hx; simp at hx; unfold Word; omega)
theorem sC : Segs [[]] ∧ Sm [[]] := one_segs (by decide) (by intro x hx; cases hx)
theorem mA : ev 14 [.pv (.sl 1 [.sl 1 [U 281483566645248, U 7, U 0, U 107374182401, U 255]]), .pv (.agg [I 3, I 20, I 0])] [] = ok (.tup [.agg [I 1, I 0, I 0, .sl 1 (bs [7, 0, 0, 0, 0, 0, 0, 0]), .sl 5 [.agg [I 2, I 1, I 3, .sl 1 (bs [7]), .sl 5 []]]], I 0]) := by
  have h := V_Message sA.1 sA.2 (d := 3) (w := 20) (b := 0) (by decide) (by decide)
  have e : ok (.tup [(msgN [[281483566645248, 7, 0, 107374182401, 255]] 3 20).x, I (msgE [[281483566645248, 7, 0, 107374182401, 255]] 3 20)]) = ok (.tup [.agg [I 1, I 0, I 0, .sl 1 (bs [7, 0, 0, 0, 0, 0, 0, 0]), .sl 5 [.agg [I 2, I 1, I 3, .sl 1 (bs [7]), .sl 5 []]]], I 0]) := by kernel_rfl
  exact h.trans e
theorem mA' : ev 15 [.pv (.sl 1 [.sl 1 [U 281483566645248, U 7, U 0, U 107374182401, U 255]]), .pv (.agg [I 3, I 20, I 0])] [] = ok (.tup [I 4, I 0]) := by
  have h := V_Measure sA.1 sA.2 (d := 3) (w := 20) (b := 0) (by decide) (by decide)
  have e : ok (.tup [I (meaC [[281483566645248, 7, 0, 107374182401, 255]] 3 20), I (msgE [[281483566645248, 7, 0, 107374182401, 255]] 3 20)]) = ok (.tup [I 4, I 0]) := by kernel_rfl
  exact h.trans e
theorem mB : ev 14 [.pv (.sl 1 [.sl 1 [U 281474976710656, U 281479271677948]]), .pv (.agg [I 3, I 20, I 0])] [] = ok (.tup [.agg [I 0, I 0, I 0, .sl 1 [], .sl 5 []], I 7]) := by
  have h := V_Message sB.1 sB.2 (d := 3) (w := 20) (b := 0) (by decide) (by decide)
  have e : ok (.tup [(msgN [[281474976710656, 281479271677948]] 3 20).x, I (msgE [[281474976710656, 281479271677948]] 3 20)]) = ok (.tup [.agg [I 0, I 0, I 0, .sl 1 [], .sl 5 []], I 7]) := by kernel_rfl
  exact h.trans e
theorem mB' : ev 14 [.pv (.sl 1 [.sl 1 [U 281474976710656, U 281479271677948]]), .pv (.agg [I 40, I 9, I 0])] [] = ok (.tup [.agg [I 0, I 0, I 0, .sl 1 [], .sl 5 []], I 8]) := by
  have h := V_Message sB.1 sB.2 (d := 40) (w := 9) (b := 0) (by decide) (by decide)
  have e : ok (.tup [(msgN [[281474976710656, 281479271677948]] 40 9).x, I (msgE [[281474976710656, 281479271677948]] 40 9)]) = ok (.tup [.agg [I 0, I 0, I 0, .sl 1 [], .sl 5 []], I 8]) := by kernel_rfl
  exact h.trans e
theorem mC : ev 14 [.pv (.sl 1 [.sl 1 []]), .pv (.agg [I 3, I 20, I 0])] [] = ok (.tup [.agg [I 0, I 0, I 0, .sl 1 [], .sl 5 []], I 0]) := by
  have h := V_Message sC.1 sC.2 (d := 3) (w := 20) (b := 0) (by decide) (by decide)
  have e : ok (.tup [(msgN [[]] 3 20).x, I (msgE [[]] 3 20)]) = ok (.tup [.agg [I 0, I 0, I 0, .sl 1 [], .sl 5 []], I 0]) := by kernel_rfl
  exact h.trans e
theorem mD : ev 14 [.pv (.sl 1 []), .pv (.agg [I 3, I 20, I 0])] [] = ok (.tup [.agg [I 0, I 0, I 0, .sl 1 [], .sl 5 []], I 2]) := by
  have h := V_Message no_segs.1 no_segs.2 (d := 3) (w := 20) (b := 0) (by decide) (by decide)
  have e : ok (.tup [(msgN [] 3 20).x, I (msgE [] 3 20)]) = ok (.tup [.agg [I 0, I 0, I 0, .sl 1 [], .sl 5 []], I 2]) := by kernel_rfl
  exact h.trans e
theorem wcell (x : Value) : (decide ((PV.v x).cells.length = 1) && (PV.v x).cells.all PV.isCell) = true := rfl
theorem q0 : ev 16 [.pv (.agg [I 0, I 0, I 0, .sl 1 [], .sl 5 []]), .pv (.agg [I 0, I 0, I 0, .sl 1 [], .sl 5 []])] [] = ok (Bo true) := V_Equal good0
theorem good_leaf : good (.mk 2 1 3 [7] []) := by rw [good]; exact ⟨⟨by simp, by intro b hb; simp at hb; unfold Byte; omega, by simp, fun h => absurd h (by decide)⟩, trivial⟩
theorem q1 : ev 16 [.pv (.agg [I 2, I 1, I 3, .sl 1 (bs [7]), .sl 5 []]), .pv (.agg [I 2, I 1, I 3, .sl 1 [U8 7], .sl 5 []])] [] = ok (Bo true) := V_Equal good_leaf
theorem q2 : ev 34 [.pv (.sl 1 (bs [7, 0, 0, 0, 0, 0, 0, 0])), .pv (.sl 1 [U8 7, U8 0, U8 0, U8 0, U8 0, U8 0, U8 0, U8 0])] [] = ok (Bo true) := V_SameR (by decide)
theorem V_awake12 : ev 12 [] [] = ok (Bo true) := by
  rw [capnplaw12_awake_eq, w12a, w12b, w12c, w12d]
  dsimp only [↓wcell, callT_ret, callT_pan, onlyPV_v, Option.bind_some, pBool_v, pTup_v, pAgg_v, aggOf_v, pSl_v, pInt_v, pI64, pU64, pU32, pU8, List.getElem?_cons_zero, List.getElem?_cons_succ, cells_v, cells_sl, cells_agg, isCell_v, isCell_sl, cnd_t, cnd_f, tt_and, ff_and, nt_t, nt_f, len1, len3, len5, len8, len10, hlen1, clen1, clen5]
  rw [mA]
  dsimp only [↓wcell, callT_ret, callT_pan, onlyPV_v, Option.bind_some, pBool_v, pTup_v, pAgg_v, aggOf_v, pSl_v, pInt_v, pI64, pU64, pU32, pU8, List.getElem?_cons_zero, List.getElem?_cons_succ, cells_v, cells_sl, cells_agg, isCell_v, isCell_sl, cnd_t, cnd_f, tt_and, ff_and, nt_t, nt_f, len1, len3, len5, len8, len10, hlen1, clen1, clen5]
  rw [mB]
  dsimp only [↓wcell, callT_ret, callT_pan, onlyPV_v, Option.bind_some, pBool_v, pTup_v, pAgg_v, aggOf_v, pSl_v, pInt_v, pI64, pU64, pU32, pU8, List.getElem?_cons_zero, List.getElem?_cons_succ, cells_v, cells_sl, cells_agg, isCell_v, isCell_sl, cnd_t, cnd_f, tt_and, ff_and, nt_t, nt_f, len1, len3, len5, len8, len10, hlen1, clen1, clen5]
  rw [mB']
  dsimp only [↓wcell, callT_ret, callT_pan, onlyPV_v, Option.bind_some, pBool_v, pTup_v, pAgg_v, aggOf_v, pSl_v, pInt_v, pI64, pU64, pU32, pU8, List.getElem?_cons_zero, List.getElem?_cons_succ, cells_v, cells_sl, cells_agg, isCell_v, isCell_sl, cnd_t, cnd_f, tt_and, ff_and, nt_t, nt_f, len1, len3, len5, len8, len10, hlen1, clen1, clen5]
  rw [mC]
  dsimp only [↓wcell, callT_ret, callT_pan, onlyPV_v, Option.bind_some, pBool_v, pTup_v, pAgg_v, aggOf_v, pSl_v, pInt_v, pI64, pU64, pU32, pU8, List.getElem?_cons_zero, List.getElem?_cons_succ, cells_v, cells_sl, cells_agg, isCell_v, isCell_sl, cnd_t, cnd_f, tt_and, ff_and, nt_t, nt_f, len1, len3, len5, len8, len10, hlen1, clen1, clen5]
  rw [mD]
  dsimp only [↓wcell, callT_ret, callT_pan, onlyPV_v, Option.bind_some, pBool_v, pTup_v, pAgg_v, aggOf_v, pSl_v, pInt_v, pI64, pU64, pU32, pU8, List.getElem?_cons_zero, List.getElem?_cons_succ, cells_v, cells_sl, cells_agg, isCell_v, isCell_sl, cnd_t, cnd_f, tt_and, ff_and, nt_t, nt_f, len1, len3, len5, len8, len10, hlen1, clen1, clen5]
  rw [mA']
  dsimp only [↓wcell, callT_ret, callT_pan, onlyPV_v, Option.bind_some, pBool_v, pTup_v, pAgg_v, aggOf_v, pSl_v, pInt_v, pI64, pU64, pU32, pU8, List.getElem?_cons_zero, List.getElem?_cons_succ, cells_v, cells_sl, cells_agg, isCell_v, isCell_sl, cnd_t, cnd_f, tt_and, ff_and, nt_t, nt_f, len1, len3, len5, len8, len10, hlen1, clen1, clen5]
  rw [show ((([PV.agg [I 2, I 1, I 3, .sl 1 (bs [7]), .sl 5 []]] : List PV).length : Int) != 1) = false from rfl, show ((0 : Int) == 0) = true from rfl, q2]
  dsimp only [↓wcell, callT_ret, callT_pan, onlyPV_v, Option.bind_some, pBool_v, pTup_v, pAgg_v, aggOf_v, pSl_v, pInt_v, pI64, pU64, pU32, pU8, List.getElem?_cons_zero, List.getElem?_cons_succ, cells_v, cells_sl, cells_agg, isCell_v, isCell_sl, cnd_t, cnd_f, tt_and, ff_and, nt_t, nt_f, len1, len3, len5, len8, len10, hlen1, clen1, clen5]
  rw [q0, show List.take 5 (List.drop 0 [I 2, I 1, I 3, PV.sl 1 (bs [7]), PV.sl 5 []]) = [I 2, I 1, I 3, PV.sl 1 (bs [7]), PV.sl 5 []] from rfl, q1]
  rfl
end Go.Proofs.YthpbjpnbafiipaaDoor.E
set_option linter.unusedVariables false
set_option linter.unusedSimpArgs false
namespace Go.Proofs.YthpbjpnbafiipaaDoor.E
/-! Words that a traversal does not reach. -/
structure Ext (l l' : List (List Int)) : Prop where
  len : l.length ≤ l'.length
  pre : ∀ s : Int, 0 ≤ s → s < (l.length : Int) → ∃ t, rdL l' s = rdL l s ++ t
theorem inB_ext {l l' : List (List Int)} (h : Ext l l') {s a n : Int} (hb : inB l s a n) : inB l' s a n := by
  obtain ⟨h1, h2, h3, h4, h5⟩ := hb
  obtain ⟨t, ht⟩ := h.pre s h1 h2
  have := h.len
  refine ⟨h1, by omega, h3, h4, ?_⟩
  rw [ht, List.length_append]
  omega
theorem cut_ext {l l' : List (List Int)} (h : Ext l l') {s a n : Int} (hb : inB l s a n) : cut l' s a n = cut l s a n := by
  obtain ⟨h1, h2, h3, h4, h5⟩ := hb
  obtain ⟨t, ht⟩ := h.pre s h1 h2
  unfold cut
  rw [ht, List.drop_append_of_le_length (by omega), List.take_append_of_le_length (by rw [List.length_drop]; omega)]
theorem cutB_ext {l l' : List (List Int)} (h : Ext l l') {s a n : Int} (hb : inB l s a n) : cutB l' s a n = cutB l s a n := by
  unfold cutB
  rw [if_pos hb, if_pos (inB_ext h hb), cut_ext h hb]
theorem wd_ext {l l' : List (List Int)} (h : Ext l l') {s a : Int} (hb : inB l s a 1) : wd l' s a = wd l s a := by
  obtain ⟨h1, h2, h3, h4, h5⟩ := hb
  obtain ⟨t, ht⟩ := h.pre s h1 h2
  unfold wd rd
  rw [ht, List.getD_eq_getElem?_getD, List.getD_eq_getElem?_getD, List.getElem?_append_left (by omega)]
theorem inB_sub {l : List (List Int)} {s a n a' n' : Int} (h : inB l s a n) (h1 : a ≤ a') (h2 : 0 ≤ n') (h3 : a' + n' ≤ a + n) : inB l s a' n' := by
  obtain ⟨q1, q2, q3, q4, q5⟩ := h
  exact ⟨q1, q2, by omega, h2, by omega⟩
theorem fol_ext {l l' : List (List Int)} (h : Ext l l') {s a : Int} (he : (fol l s a).2.2.2 = 0) : fol l' s a = fol l s a := by
  unfold fol at he ⊢
  by_cases hb : inB l s a 1
  · simp only [if_pos hb, if_pos (inB_ext h hb), wd_ext h hb] at he ⊢
    by_cases h2 : wd l s a % 4 = 2
    · simp only [if_pos h2] at he ⊢
      generalize wd l s a = x at he ⊢
      by_cases h1 : x / 4 % 2 = 1
      · simp only [if_pos h1] at he ⊢
        unfold dbl at he ⊢
        by_cases hb2 : inB l (x / 4294967296) (x / 8 % 536870912) 2
        · have e1 := wd_ext h (inB_sub hb2 (Int.le_refl _) (show (0 : Int) ≤ 1 by omega) (by omega))
          have e2 := wd_ext h (inB_sub hb2 (show x / 8 % 536870912 ≤ x / 8 % 536870912 + 1 by omega) (show (0 : Int) ≤ 1 by omega) (by omega))
          simp only [if_pos hb2, if_pos (inB_ext h hb2), e1, e2]
        · simp only [if_neg hb2] at he; exact absurd he (by decide)
      · simp only [if_neg h1] at he ⊢
        unfold sgl at he ⊢
        by_cases hb2 : inB l (x / 4294967296) (x / 8 % 536870912) 1
        · simp only [if_pos hb2, if_pos (inB_ext h hb2), wd_ext h hb2]
        · simp only [if_neg hb2] at he; exact absurd he (by decide)
    · simp only [if_neg h2]
  · simp only [if_neg hb] at he; exact absurd he (by decide)
theorem objC_ext {l l' : List (List Int)} (h : Ext l l') {s st c : Int} (he : (objC l s st c).2 = 0) : objC l' s st c = objC l s st c := by
  unfold objC at he ⊢
  by_cases hb : inB l s st (c + 1)
  · by_cases hc : 0 ≤ c
    · have e1 := wd_ext h (inB_sub hb (Int.le_refl _) (show (0 : Int) ≤ 1 by omega) (by omega))
      simp only [if_pos hb, if_pos (inB_ext h hb), e1]
    · simp only [if_pos hb] at he
      split at he
      · rename_i hk
        have := Int.mul_nonneg hk.2.1 (show 0 ≤ ((decI (wd l s st)).2.2.1 + (decI (wd l s st)).2.2.2.1) from by
          unfold decI
          repeat' split
          all_goals (simp only []; try omega))
        omega
      · exact bad_no he (by decide)
  · simp only [if_neg hb] at he; exact bad_no he (by decide)
theorem objP_ext {l l' : List (List Int)} (h : Ext l l') {s b : Int} {p : PT} (he : (objP l s b p).2 = 0) : objP l' s b p = objP l s b p := by
  unfold objP at he ⊢
  by_cases k0 : p.1 = 0
  · simp only [if_pos k0] at he ⊢
    unfold objS at he ⊢
    by_cases hb : inB l s (b + p.2.1) (p.2.2.1 + p.2.2.2.1)
    · simp only [if_pos hb, if_pos (inB_ext h hb)]
    · simp only [if_neg hb] at he; exact bad_no he (by decide)
  · simp only [if_neg k0] at he ⊢
    by_cases k1 : p.1 = 1
    · simp only [if_pos k1] at he ⊢
      unfold objL at he ⊢
      by_cases h7 : p.2.2.2.2.1 = 7
      · simp only [if_pos h7] at he ⊢
        exact objC_ext h he
      · simp only [if_neg h7] at he ⊢
        by_cases hb : inB l s (b + p.2.1) (wordsOf p.2.2.2.2.1 p.2.2.2.2.2.1)
        · simp only [if_pos hb, if_pos (inB_ext h hb)]
        · simp only [if_neg hb] at he; exact bad_no he (by decide)
    · simp only [if_neg k1]
theorem obj_ext {l l' : List (List Int)} (h : Ext l l') {s a : Int} (hf : (fol l s a).2.2.2 = 0) (he : (obj l s a).2 = 0) : obj l' s a = obj l s a := by
  unfold obj at he ⊢
  rw [fol_ext h hf]
  simp only [if_pos hf] at he ⊢
  by_cases h0 : (fol l s a).1 = 0
  · simp only [if_pos h0]
  · simp only [if_neg h0] at he ⊢
    exact objP_ext h he
/-- The words of an object that was found. -/
def ObIn (l : List (List Int)) (o : Ob) : Prop := (o.kind = 1 → inB l o.seg o.at_ (o.data + o.ptrs)) ∧ (o.kind = 2 → o.elem ≠ 7 → inB l o.seg o.at_ (wordsOf o.elem o.n)) ∧ (o.kind = 2 → o.elem = 7 → inB l o.seg o.at_ (o.n * (o.data + o.ptrs)))
theorem obj_in {l : List (List Int)} (hl : Segs l) (hs : Sm l) {s a : Int} (h0 : (fol l s a).1 ≠ 0) (hf : (fol l s a).2.2.2 = 0) (he : (obj l s a).2 = 0) : ObIn l (obj l s a).1 := by
  have hd := dec_small (fol_word hl s a)
  unfold obj at he ⊢
  rw [if_pos hf, if_neg h0] at he ⊢
  unfold objP at he ⊢
  generalize decI (fol l s a).1 = p at he hd ⊢
  by_cases k0 : p.1 = 0
  · rw [if_pos k0] at he ⊢
    unfold objS at he ⊢
    by_cases hb : inB l (fol l s a).2.1 ((fol l s a).2.2.1 + p.2.1) (p.2.2.1 + p.2.2.2.1)
    · rw [if_pos hb]
      exact ⟨fun _ => hb, fun h => absurd h (by dsimp only; omega), fun h => absurd h (by dsimp only; omega)⟩
    · rw [if_neg hb] at he; exact bad_no he (by decide)
  · rw [if_neg k0] at he ⊢
    by_cases k1 : p.1 = 1
    · rw [if_pos k1] at he ⊢
      unfold objL at he ⊢
      by_cases h7 : p.2.2.2.2.1 = 7
      · rw [if_pos h7] at he ⊢
        unfold objC at he ⊢
        by_cases hb : inB l (fol l s a).2.1 ((fol l s a).2.2.1 + p.2.1) (p.2.2.2.2.2.1 + 1)
        · rw [if_pos hb] at he ⊢
          split at he
          · rename_i hk
            rw [if_pos hk]
            have hd2 := dec_small (wd_word hl (fol l s a).2.1 ((fol l s a).2.2.1 + p.2.1))
            refine ⟨fun h => absurd h (by dsimp only; omega), fun _ h => absurd rfl h, fun _ _ => ?_⟩
            exact inB_sub hb (by dsimp only; omega) (Int.mul_nonneg hk.2.1 (by dsimp only; omega)) (by dsimp only; omega)
          · exact bad_no he (by decide)
        · rw [if_neg hb] at he; exact bad_no he (by decide)
      · rw [if_neg h7] at he ⊢
        by_cases hb : inB l (fol l s a).2.1 ((fol l s a).2.2.1 + p.2.1) (wordsOf p.2.2.2.2.1 p.2.2.2.2.2.1)
        · rw [if_pos hb]
          exact ⟨fun h => absurd h (by dsimp only; omega), fun _ _ => hb, fun _ h => absurd h h7⟩
        · rw [if_neg hb] at he; exact bad_no he (by decide)
    · rw [if_neg k1] at he
      split at he
      · exact bad_no he (by decide)
      · exact bad_no he (by decide)
theorem kidsF_ext {G G' : Int → Nat → Nd × Int × Int} : ∀ (c i : Nat) (m : Int) (acc : List Nd), (∀ m j, i ≤ j → j < i + c → (G m j).2.2 = 0 → G' m j = G m j) → (kidsF G c i m acc).2.2 = 0 → kidsF G' c i m acc = kidsF G c i m acc
  | 0, i, m, acc, _, _ => rfl
  | c + 1, i, m, acc, h, he => by
    rw [kidsF] at he ⊢
    rw [kidsF]
    split at he
    · rename_i h0
      rw [h m i (Nat.le_refl _) (by omega) h0, if_pos h0, if_pos h0]
      exact kidsF_ext c (i + 1) _ _ (fun m j h1 h2 => h m j (by omega) (by omega)) he
    · rename_i h0
      exact absurd he h0
theorem strct_ext {l l' : List (List Int)} (h : Ext l l') {F F' : Int → Int → Int → Nd × Int × Int} (hF : ∀ m s a, (F m s a).2.2 = 0 → F' m s a = F m s a) {m : Int} {o : Ob} (hb : inB l o.seg o.at_ o.data) (he : (strct F l m o).2.2 = 0) : strct F' l' m o = strct F l m o := by
  unfold strct at he ⊢
  have he' : (kidsF (fun m i => F m o.seg (o.at_ + o.data + i)) o.ptrs.toNat 0 m []).2.2 = 0 := he
  rw [kidsF_ext (G := fun m i => F m o.seg (o.at_ + o.data + i)) (G' := fun m i => F' m o.seg (o.at_ + o.data + i)) _ _ _ _ (fun m j _ _ h0 => hF _ _ _ h0) he', cutB_ext h hb]
theorem den_ext {l l' : List (List Int)} (hl : Segs l) (hs : Sm l) (h : Ext l l') : ∀ D m s a, (den l D m s a).2.2 = 0 → den l' D m s a = den l D m s a := by
  intro D
  induction D with
  | zero =>
    intro m s a he
    unfold den at he ⊢
    by_cases hf : (fol l s a).2.2.2 = 0
    · rw [fol_ext h hf]
    · rw [if_neg hf] at he; exact absurd he hf
  | succ D ih =>
    intro m s a he
    rw [den] at he ⊢
    rw [den]
    dsimp only at he ⊢
    by_cases hf : (fol l s a).2.2.2 = 0
    · simp only [if_pos hf] at he
      rw [fol_ext h hf]
      simp only [if_pos hf]
      by_cases h0 : (fol l s a).1 = 0
      · simp only [if_pos h0]
      · simp only [if_neg h0] at he
        simp only [if_neg h0]
        unfold denO at he ⊢
        by_cases hz : (obj l s a).2 = 0
        · rw [obj_ext h hf hz]
          simp only [if_pos hz] at he
          simp only [if_pos hz]
          have ho := obj_ok hl hs h0 hf hz
          have hi := obj_in hl hs h0 hf hz
          generalize (obj l s a).1 = o at he ho hi ⊢
          by_cases hc : o.cost > m
          · simp only [if_pos hc]
          · simp only [if_neg hc] at he
            simp only [if_neg hc]
            obtain ⟨hat, hd, hq, hel, hn, hco, hk, hw, hzz⟩ := ho
            by_cases k1 : o.kind = 1
            · simp only [if_pos k1] at he
              simp only [if_pos k1]
              exact strct_ext h ih (inB_sub (hi.1 k1) (Int.le_refl _) hd.1 (by omega)) he
            · have k2 : o.kind = 2 := by omega
              simp only [if_neg k1] at he
              simp only [if_neg k1]
              unfold denL at he ⊢
              by_cases h6 : o.elem < 6
              · simp only [if_pos h6]
                rw [cutB_ext h (hw k2 h6).1]
              · simp only [if_neg h6] at he
                simp only [if_neg h6]
                have he' : (kidsF (fun m i => if o.elem = 6 then den l D m o.seg (o.at_ + i) else strct (den l D) l m (elt o i)) o.n.toNat 0 (m - o.cost) []).2.2 = 0 := he
                rw [kidsF_ext (G' := fun m i => if o.elem = 6 then den l' D m o.seg (o.at_ + i) else strct (den l' D) l' m (elt o i)) _ _ _ _ (fun m j _ hj h0 => ?_) he']
                by_cases e6 : o.elem = 6
                · rw [if_pos e6] at h0
                  simp only [if_pos e6]
                  exact ih _ _ _ h0
                · rw [if_neg e6] at h0
                  simp only [if_neg e6]
                  have hb7 := hi.2.2 k2 (by omega)
                  have hjn : (j : Int) + 1 ≤ o.n := by omega
                  have hmul : ((j : Int) + 1) * (o.data + o.ptrs) ≤ o.n * (o.data + o.ptrs) := Int.mul_le_mul_of_nonneg_right hjn (by omega)
                  have hpos : 0 ≤ (j : Int) * (o.data + o.ptrs) := Int.mul_nonneg (by omega) (by omega)
                  rw [Int.add_mul, Int.one_mul] at hmul
                  refine strct_ext h ih (inB_sub hb7 ?_ hd.1 ?_) h0
                  · show o.at_ ≤ (elt o j).at_
                    unfold elt
                    dsimp only
                    omega
                  · show (elt o j).at_ + (elt o j).data ≤ _
                    unfold elt
                    dsimp only
                    omega
        · rw [if_neg hz] at he; exact absurd he hz
    · rw [if_neg hf] at he; exact absurd he hf
end Go.Proofs.YthpbjpnbafiipaaDoor.E
set_option linter.unusedVariables false
set_option linter.unusedSimpArgs false
namespace Go.Proofs.YthpbjpnbafiipaaDoor.E
/-! The reference's checks of a node; the law DenoteIsBounded. -/
theorem cl5 (a b c d e : PV) : decide ((PV.agg [a, b, c, d, e]).cells.length = 5) = true := rfl
end Go.Proofs.YthpbjpnbafiipaaDoor.E
set_option linter.unusedVariables false
set_option linter.unusedSimpArgs false
namespace Go.Proofs.YthpbjpnbafiipaaDoor.E
theorem ext_of {l : List (List Int)} {k : Nat} (hk : k < l.length) (m : List Int) : Ext l (l.set k (l[k] ++ m) ++ [m]) := by
  refine ⟨by simp, fun s h0 h1 => ?_⟩
  have hs : s.toNat < l.length := by omega
  unfold rdL
  rw [List.getD_eq_getElem?_getD, List.getD_eq_getElem?_getD, List.getElem?_append_left (by simpa using hs), List.getElem?_set]
  by_cases e : k = s.toNat
  · subst e
    rw [if_pos rfl, if_pos hs, List.getElem?_eq_getElem hs]
    exact ⟨m, rfl⟩
  · rw [if_neg e]
    exact ⟨[], by simp⟩
theorem sgs_more {l : List (List Int)} {k : Nat} (hk : k < l.length) (m : List Int) : (sgs l).set k (.sl 1 (ws l[k] ++ ws m)) ++ [.sl 1 (ws m)] = sgs (l.set k (l[k] ++ m) ++ [m]) := by
  unfold sgs
  rw [List.map_append, List.map_set]
  simp [ws]
theorem rdL_mem {l : List (List Int)} (s : Int) : rdL l s = [] ∨ rdL l s ∈ l := by
  unfold rdL
  rw [List.getD_eq_getElem?_getD]
  by_cases h : s.toNat < l.length
  · right; rw [List.getElem?_eq_getElem h]; exact List.getElem_mem h
  · left; rw [List.getElem?_eq_none (by omega)]; rfl
theorem run_ext {l l' : List (List Int)} (hl : Segs l) (hs : Sm l) (h : Ext l l') (h0 : 0 < l.length) (hn : (rdL l 0).length ≠ 0) {d w : Int} (he : (runT l d w).2.2 = 0) : runT l' d w = runT l d w := by
  have e1 : ¬ emp l := fun e => hn e.2
  have e2 : ¬ emp l' := fun e => by
    obtain ⟨t, ht⟩ := h.pre 0 (Int.le_refl _) (by omega)
    have := e.2
    rw [ht, List.length_append] at this
    omega
  unfold runT at he ⊢
  rw [if_neg e1] at he
  rw [if_neg e1, if_neg e2]
  exact den_ext hl hs h _ _ _ _ he
/-- The law DenoteIgnoresUnreachableWords. -/
theorem law_DenoteIgnoresUnreachableWords {l : List (List Int)} (hl : Segs l) (d w b : Int) {m : List Int} (hm : Words m) {k : Int} (hk : Byte k) : ev 3 [.pv (.sl 1 (sgs l)), .pv (.agg [I d, I w, I b]), .pv (.sl 1 (ws m)), .pv (U8 k)] [] = ok (Bo true) := by
  obtain ⟨bl, e, hb⟩ := V_Small hl d w b
  rw [capnplaw12_DenoteIgnoresUnreachableWords_eq, V_awake12]
  dsimp only [↓cl5, callT_ret, callT_pan, onlyPV_v, Option.bind_some, pBool_v, pTup_v, pAgg_v, aggOf_v, pSl_v, pInt_v, pI64, pU64, pU32, pU8, List.getElem?_cons_zero, List.getElem?_cons_succ, cells_v, cells_sl, cells_agg, isCell_v, isCell_sl, cnd_t, cnd_f, tt_and, ff_and, nt_t, nt_f, len1, len3, len5, len8, len10, hlen1, clen1, clen5]
  rw [e]
  dsimp only [↓cl5, callT_ret, callT_pan, onlyPV_v, Option.bind_some, pBool_v, pTup_v, pAgg_v, aggOf_v, pSl_v, pInt_v, pI64, pU64, pU32, pU8, List.getElem?_cons_zero, List.getElem?_cons_succ, cells_v, cells_sl, cells_agg, isCell_v, isCell_sl, cnd_t, cnd_f, tt_and, ff_and, nt_t, nt_f, len1, len3, len5, len8, len10, hlen1, clen1, clen5]
  cases bl with
  | false => rfl
  | true =>
    obtain ⟨hd, hw, hn20, h300⟩ := hb rfl
    have hs := sm_of h300
    dsimp only [↓cl5, callT_ret, callT_pan, onlyPV_v, Option.bind_some, pBool_v, pTup_v, pAgg_v, aggOf_v, pSl_v, pInt_v, pI64, pU64, pU32, pU8, List.getElem?_cons_zero, List.getElem?_cons_succ, cells_v, cells_sl, cells_agg, isCell_v, isCell_sl, cnd_t, cnd_f, tt_and, ff_and, nt_t, nt_f, len1, len3, len5, len8, len10, hlen1, clen1, clen5]
    rw [sgs_len, ws_len]
    by_cases hz : (l.length : Int) = 0
    · rw [beq_iff_eq.2 hz]; rfl
    · rw [beq_eq_false_iff_ne.2 hz]
      have h0 : 0 < l.length := by omega
      dsimp only [callT_ret, callT_pan, onlyPV_v, Option.bind_some, pBool_v, pTup_v, pAgg_v, aggOf_v, pSl_v, pInt_v, pI64, pU64, pU32, pU8, List.getElem?_cons_zero, List.getElem?_cons_succ, cells_v, cells_sl, cells_agg, isCell_v, isCell_sl, cnd_t, cnd_f, tt_and, ff_and, nt_t, nt_f, len1, len3, len5, len8, len10, hlen1, clen1, clen5]
      by_cases h100 : (m.length : Int) > 100
      · rw [decide_eq_true h100]; rfl
      · rw [decide_eq_false h100, decide_eq_true (show (0 : Int) < (l.length : Int) by omega), sgs0 h0]
        dsimp only [callT_ret, callT_pan, onlyPV_v, Option.bind_some, pBool_v, pTup_v, pAgg_v, aggOf_v, pSl_v, pInt_v, pI64, pU64, pU32, pU8, List.getElem?_cons_zero, List.getElem?_cons_succ, cells_v, cells_sl, cells_agg, isCell_v, isCell_sl, cnd_t, cnd_f, tt_and, ff_and, nt_t, nt_f, len1, len3, len5, len8, len10, hlen1, clen1, clen5]
        rw [ws_len]
        by_cases hr : ((rdL l 0).length : Int) = 0
        · rw [beq_iff_eq.2 hr]; rfl
        · rw [beq_eq_false_iff_ne.2 hr]
          dsimp only [callT_ret, callT_pan, onlyPV_v, Option.bind_some, pBool_v, pTup_v, pAgg_v, aggOf_v, pSl_v, pInt_v, pI64, pU64, pU32, pU8, List.getElem?_cons_zero, List.getElem?_cons_succ, cells_v, cells_sl, cells_agg, isCell_v, isCell_sl, cnd_t, cnd_f, tt_and, ff_and, nt_t, nt_f, len1, len3, len5, len8, len10, hlen1, clen1, clen5]
          rw [V_Message hl hs (by omega) (by omega)]
          dsimp only [Nd.x, ↓cl5, callT_ret, callT_pan, onlyPV_v, Option.bind_some, pBool_v, pTup_v, pAgg_v, aggOf_v, pSl_v, pInt_v, pI64, pU64, pU32, pU8, List.getElem?_cons_zero, List.getElem?_cons_succ, cells_v, cells_sl, cells_agg, isCell_v, isCell_sl, cnd_t, cnd_f, tt_and, ff_and, nt_t, nt_f, len1, len3, len5, len8, len10, hlen1, clen1, clen5]
          by_cases he : msgE l d w = 0
          · rw [he, show ((0 : Int) != 0) = false from rfl]
            dsimp only [callT_ret, callT_pan, onlyPV_v, Option.bind_some, pBool_v, pTup_v, pAgg_v, aggOf_v, pSl_v, pInt_v, pI64, pU64, pU32, pU8, List.getElem?_cons_zero, List.getElem?_cons_succ, cells_v, cells_sl, cells_agg, isCell_v, isCell_sl, cnd_t, cnd_f, tt_and, ff_and, nt_t, nt_f, len1, len3, len5, len8, len10, hlen1, clen1, clen5]
            rw [V_Measure hl hs (by omega) (by omega)]
            obtain ⟨hk1, hk2⟩ := hk
            have hkl : (k % (l.length : Int)).toNat < l.length := by
              have := Int.emod_lt_of_pos k (show (0 : Int) < l.length by omega)
              have := Int.emod_nonneg k hz
              omega
            have g0 := Int.emod_nonneg k hz
            have g1 := Int.emod_lt_of_pos k (show (0 : Int) < l.length by omega)
            dsimp only [callT_ret, callT_pan, onlyPV_v, Option.bind_some, pBool_v, pTup_v, pAgg_v, aggOf_v, pSl_v, pInt_v, pI64, pU64, pU32, pU8, List.getElem?_cons_zero, List.getElem?_cons_succ, cells_v, cells_sl, cells_agg, isCell_v, isCell_sl, cnd_t, cnd_f, tt_and, ff_and, nt_t, nt_f, len1, len3, len5, len8, len10, hlen1, clen1, clen5]
            rw [roomy_ok (by omega) (by omega), w64 (x := k) (by omega), Int.tmod_eq_emod_of_nonneg hk1, show okBin .rem (l.length : Int) = true from bne_t hz]
            dsimp only [callT_ret, callT_pan, onlyPV_v, Option.bind_some, pBool_v, pTup_v, pAgg_v, aggOf_v, pSl_v, pInt_v, pI64, pU64, pU32, pU8, List.getElem?_cons_zero, List.getElem?_cons_succ, cells_v, cells_sl, cells_agg, isCell_v, isCell_sl, cnd_t, cnd_f, tt_and, ff_and, nt_t, nt_f, len1, len3, len5, len8, len10, hlen1, clen1, clen5]
            rw [decide_eq_true g0, decide_eq_true g1, sgs_get hkl]
            dsimp only [callT_ret, callT_pan, onlyPV_v, Option.bind_some, pBool_v, pTup_v, pAgg_v, aggOf_v, pSl_v, pInt_v, pI64, pU64, pU32, pU8, List.getElem?_cons_zero, List.getElem?_cons_succ, cells_v, cells_sl, cells_agg, isCell_v, isCell_sl, cnd_t, cnd_f, tt_and, ff_and, nt_t, nt_f, len1, len3, len5, len8, len10, hlen1, clen1, clen5]
            have hlk : l[(k % (l.length : Int)).toNat].length ≤ 300 := by
              have := h300 (k % (l.length : Int)).toNat hkl
              rw [rdL_nat hkl] at this
              exact this
            rw [ws_len, roomy_ok (by omega) (by omega), roomy_ok (by omega) (by omega)]
            dsimp only [setCells, List.length_cons, List.length_nil, callT_ret, callT_pan, onlyPV_v, Option.bind_some, pBool_v, pTup_v, pAgg_v, aggOf_v, pSl_v, pInt_v, pI64, pU64, pU32, pU8, List.getElem?_cons_zero, List.getElem?_cons_succ, cells_v, cells_sl, cells_agg, isCell_v, isCell_sl, cnd_t, cnd_f, tt_and, ff_and, nt_t, nt_f, len1, len3, len5, len8, len10, hlen1, clen1, clen5]
            rw [List.length_set, sgs_len, roomy_ok (by omega) (by omega), sgs_more hkl]
            have hx := ext_of hkl m
            have hw0 : Words l[(k % (l.length : Int)).toNat] := hl.2 _ (List.getElem_mem hkl)
            have hwa : Words (l[(k % (l.length : Int)).toNat] ++ m) := ⟨by rw [List.length_append]; omega, fun x hx => by
              rcases List.mem_append.1 hx with h | h
              · exact hw0.2 x h
              · exact hm.2 x h⟩
            have hmem : ∀ x ∈ l.set (k % (l.length : Int)).toNat (l[(k % (l.length : Int)).toNat] ++ m) ++ [m], x ∈ l ∨ x = l[(k % (l.length : Int)).toNat] ++ m ∨ x = m := fun x hx => by
              rcases List.mem_append.1 hx with h | h
              · rcases List.mem_or_eq_of_mem_set h with h | h
                · exact .inl h
                · exact .inr (.inl h)
              · exact .inr (.inr (List.mem_singleton.1 h))
            have hl' : Segs (l.set (k % (l.length : Int)).toNat (l[(k % (l.length : Int)).toNat] ++ m) ++ [m]) := ⟨by simp; omega, fun x hx => by
              rcases hmem x hx with h | h | h
              · exact hl.2 x h
              · rw [h]; exact hwa
              · rw [h]; exact hm⟩
            have hs' : Sm (l.set (k % (l.length : Int)).toNat (l[(k % (l.length : Int)).toNat] ++ m) ++ [m]) := fun s => by
              rcases rdL_mem (l := l.set (k % (l.length : Int)).toNat (l[(k % (l.length : Int)).toNat] ++ m) ++ [m]) s with h | h
              · rw [h]; simp
              · rcases hmem _ h with h | h | h
                · obtain ⟨j, hj, hj2⟩ := List.getElem_of_mem h
                  have := h300 j hj
                  rw [rdL_nat hj, hj2] at this
                  omega
                · rw [h, List.length_append]; omega
                · rw [h]; omega
            have her : (runT l d w).2.2 = 0 := he
            have hrun := run_ext hl hs hx h0 (by omega) her
            generalize l.set (k % (l.length : Int)).toNat (l[(k % (l.length : Int)).toNat] ++ m) ++ [m] = l' at hl' hs' hrun hx ⊢
            have m1 : msgN l' d w = msgN l d w := by unfold msgN; rw [hrun]
            have m2 : msgE l' d w = 0 := by unfold msgE; rw [hrun]; exact her
            have m3 : meaC l' d w = meaC l d w := by unfold meaC; rw [hrun]
            have q0 := V_Equal (msgN_ok hl hs (d := d) (w := w) (by omega))
            dsimp only [Nd.x] at q0
            dsimp only [callT_ret, callT_pan, onlyPV_v, Option.bind_some, pBool_v, pTup_v, pAgg_v, aggOf_v, pSl_v, pInt_v, pI64, pU64, pU32, pU8, List.getElem?_cons_zero, List.getElem?_cons_succ, cells_v, cells_sl, cells_agg, isCell_v, isCell_sl, cnd_t, cnd_f, tt_and, ff_and, nt_t, nt_f, len1, len3, len5, len8, len10, hlen1, clen1, clen5]
            rw [V_Message hl' hs' (by omega) (by omega), m1, m2]
            dsimp only [Nd.x, ↓cl5, callT_ret, callT_pan, onlyPV_v, Option.bind_some, pBool_v, pTup_v, pAgg_v, aggOf_v, pSl_v, pInt_v, pI64, pU64, pU32, pU8, List.getElem?_cons_zero, List.getElem?_cons_succ, cells_v, cells_sl, cells_agg, isCell_v, isCell_sl, cnd_t, cnd_f, tt_and, ff_and, nt_t, nt_f, len1, len3, len5, len8, len10, hlen1, clen1, clen5]
            rw [V_Measure hl' hs' (by omega) (by omega), m3]
            dsimp only [callT_ret, callT_pan, onlyPV_v, Option.bind_some, pBool_v, pTup_v, pAgg_v, aggOf_v, pSl_v, pInt_v, pI64, pU64, pU32, pU8, List.getElem?_cons_zero, List.getElem?_cons_succ, cells_v, cells_sl, cells_agg, isCell_v, isCell_sl, cnd_t, cnd_f, tt_and, ff_and, nt_t, nt_f, len1, len3, len5, len8, len10, hlen1, clen1, clen5]
            rw [q0, show ((0 : Int) == 0) = true from rfl, show (meaC l d w == meaC l d w) = true from by simp]
            rfl
          · rw [bne_t he]
            rfl
end Go.Proofs.YthpbjpnbafiipaaDoor.E
