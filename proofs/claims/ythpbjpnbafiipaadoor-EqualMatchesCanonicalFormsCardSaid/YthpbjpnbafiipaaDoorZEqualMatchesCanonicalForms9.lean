/- This text is one of those that prove the law EqualMatchesCanonicalForms of the given program, as its statement says it: true on every input that the statement covers. Its conditions are the statement's own. -/
import Derived.Test.YthpbjpnbafiipaaDoorZEqualMatchesCanonicalForms1
import Derived.Test.YthpbjpnbafiipaaDoorZEqualMatchesCanonicalForms2
import Derived.Test.YthpbjpnbafiipaaDoorZEqualMatchesCanonicalForms3
import Derived.Test.YthpbjpnbafiipaaDoorZEqualMatchesCanonicalForms4
import Derived.Test.YthpbjpnbafiipaaDoorZEqualMatchesCanonicalForms5
import Derived.Test.YthpbjpnbafiipaaDoorZEqualMatchesCanonicalForms6
import Derived.Test.YthpbjpnbafiipaaDoorZEqualMatchesCanonicalForms7
import Derived.Test.YthpbjpnbafiipaaDoorZEqualMatchesCanonicalForms8
set_option linter.unusedVariables false
set_option linter.unusedSimpArgs false
set_option linter.unusedVariables false
set_option linter.unusedSimpArgs false
namespace Go.Proofs.YthpbjpnbafiipaaDoor.E
/-! Words encoded. -/
theorem V_roff {off : Int} (ho : -536870912 ≤ off ∧ off ≤ 536870911) : ev 120 [.pv (I off)] [] = ok (Bo true) := by
  rw [capnpref02_offset_eq, decide_eq_true (show off ≥ -536870912 by omega), decide_eq_true ho.2]
  rfl
theorem V_rEncode0 {off : Int} {d q : Nat} (ho : -536870912 ≤ off ∧ off ≤ 536870911) (hd : d ≤ 65535) (hq : q ≤ 65535) : ev 53 [.pv (.agg [I 0, I off, I d, I q, I 0, I 0, Bo false, I 0, U32 0, U32 0])] [] = ok (.tup [U (encS off d q), Bo true]) := by
  rw [capnpref02_Encode_eq, capnpref02_Valid_eq, V_roff ho]
  dsimp only [callT_ret, callT_pan, onlyPV_v, Option.bind_some, pBool_v, pTup_v, pAgg_v, aggOf_v, pSl_v, pInt_v, pI64, pU64, pU32, pU8, List.getElem?_cons_zero, List.getElem?_cons_succ, cells_v, cells_sl, cells_agg, isCell_v, isCell_sl, cnd_t, cnd_f, tt_and, ff_and, nt_t, nt_f, len1, len3, len5, len8, len10, hlen1, clen1, clen5]
  rw [show ((0 : Int) == 0) = true from rfl, beq_self_eq_true off, beq_self_eq_true (d : Int), beq_self_eq_true (q : Int), decide_eq_true (show (d : Int) ≥ 0 by omega), decide_eq_true (show (d : Int) ≤ 65535 by omega), decide_eq_true (show (q : Int) ≥ 0 by omega), decide_eq_true (show (q : Int) ≤ 65535 by omega)]
  dsimp only [callT_ret, callT_pan, onlyPV_v, Option.bind_some, pBool_v, pTup_v, pAgg_v, aggOf_v, pSl_v, pInt_v, pI64, pU64, pU32, pU8, List.getElem?_cons_zero, List.getElem?_cons_succ, cells_v, cells_sl, cells_agg, isCell_v, isCell_sl, cnd_t, cnd_f, tt_and, ff_and, nt_t, nt_f, len1, len3, len5, len8, len10, hlen1, clen1, clen5]
  rw [show IntKind.wrap .u64 0 = 0 from rfl, wu64 (x := (d : Int)) (by omega), wu64 (x := (q : Int)) (by omega)]
  by_cases hn : off < 0
  · rw [decide_eq_true hn]
    have e : off % 1073741824 = off + 1073741824 := by omega
    rw [w64 (x := off + 1073741824) (by omega), wu64 (x := off + 1073741824) (by omega), wu64 (x := 4 * (off + 1073741824)) (by omega), wu64 (x := 0 + 4 * (off + 1073741824)) (by omega), wu64 (x := 4294967296 * (d : Int)) (by omega), wu64 (x := 0 + 4 * (off + 1073741824) + 4294967296 * (d : Int)) (by omega), wu64 (x := 281474976710656 * (q : Int)) (by omega), wu64 (x := 0 + 4 * (off + 1073741824) + 4294967296 * (d : Int) + 281474976710656 * (q : Int)) (by omega)]
    rw [show encS off d q = 0 + 4 * (off + 1073741824) + 4294967296 * (d : Int) + 281474976710656 * (q : Int) by unfold encS; omega]
    rfl
  · rw [decide_eq_false hn]
    have e : off % 1073741824 = off := by omega
    rw [wu64 (x := off) (by omega), wu64 (x := 4 * off) (by omega), wu64 (x := 0 + 4 * off) (by omega), wu64 (x := 4294967296 * (d : Int)) (by omega), wu64 (x := 0 + 4 * off + 4294967296 * (d : Int)) (by omega), wu64 (x := 281474976710656 * (q : Int)) (by omega), wu64 (x := 0 + 4 * off + 4294967296 * (d : Int) + 281474976710656 * (q : Int)) (by omega)]
    rw [show encS off d q = 0 + 4 * off + 4294967296 * (d : Int) + 281474976710656 * (q : Int) by unfold encS; omega]
    rfl
theorem V_rEncode1 {off e c : Int} (ho : -536870912 ≤ off ∧ off ≤ 536870911) (he : 0 ≤ e ∧ e ≤ 7) (hc : 0 ≤ c ∧ c ≤ 536870911) : ev 53 [.pv (.agg [I 1, I off, I 0, I 0, I e, I c, Bo false, I 0, U32 0, U32 0])] [] = ok (.tup [U (encL off e c), Bo true]) := by
  rw [capnpref02_Encode_eq, capnpref02_Valid_eq, V_roff ho]
  dsimp only [callT_ret, callT_pan, onlyPV_v, Option.bind_some, pBool_v, pTup_v, pAgg_v, aggOf_v, pSl_v, pInt_v, pI64, pU64, pU32, pU8, List.getElem?_cons_zero, List.getElem?_cons_succ, cells_v, cells_sl, cells_agg, isCell_v, isCell_sl, cnd_t, cnd_f, tt_and, ff_and, nt_t, nt_f, len1, len3, len5, len8, len10, hlen1, clen1, clen5]
  rw [show ((1 : Int) == 0) = false from rfl, show ((1 : Int) == 1) = true from rfl, beq_self_eq_true off, beq_self_eq_true e, beq_self_eq_true c, show ((0 : Int) == 0) = true from rfl, decide_eq_true (show e ≥ 0 by omega), decide_eq_true he.2, decide_eq_true (show c ≥ 0 by omega), decide_eq_true hc.2]
  dsimp only [callT_ret, callT_pan, onlyPV_v, Option.bind_some, pBool_v, pTup_v, pAgg_v, aggOf_v, pSl_v, pInt_v, pI64, pU64, pU32, pU8, List.getElem?_cons_zero, List.getElem?_cons_succ, cells_v, cells_sl, cells_agg, isCell_v, isCell_sl, cnd_t, cnd_f, tt_and, ff_and, nt_t, nt_f, len1, len3, len5, len8, len10, hlen1, clen1, clen5]
  rw [show IntKind.wrap .u64 1 = 1 from rfl, wu64 (x := e) (by omega), wu64 (x := c) (by omega)]
  by_cases hn : off < 0
  · rw [decide_eq_true hn]
    have e' : off % 1073741824 = off + 1073741824 := by omega
    rw [w64 (x := off + 1073741824) (by omega), wu64 (x := off + 1073741824) (by omega), wu64 (x := 4 * (off + 1073741824)) (by omega), wu64 (x := 1 + 4 * (off + 1073741824)) (by omega), wu64 (x := 4294967296 * e) (by omega), wu64 (x := 1 + 4 * (off + 1073741824) + 4294967296 * e) (by omega), wu64 (x := 34359738368 * c) (by omega), wu64 (x := 1 + 4 * (off + 1073741824) + 4294967296 * e + 34359738368 * c) (by omega)]
    rw [show encL off e c = 1 + 4 * (off + 1073741824) + 4294967296 * e + 34359738368 * c by unfold encL; omega]
    rfl
  · rw [decide_eq_false hn]
    have e' : off % 1073741824 = off := by omega
    rw [wu64 (x := off) (by omega), wu64 (x := 4 * off) (by omega), wu64 (x := 1 + 4 * off) (by omega), wu64 (x := 4294967296 * e) (by omega), wu64 (x := 1 + 4 * off + 4294967296 * e) (by omega), wu64 (x := 34359738368 * c) (by omega), wu64 (x := 1 + 4 * off + 4294967296 * e + 34359738368 * c) (by omega)]
    rw [show encL off e c = 1 + 4 * off + 4294967296 * e + 34359738368 * c by unfold encL; omega]
    rfl
end Go.Proofs.YthpbjpnbafiipaaDoor.E
set_option linter.unusedVariables false
set_option linter.unusedSimpArgs false
namespace Go.Proofs.YthpbjpnbafiipaaDoor.E
/-! A canonical form costs no more than the message. -/
theorem nodSz_le : ∀ (D : Nat) {x : Nd}, VN x → Dp D x → nodSz D x ≤ cstN D x
  | 0, x, hv, hd => by
    have h0 : x.kind = 0 := hd
    rw [nodSz_null hv h0]
    exact Int.le_refl _
  | D + 1, x, hv, hd => by
    by_cases h0 : x.kind = 0
    · rw [nodSz_null hv h0]
      exact cstN_nn (D + 1) hv
    · have hd' := (hd.resolve_left h0).2
      rw [nodSz, cstN, if_neg h0]
      have h1 : objSz x ≤ ownC x := by
        unfold ownC
        split
        · rename_i h
          obtain ⟨hs, _⟩ := vn_shp hv
          rcases hs with hs | hs | hs <;> omega
        · omega
      have h2 : ∀ l : List Nd, (∀ t ∈ l, nodSz D t ≤ cstN D t) → sumL (l.map (nodSz D)) ≤ sumL (l.map (cstN D)) := by
        intro l
        induction l with
        | nil => intro _; exact Int.le_refl _
        | cons t l ih =>
          intro h
          rw [List.map_cons, List.map_cons, sumL_cons, sumL_cons]
          have := h t List.mem_cons_self
          have := ih fun x hx => h x (List.mem_cons_of_mem _ hx)
          omega
      have := h2 (tgt x) fun t ht => nodSz_le D (vn_tgt hv t ht) (hd' t ht)
      omega
theorem kids_cost {C : Nd → Int} {G : Int → Nat → Nd × Int × Int} {Q : Nd → Prop} : ∀ (c i : Nat) (m : Int) (acc : List Nd), (∀ m j, i ≤ j → j < i + c → (G m j).2.2 = 0 → C (G m j).1 ≤ m - (G m j).2.1 ∧ Q (G m j).1) → (kidsF G c i m acc).2.2 = 0 →
    ∃ ys, (kidsF G c i m acc).1 = acc ++ ys ∧ ys.length = c ∧ sumL (ys.map C) ≤ m - (kidsF G c i m acc).2.1 ∧ ∀ y ∈ ys, Q y
  | 0, i, m, acc, h, h0 => ⟨[], by simp [kidsF], rfl, by simp [kidsF, sumL_nil], fun y hy => by cases hy⟩
  | c + 1, i, m, acc, h, h0 => by
    rw [kidsF] at h0 ⊢
    by_cases e : (G m i).2.2 = 0
    · rw [if_pos e] at h0 ⊢
      obtain ⟨ys, k1, k2, k3, k4⟩ := kids_cost c (i + 1) _ _ (fun m j q1 q2 => h m j (by omega) (by omega)) h0
      obtain ⟨g1, g2⟩ := h m i (Nat.le_refl _) (by omega) e
      refine ⟨(G m i).1 :: ys, by rw [k1]; simp, by simp [k2], ?_, fun y hy => ?_⟩
      · rw [List.map_cons, sumL_cons]; omega
      · rcases List.mem_cons.1 hy with rfl | hy
        · exact g2
        · exact k4 y hy
    · rw [if_neg e] at h0
      exact absurd h0 e
theorem sumL_take {c : Nd → Int} : ∀ (l : List Nd) (n : Nat), (∀ x ∈ l, 0 ≤ c x) → sumL ((l.take n).map c) ≤ sumL (l.map c)
  | [], n, _ => by simp
  | x :: l, 0, h => by
    rw [List.take_zero, List.map_nil, sumL_nil]
    exact sumL_nn fun y hy => by
      obtain ⟨t, ht, rfl⟩ := List.mem_map.1 hy
      exact h t ht
  | x :: l, n + 1, h => by
    rw [List.take_succ_cons, List.map_cons, List.map_cons, sumL_cons, sumL_cons]
    have := sumL_take l n fun y hy => h y (List.mem_cons_of_mem _ hy)
    omega
/-- A traversal's answer costs at least what the canonical form of its value costs. -/
def Cst (D : Nat) (F : Int → Int → Int → Nd × Int × Int) : Prop := ∀ m s a, (F m s a).2.2 = 0 → cstN D (trimN (F m s a).1) ≤ m - (F m s a).2.1 ∧ VN (F m s a).1
theorem strct_cst {D : Nat} {F : Int → Int → Int → Nd × Int × Int} (h : Cst D F) (l : List (List Int)) (m : Int) {o : Ob} (hd : 0 ≤ o.data) (hz : (strct F l m o).2.2 = 0) :
    ∃ d ks, (strct F l m o).1 = .mk 1 0 0 d ks ∧ d.length ≤ 8 * o.data.toNat ∧ ks.length = o.ptrs.toNat ∧ sumL ((ks.map trimN).map (cstN D)) ≤ m - (strct F l m o).2.1 ∧ (∀ y ∈ ks, VN y) ∧ ((strct F l m o).2.1 = (strct F l m o).2.1) := by
  unfold strct at hz ⊢
  have hz' : (kidsF (fun m (i : Nat) => F m o.seg (o.at_ + o.data + i)) o.ptrs.toNat 0 m []).2.2 = 0 := hz
  obtain ⟨ys, k1, k2, k3, k4⟩ := kids_cost (C := fun x => cstN D (trimN x)) (Q := VN) o.ptrs.toNat 0 m [] (fun m j _ _ h0 => h m o.seg (o.at_ + o.data + j) h0) hz'
  rw [wrapK_ok0 hz']
  have hcl := cutB_len l o.seg o.at_ o.data
  refine ⟨_, _, rfl, by rw [byt_len]; omega, by rw [k1, List.nil_append, k2], ?_, fun y hy => k4 y (by rw [k1, List.nil_append] at hy; exact hy), rfl⟩
  rw [k1, List.nil_append, List.map_map]
  exact k3
theorem trim_mk1 (d : List Int) (ks : List Nd) : trimN (.mk 1 0 0 d ks) = .mk 1 0 0 (d.take (8 * wordsT d)) ((ks.map trimN).take (ptrsT ks)) := by rw [trimN, if_pos rfl, trimNs_eq]
/-- What an object charges. -/
theorem obj_cst {l : List (List Int)} (hl : Segs l) (hs : Sm l) {s a : Int} (h0 : (fol l s a).1 ≠ 0) (hf : (fol l s a).2.2.2 = 0) (he : (obj l s a).2 = 0) :
    ((obj l s a).1.kind = 1 → (obj l s a).1.data + (obj l s a).1.ptrs ≤ (obj l s a).1.cost) ∧ ((obj l s a).1.kind = 2 → (obj l s a).1.elem ≠ 7 → wordsOf (obj l s a).1.elem (obj l s a).1.n ≤ (obj l s a).1.cost) ∧
    ((obj l s a).1.kind = 2 → (obj l s a).1.elem = 7 → 1 + (obj l s a).1.n * ((obj l s a).1.data + (obj l s a).1.ptrs) ≤ (obj l s a).1.cost ∧ ((obj l s a).1.data + (obj l s a).1.ptrs = 0 → 1 + (obj l s a).1.n ≤ (obj l s a).1.cost)) := by
  have hd := dec_small (fol_word hl s a)
  unfold obj at he ⊢
  rw [if_pos hf, if_neg h0] at he ⊢
  unfold objP at he ⊢
  generalize decI (fol l s a).1 = p at he hd ⊢
  by_cases k0 : p.1 = 0
  · rw [if_pos k0] at he ⊢
    unfold objS at he ⊢
    by_cases hb : inB l (fol l s a).2.1 ((fol l s a).2.2.1 + p.2.1) (p.2.2.1 + p.2.2.2.1)
    · rw [if_pos hb]
      exact ⟨fun _ => by dsimp only; omega, fun h => absurd h (by dsimp only; omega), fun h => absurd h (by dsimp only; omega)⟩
    · rw [if_neg hb] at he; exact bad_no he (by decide)
  · rw [if_neg k0] at he ⊢
    by_cases k1 : p.1 = 1
    · rw [if_pos k1] at he ⊢
      unfold objL at he ⊢
      by_cases h7 : p.2.2.2.2.1 = 7
      · rw [if_pos h7] at he ⊢
        unfold objC at he ⊢
        by_cases hb : inB l (fol l s a).2.1 ((fol l s a).2.2.1 + p.2.1) (p.2.2.2.2.2.1 + 1)
        · rw [if_pos hb] at he ⊢
          split at he
          · rename_i hk
            rw [if_pos hk]
            refine ⟨fun h => absurd h (by dsimp only; omega), fun _ h => absurd rfl h, fun _ _ => ⟨?_, fun h => ?_⟩⟩
            · have := hk.2.1
              have := hk.2.2
              dsimp only
              split <;> omega
            · dsimp only at h ⊢
              rw [if_pos h]
              omega
          · exact bad_no he (by decide)
        · rw [if_neg hb] at he; exact bad_no he (by decide)
      · rw [if_neg h7] at he ⊢
        by_cases hb : inB l (fol l s a).2.1 ((fol l s a).2.2.1 + p.2.1) (wordsOf p.2.2.2.2.1 p.2.2.2.2.2.1)
        · rw [if_pos hb]
          exact ⟨fun h => absurd h (by dsimp only; omega), fun _ _ => by dsimp only; omega, fun _ h => absurd h h7⟩
        · rw [if_neg hb] at he; exact bad_no he (by decide)
    · rw [if_neg k1] at he
      split at he
      · exact bad_no he (by decide)
      · exact bad_no he (by decide)
theorem den_cst {l : List (List Int)} (hl : Segs l) (hs : Sm l) : ∀ D, Cst D (den l D) := by
  intro D
  induction D with
  | zero =>
    intro m s a hz
    unfold den at hz ⊢
    by_cases h1 : (fol l s a).2.2.2 = 0
    · rw [if_pos h1] at hz ⊢
      by_cases h2 : (fol l s a).1 = 0
      · rw [if_pos h2]
        exact ⟨by show 0 ≤ m - m; omega, vn0⟩
      · rw [if_neg h2] at hz; exact absurd hz (show ¬ (7 : Int) = 0 by decide)
    · rw [if_neg h1] at hz; exact absurd hz h1
  | succ D ih =>
    intro m s a hz
    refine ⟨?_, (den_okd hl hs (D + 1) m s a hz).1⟩
    rw [den] at hz ⊢
    dsimp only at hz ⊢
    by_cases h1 : (fol l s a).2.2.2 = 0
    · rw [if_pos h1] at hz ⊢
      by_cases h2 : (fol l s a).1 = 0
      · rw [if_pos h2]
        show cstN (D + 1) (trimN nd0) ≤ m - m
        rw [trimN0, cstN]
        show (if (0 : Int) = 0 then 0 else _) ≤ _
        rw [if_pos rfl]
        omega
      · rw [if_neg h2] at hz ⊢
        unfold denO at hz ⊢
        by_cases h3 : (obj l s a).2 = 0
        · rw [if_pos h3] at hz ⊢
          have ho := obj_ok hl hs h2 h1 h3
          have hi := obj_cst hl hs h2 h1 h3
          generalize (obj l s a).1 = o at hz ho hi ⊢
          by_cases h4 : o.cost > m
          · rw [if_pos h4] at hz; exact absurd hz (show ¬ (8 : Int) = 0 by decide)
          · rw [if_neg h4] at hz ⊢
            obtain ⟨hat, hd, hq, hel, hn, hco, hk, hw, hzz⟩ := ho
            by_cases k1 : o.kind = 1
            · rw [if_pos k1] at hz ⊢
              obtain ⟨d, ks, e1, e2, e3, e4, e5, _⟩ := strct_cst ih l (m - o.cost) hd.1 hz
              rw [e1, trim_mk1, cstN]
              show (if (1 : Int) = 0 then 0 else ownC (.mk 1 0 0 (d.take (8 * wordsT d)) ((ks.map trimN).take (ptrsT ks))) + sumL (((ks.map trimN).take (ptrsT ks)).map (cstN D))) ≤ _
              rw [if_neg (by decide), ownC_mk, if_neg (fun h => absurd h.1 (by decide))]
              have e6 : objSz (.mk 1 0 0 (d.take (8 * wordsT d)) ((ks.map trimN).take (ptrsT ks))) = (((d.take (8 * wordsT d)).length / 8 + ((ks.map trimN).take (ptrsT ks)).length : Nat) : Int) := rfl
              have e7 := sumL_take (c := cstN D) (ks.map trimN) (ptrsT ks) (fun x hx => by
                obtain ⟨y, hy, rfl⟩ := List.mem_map.1 hx
                exact cstN_nn D (vn_trim y (e5 y hy)))
              rw [e6, List.length_take, List.length_take, List.length_map]
              have := hi.1 k1
              omega
            · have k2 : o.kind = 2 := by omega
              rw [if_neg k1] at hz ⊢
              unfold denL at hz ⊢
              by_cases h6 : o.elem < 6
              · rw [if_pos h6]
                show cstN (D + 1) (trimN (.mk 2 o.elem o.n _ [])) ≤ m - (m - o.cost)
                rw [trimN, if_neg (by decide), cstN]
                show (if (2 : Int) = 0 then 0 else ownC (.mk 2 o.elem o.n _ []) + sumL ((tgt (.mk 2 o.elem o.n _ [])).map (cstN D))) ≤ _
                rw [if_neg (by decide), ownC_mk, if_neg (fun h => by omega), tgt_mk, if_neg (fun h => by omega)]
                have e6 : ∀ d, objSz (.mk 2 o.elem o.n d []) = wordsOf o.elem o.n := fun d => by
                  unfold objSz
                  show (if (2 : Int) = 0 then 0 else if (2 : Int) = 1 then _ else if o.elem = 7 then _ else wordsOf o.elem o.n) = _
                  rw [if_neg (by decide), if_neg (by decide), if_neg (by omega)]
                show objSz (.mk 2 o.elem o.n _ []) + 0 + 0 ≤ _
                rw [e6, ← (hw k2 h6).2]
                omega
              · rw [if_neg h6] at hz ⊢
                have hz' : (kidsF (fun m (i : Nat) => if o.elem = 6 then den l D m o.seg (o.at_ + i) else strct (den l D) l m (elt o i)) o.n.toNat 0 (m - o.cost) []).2.2 = 0 := hz
                rw [wrapK_ok0 hz']
                by_cases e6 : o.elem = 6
                · obtain ⟨ys, q1, q2, q3, q4⟩ := kids_cost (C := fun x => cstN D (trimN x)) (Q := VN) o.n.toNat 0 (m - o.cost) [] (fun m j _ _ h0 => by
                    rw [if_pos e6] at h0 ⊢
                    exact ih _ _ _ h0) hz'
                  generalize kidsF (fun m (i : Nat) => if o.elem = 6 then den l D m o.seg (o.at_ + i) else strct (den l D) l m (elt o i)) o.n.toNat 0 (m - o.cost) [] = K at q1 q3 ⊢
                  show cstN (D + 1) (trimN (.mk 2 o.elem o.n [] K.1)) ≤ m - K.2.1
                  rw [q1, List.nil_append, trimN, if_neg (by decide), trimNs_eq, cstN]
                  show (if (2 : Int) = 0 then 0 else ownC (.mk 2 o.elem o.n [] (ys.map trimN)) + sumL ((tgt (.mk 2 o.elem o.n [] (ys.map trimN))).map (cstN D))) ≤ _
                  rw [if_neg (by decide), ownC_mk, if_neg (fun h => by omega), tgt_mk, if_neg (fun h => by omega)]
                  have e7 : objSz (.mk 2 o.elem o.n [] (ys.map trimN)) = wordsOf o.elem o.n := by
                    unfold objSz
                    show (if (2 : Int) = 0 then 0 else if (2 : Int) = 1 then _ else if o.elem = 7 then _ else wordsOf o.elem o.n) = _
                    rw [if_neg (by decide), if_neg (by decide), if_neg (by omega)]
                  have := hi.2.1 k2 (by omega)
                  rw [e7, List.map_map]
                  have q3' : sumL (ys.map (cstN D ∘ trimN)) ≤ m - o.cost - K.2.1 := q3
                  omega
                · have e7 : o.elem = 7 := by omega
                  obtain ⟨ys, q1, q2, q3, q4⟩ := kids_cost (C := fun x => sumL ((trimN x).kids.map (cstN D))) (Q := fun x => (trimN x).data.length / 8 ≤ o.data.toNat ∧ (trimN x).kids.length ≤ o.ptrs.toNat) o.n.toNat 0 (m - o.cost) [] (fun m j _ _ h0 => by
                    rw [if_neg e6] at h0 ⊢
                    obtain ⟨d, ks, g1, g2, g3, g4, g5, _⟩ := strct_cst ih l m (o := elt o j) hd.1 h0
                    have g6 := sumL_take (c := cstN D) (ks.map trimN) (ptrsT ks) (fun x hx => by
                      obtain ⟨y, hy, rfl⟩ := List.mem_map.1 hx
                      exact cstN_nn D (vn_trim y (g5 y hy)))
                    rw [g1, trim_mk1]
                    refine ⟨?_, ?_, ?_⟩
                    · show sumL (((ks.map trimN).take (ptrsT ks)).map (cstN D)) ≤ _
                      omega
                    · show (d.take (8 * wordsT d)).length / 8 ≤ _
                      have g2' : d.length ≤ 8 * o.data.toNat := g2
                      rw [List.length_take]
                      omega
                    · show ((ks.map trimN).take (ptrsT ks)).length ≤ _
                      have g3' : ks.length = o.ptrs.toNat := g3
                      rw [List.length_take, List.length_map]
                      omega) hz'
                  generalize kidsF (fun m (i : Nat) => if o.elem = 6 then den l D m o.seg (o.at_ + i) else strct (den l D) l m (elt o i)) o.n.toNat 0 (m - o.cost) [] = K at q1 q3 ⊢
                  show cstN (D + 1) (trimN (.mk 2 o.elem o.n [] K.1)) ≤ m - K.2.1
                  rw [q1, List.nil_append, trimN, if_neg (by decide), trimNs_eq, cstN]
                  show (if (2 : Int) = 0 then 0 else ownC (.mk 2 o.elem o.n [] (ys.map trimN)) + sumL ((tgt (.mk 2 o.elem o.n [] (ys.map trimN))).map (cstN D))) ≤ _
                  rw [if_neg (by decide), ownC_mk, show tgt (.mk 2 o.elem o.n [] (ys.map trimN)) = (ys.map trimN).flatMap Nd.kids from if_pos ⟨rfl, e7⟩, sumL_flat, List.map_map]
                  have e8 : objSz (.mk 2 o.elem o.n [] (ys.map trimN)) = 1 + o.n * ((uniD (ys.map trimN) + uniP (ys.map trimN) : Nat) : Int) := by
                    unfold objSz
                    show (if (2 : Int) = 0 then 0 else if (2 : Int) = 1 then _ else if o.elem = 7 then 1 + o.n * ((uniD (ys.map trimN) + uniP (ys.map trimN) : Nat) : Int) else _) = _
                    rw [if_neg (by decide), if_neg (by decide), if_pos e7]
                  have u1 : uniD (ys.map trimN) ≤ o.data.toNat := uniD_le fun x hx => by
                    obtain ⟨y, hy, rfl⟩ := List.mem_map.1 hx
                    exact (q4 y hy).1
                  have u2 : uniP (ys.map trimN) ≤ o.ptrs.toNat := uniP_le fun x hx => by
                    obtain ⟨y, hy, rfl⟩ := List.mem_map.1 hx
                    exact (q4 y hy).2
                  have hc7 := hi.2.2 k2 e7
                  have hmul : o.n * ((uniD (ys.map trimN) + uniP (ys.map trimN) : Nat) : Int) ≤ o.n * (o.data + o.ptrs) := Int.mul_le_mul_of_nonneg_left (by omega) hn.1
                  rw [e8]
                  have q3' : sumL (ys.map ((fun k => sumL (k.kids.map (cstN D))) ∘ trimN)) ≤ m - o.cost - K.2.1 := q3
                  split
                  · rename_i hu
                    rw [hu.2.2]
                    have : o.n ≤ o.n * (o.data + o.ptrs) ∨ o.data + o.ptrs = 0 := by
                      by_cases hz0 : o.data + o.ptrs = 0
                      · exact .inr hz0
                      · left
                        have := Int.mul_le_mul_of_nonneg_left (show (1 : Int) ≤ o.data + o.ptrs by omega) hn.1
                        omega
                    rcases this with h | h
                    · simp only [Int.natCast_zero, Int.mul_zero]
                      have := hc7.1
                      omega
                    · have := hc7.2 h
                      simp only [Int.natCast_zero, Int.mul_zero]
                      omega
                  · have := hc7.1
                    omega
        · rw [if_neg h3] at hz; exact absurd hz h3
    · rw [if_neg h1] at hz; exact absurd hz h1
end Go.Proofs.YthpbjpnbafiipaaDoor.E
set_option linter.unusedVariables false
set_option linter.unusedSimpArgs false
namespace Go.Proofs.YthpbjpnbafiipaaDoor.E
/-! The program's sizes of canonical forms. -/
theorem nodSz_nn : ∀ (D : Nat) {x : Nd}, VN x → 0 ≤ nodSz D x
  | 0, x, hv => objSz_nn hv
  | D + 1, x, hv => by
    rw [nodSz]
    have := objSz_nn hv
    have := sumL_nn (l := (tgt x).map (nodSz D)) fun y hy => by
      obtain ⟨t, ht, rfl⟩ := List.mem_map.1 hy
      exact nodSz_nn D (vn_tgt hv t ht)
    omega
end Go.Proofs.YthpbjpnbafiipaaDoor.E
set_option linter.unusedVariables false
set_option linter.unusedSimpArgs false
namespace Go.Proofs.YthpbjpnbafiipaaDoor.E
/-! Bytes as words: the program and the reference. -/
theorem getD_drop (b : List Int) (n k : Nat) : (b.drop n).getD k 0 = b.getD (n + k) 0 := by
  rw [List.getD_eq_getElem?_getD, List.getD_eq_getElem?_getD, List.getElem?_drop]
theorem bs_getD {b : List Int} {i : Nat} (h : i < b.length) : (bs b)[i]? = some (U8 (b.getD i 0)) := by
  rw [bs_get h, List.getD_eq_getElem?_getD, List.getElem?_eq_getElem h]
  rfl
def byteN (b : List Int) (i : Nat) : Nat := (b.getD i 0).toNat
theorem byteN_eq {b : List Int} (hb : ∀ x ∈ b, Byte x) (i : Nat) : ((byteN b i : Nat) : Int) = b.getD i 0 ∧ byteN b i < 256 := by
  have := getD_byte hb i
  unfold byteN
  omega
def accD (f : Nat → Nat) : Nat → Nat
  | 0 => 0
  | k + 1 => accD f k * 256 + f (7 - k)
theorem accD_lt {f : Nat → Nat} (hf : ∀ k, f k < 256) : ∀ k, accD f k < 256 ^ k
  | 0 => by show 0 < 1; decide
  | k + 1 => by
    have := accD_lt hf k
    have h1 := hf (7 - k)
    rw [accD, Nat.pow_succ]
    omega
theorem accD_8 (f : Nat → Nat) : accD f 8 = (((((((0 * 256 + f 7) * 256 + f 6) * 256 + f 5) * 256 + f 4) * 256 + f 3) * 256 + f 2) * 256 + f 1) * 256 + f 0 := rfl
theorem accD_w8i {b : List Int} (hb : ∀ x ∈ b, Byte x) (n : Nat) : ((accD (fun k => byteN b (n + k)) 8 : Nat) : Int) = w8i (b.drop n) := by
  unfold w8i
  simp only [getD_drop]
  rw [← (byteN_eq hb (n + 0)).1, ← (byteN_eq hb (n + 1)).1, ← (byteN_eq hb (n + 2)).1, ← (byteN_eq hb (n + 3)).1, ← (byteN_eq hb (n + 4)).1, ← (byteN_eq hb (n + 5)).1, ← (byteN_eq hb (n + 6)).1, ← (byteN_eq hb (n + 7)).1]
  rw [accD_8]
  omega
theorem rget_loop {b : List Int} (hb : ∀ x ∈ b, Byte x) {i : Nat} (hi : 8 * i + 8 ≤ b.length) (hl : b.length ≤ 17592186044416) : ∀ (c k : Nat), k + c = 8 → capnpref01_Get_L0 (bs b) i ((accD (fun k => byteN b (8 * i + k)) k : Nat) : Int) (7 - k) = ok (.tup [U (w8i (b.drop (8 * i))), Bo true]) := by
  intro c
  induction c with
  | zero =>
    intro k hk
    have : k = 8 := by omega
    subst this
    rw [capnpref01_Get_L0_eq, decide_eq_false (by decide), accD_w8i hb]
    rfl
  | succ c ih =>
    intro k hk
    have hx := byteN_eq hb (8 * i + (7 - k))
    have ha := accD_lt (f := fun k => byteN b (8 * i + k)) (fun j => (byteN_eq hb (8 * i + j)).2) (k + 1)
    have hp : 256 ^ (k + 1) ≤ 256 ^ 8 := Nat.pow_le_pow_right (by decide) (by omega)
    rw [accD] at ha
    have hq2 : accD (fun k => byteN b (8 * i + k)) k * 256 + byteN b (8 * i + (7 - k)) < 2 ^ 64 := Nat.lt_of_lt_of_le ha (Nat.le_trans hp (by decide))
    have hq : accD (fun k => byteN b (8 * i + k)) k * 256 < 2 ^ 64 := Nat.lt_of_le_of_lt (Nat.le_add_right _ _) hq2
    rw [capnpref01_Get_L0_eq, decide_eq_true (show (7 : Int) - k ≥ 0 by omega), w64 (x := 8 * (i : Int)) (by omega), w64 (x := 8 * (i : Int) + (7 - k)) (by omega), decide_eq_true (show 0 ≤ 8 * (i : Int) + (7 - k) by omega), decide_eq_true (show 8 * (i : Int) + (7 - k) < ((bs b).length : Int) by simp; omega)]
    dsimp only [callT_ret, callT_pan, onlyPV_v, Option.bind_some, pBool_v, pTup_v, pAgg_v, aggOf_v, pSl_v, pInt_v, pI64, pU64, pU32, pU8, List.getElem?_cons_zero, List.getElem?_cons_succ, cells_v, cells_sl, cells_agg, isCell_v, isCell_sl, cnd_t, cnd_f, tt_and, ff_and, nt_t, nt_f, len1, len3, len5, len8, len10, hlen1, clen1, clen5]
    rw [show (8 * (i : Int) + (7 - k)).toNat = 8 * i + (7 - k) by omega, bs_getD (by omega), ← hx.1]
    dsimp only [callT_ret, callT_pan, onlyPV_v, Option.bind_some, pBool_v, pTup_v, pAgg_v, aggOf_v, pSl_v, pInt_v, pI64, pU64, pU32, pU8, List.getElem?_cons_zero, List.getElem?_cons_succ, cells_v, cells_sl, cells_agg, isCell_v, isCell_sl, cnd_t, cnd_f, tt_and, ff_and, nt_t, nt_f, len1, len3, len5, len8, len10, hlen1, clen1, clen5]
    rw [wu_nat (n := byteN b (8 * i + (7 - k))) (by omega), show ((accD (fun k => byteN b (8 * i + k)) k : Nat) : Int) * 256 = ((accD (fun k => byteN b (8 * i + k)) k * 256 : Nat) : Int) by rw [Int.natCast_mul]; rfl, wu_nat (n := accD (fun k => byteN b (8 * i + k)) k * 256) hq, ← Int.natCast_add, wu_nat hq2, w64 (x := (7 : Int) - k - 1) (by omega)]
    have := ih (k + 1) (by omega)
    rw [show (7 : Int) - ((k + 1 : Nat) : Int) = 7 - k - 1 by omega] at this
    exact this
theorem V_rGet {b : List Int} (hb : ∀ x ∈ b, Byte x) {i : Nat} (hi : 8 * i + 8 ≤ b.length) (hl : b.length ≤ 17592186044416) : ev 146 [.pv (.sl 1 (bs b)), .pv (I (i : Int))] [] = ok (.tup [U (w8i (b.drop (8 * i))), Bo true]) := by
  rw [capnpref01_Get_eq, bs_len, Int.tdiv_eq_ediv_of_nonneg (by omega), w64 (x := (b.length : Int) / 8) (by omega), w64 (x := (b.length : Int) / 8 - 1) (by omega), decide_eq_false (show ¬ (i : Int) < 0 by omega), decide_eq_false (show ¬ (i : Int) > (b.length : Int) / 8 - 1 by omega)]
  exact rget_loop hb hi hl 8 0 rfl
theorem wrdN_get : ∀ (n i : Nat) (b : List Int), i < n → (wrdN n b)[i]? = some (w8i (b.drop (8 * i)))
  | 0, i, b, h => by omega
  | n + 1, 0, b, h => by simp [wrdN]
  | n + 1, i + 1, b, h => by
    rw [wrdN, List.getElem?_cons_succ, wrdN_get n i (b.drop 8) (by omega), List.drop_drop]
    congr 3
    omega
theorem wrdN_snoc {n i : Nat} (b : List Int) (h : i < n) : (wrdN n b).take (i + 1) = (wrdN n b).take i ++ [w8i (b.drop (8 * i))] := by
  have hl : i < (wrdN n b).length := by rw [wrdN_len]; exact h
  rw [List.take_succ_eq_append_getElem hl]
  have := wrdN_get n i b h
  rw [List.getElem?_eq_getElem hl] at this
  rw [Option.some.inj this]
theorem w8i_pad (b : List Int) (z : Nat) : w8i (b ++ List.replicate z 0) = w8i b := by
  have h : ∀ k, (b ++ List.replicate z 0).getD k 0 = b.getD k 0 := fun k => by
    rw [List.getD_eq_getElem?_getD, List.getD_eq_getElem?_getD]
    by_cases h1 : k < b.length
    · rw [List.getElem?_append_left h1]
    · rw [List.getElem?_append_right (by omega), List.getElem?_replicate, List.getElem?_eq_none (by omega)]
      split <;> rfl
  unfold w8i
  simp only [h]
theorem wrdN_pad : ∀ (n : Nat) (b : List Int) (z : Nat), wrdN n (b ++ List.replicate z 0) = wrdN n b
  | 0, b, z => rfl
  | n + 1, b, z => by
    rw [wrdN, wrdN, w8i_pad, List.drop_append, List.drop_replicate, wrdN_pad n]
theorem rwords_loop8 {b : List Int} (hb : ∀ x ∈ b, Byte x) (hl : b.length ≤ 1099511627776) {n : Nat} (hn : 8 * n = b.length) : ∀ (c i : Nat), i + c = n → capnpref01_Words_L0 (bs b) (ws ((wrdN n b).take i)) i = some (.ret (.tup 0 (.slu 54 1 (ws (wrdN n b))) [.v .nilIface, Bo true]), []) := by
  intro c
  induction c with
  | zero =>
    intro i hi
    rw [capnpref01_Words_L0_eq, bs_len, Int.tdiv_eq_ediv_of_nonneg (by omega), show (b.length : Int) / 8 = n by omega, w64 (x := (n : Int)) (by omega), decide_eq_false (by omega), List.take_of_length_le (by rw [wrdN_len]; omega)]
    rfl
  | succ c ih =>
    intro i hi
    rw [capnpref01_Words_L0_eq, bs_len, Int.tdiv_eq_ediv_of_nonneg (by omega), show (b.length : Int) / 8 = n by omega, w64 (x := (n : Int)) (by omega), decide_eq_true (show (i : Int) < (n : Int) by omega), V_rGet hb (by omega) (by omega)]
    dsimp only [callT_ret, callT_pan, onlyPV_v, Option.bind_some, pBool_v, pTup_v, pAgg_v, aggOf_v, pSl_v, pInt_v, pI64, pU64, pU32, pU8, List.getElem?_cons_zero, List.getElem?_cons_succ, cells_v, cells_sl, cells_agg, isCell_v, isCell_sl, cnd_t, cnd_f, tt_and, ff_and, nt_t, nt_f, len1, len3, len5, len8, len10, hlen1, clen1, clen5]
    rw [roomy_ok (by rw [ws_len, List.length_take]; omega) (by rw [ws_len, List.length_take]; omega), w64 (x := (i : Int) + 1) (by omega), ws_snoc, ← wrdN_snoc b (by omega)]
    exact ih (i + 1) (by omega)
theorem V_rWords8 {b : List Int} (hb : ∀ x ∈ b, Byte x) (hl : b.length ≤ 1099511627776) {n : Nat} (hn : 8 * n = b.length) : ev 140 [.pv (.sl 1 (bs b))] [] = some (.ret (.tup 0 (.slu 54 1 (ws (wrdN n b))) [.v .nilIface, Bo true]), []) := by
  rw [capnpref01_Words_eq, bs_len, Int.tmod_eq_emod_of_nonneg (by omega), show ((b.length : Int) % 8 != 0) = false from by simp; omega]
  have := rwords_loop8 hb hl hn n 0 (by omega)
  rw [List.take_zero] at this
  exact this
theorem byte_pad {b : List Int} (hb : ∀ x ∈ b, Byte x) (z : Nat) : ∀ x ∈ b ++ List.replicate z 0, Byte x := fun x hx => by
  rcases List.mem_append.1 hx with h | h
  · exact hb x h
  · rw [(List.mem_replicate.1 h).2]; exact ⟨by decide, by decide⟩
theorem padded_loop {b : List Int} (hb : ∀ x ∈ b, Byte x) {n : Nat} (hn : n ≤ 137438953472) (h8 : b.length ≤ 8 * n) : ∀ (c z : Nat), b.length + z + c = 8 * n → capnpref14_padded_L0 n (bs (b ++ List.replicate z 0)) = some (.ret (.slu 54 1 (ws (wrdN n b))), []) := by
  intro c
  induction c with
  | zero =>
    intro z hz
    rw [capnpref14_padded_L0_eq, w64 (by omega), decide_eq_false (by rw [bs_len, List.length_append, List.length_replicate]; omega), V_rWords8 (byte_pad hb z) (by rw [List.length_append, List.length_replicate]; omega) (n := n) (by rw [List.length_append, List.length_replicate]; omega), wrdN_pad]
    dsimp only [callT_ret, callT_pan, onlyPV_v, Option.bind_some, pBool_v, pTup_v, pAgg_v, aggOf_v, pSl_v, pInt_v, pI64, pU64, pU32, pU8, List.getElem?_cons_zero, List.getElem?_cons_succ, cells_v, cells_sl, cells_agg, isCell_v, isCell_sl, cnd_t, cnd_f, tt_and, ff_and, nt_t, nt_f, len1, len3, len5, len8, len10, hlen1, clen1, clen5]
    rw [show pTupO 0 2 (.tup 0 (.slu 54 1 (ws (wrdN n b))) [.v .nilIface, Bo true]) = some (.slu 54 1 (ws (wrdN n b)), [.v .nilIface, Bo true]) from rfl]
    dsimp only [callT_ret, callT_pan, onlyPV_v, Option.bind_some, pBool_v, pTup_v, pAgg_v, aggOf_v, pSl_v, pInt_v, pI64, pU64, pU32, pU8, List.getElem?_cons_zero, List.getElem?_cons_succ, cells_v, cells_sl, cells_agg, isCell_v, isCell_sl, cnd_t, cnd_f, tt_and, ff_and, nt_t, nt_f, len1, len3, len5, len8, len10, hlen1, clen1, clen5]
    rw [pSlu_v]
    rfl
  | succ c ih =>
    intro z hz
    rw [capnpref14_padded_L0_eq, w64 (by omega), decide_eq_true (show ((bs (b ++ List.replicate z 0)).length : Int) < 8 * (n : Int) by rw [bs_len, List.length_append, List.length_replicate]; omega), roomy_ok (by rw [bs_len, List.length_append, List.length_replicate]; omega) (by rw [bs_len, List.length_append, List.length_replicate]; omega)]
    have := ih (z + 1) (by omega)
    rw [List.replicate_succ', ← List.append_assoc] at this
    have e : bs (b ++ List.replicate z 0 ++ [0]) = bs (b ++ List.replicate z 0) ++ [U8 0] := by simp [bs]
    rw [e] at this
    exact this
theorem V_padded {b : List Int} (hb : ∀ x ∈ b, Byte x) {n : Nat} (hn : n ≤ 137438953472) (h8 : b.length ≤ 8 * n) : ev 117 [.pv (.sl 1 (bs b)), .pv (I (n : Int))] [] = some (.ret (.slu 54 1 (ws (wrdN n b))), []) := by
  rw [capnpref14_padded_eq, bs_len, roomy_ok (by omega) (by omega)]
  have := padded_loop hb hn h8 (8 * n - b.length) 0 (by omega)
  rw [List.replicate_zero, List.append_nil] at this
  exact this
/-- The writer's heap. -/
def wh (W : List Int) : Heap := [[.slu 54 1 (ws W)]]
theorem ws_app (a b : List Int) : ws (a ++ b) = ws a ++ ws b := by simp [ws]
end Go.Proofs.YthpbjpnbafiipaaDoor.E
set_option linter.unusedVariables false
set_option linter.unusedSimpArgs false
namespace Go.Proofs.YthpbjpnbafiipaaDoor.E
/-! Placing: pure. -/
def placeP (B : Nd → List Int) (a : Nat) (t : Nd) (W : List Int) : List Int := if t.kind = 0 then W else W.set a (ptrI t ((W.length : Int) - a - 1)) ++ B t
def runP (B : Nd → List Int) : List (Nat × Nd) → List Int → List Int
  | [], W => W
  | (a, t) :: r, W => runP B r (placeP B a t W)
def prsS (i : Nat) : List Nd → List (Nat × Nd)
  | [] => []
  | t :: r => (i, t) :: prsS (i + 1) r
def prsC (a s i : Nat) : List Nd → List (Nat × Nd)
  | [] => []
  | k :: r => prsS (i + a) k.kids ++ prsC a s (i + s) r
def els (a b : Nat) (l : List Nd) : List Int := l.flatMap fun k => wrdN a k.data ++ List.replicate b 0
theorem runP_app (B : Nd → List Int) : ∀ (l m : List (Nat × Nd)) (W : List Int), runP B (l ++ m) W = runP B m (runP B l W)
  | [], m, W => rfl
  | (a, t) :: l, m, W => runP_app B l m _
theorem ptrI_null {t : Nd} (h : t.kind = 0) (o : Int) : ptrI t o = 0 := by unfold ptrI; rw [if_pos h]
theorem runS {B : Nd → List Int} (hB : ∀ t : Nd, t.kind = 0 → B t = []) : ∀ (q : List Nd) (X Y : List Int) (i n : Nat), i = X.length → n = X.length + q.length + Y.length → runP B (prsS i q) (X ++ (List.replicate q.length 0 ++ Y)) = X ++ (ptrW B i n q ++ (Y ++ q.flatMap B))
  | [], X, Y, i, n, hi, hn => by simp [runP, prsS, ptrW]
  | t :: r, X, Y, i, n, hi, hn => by
    rw [prsS, runP, ptrW, List.flatMap_cons, List.length_cons, List.replicate_succ]
    rw [List.length_cons] at hn
    have e : placeP B i t (X ++ (0 :: List.replicate r.length 0 ++ Y)) = (X ++ [ptrI t ((n : Int) - i - 1)]) ++ (List.replicate r.length 0 ++ (Y ++ B t)) := by
      unfold placeP
      by_cases h0 : t.kind = 0
      · rw [if_pos h0, ptrI_null h0, hB t h0]
        simp
      · rw [if_neg h0]
        have hl : (X ++ (0 :: List.replicate r.length 0 ++ Y)).length = n := by simp; omega
        rw [hl, hi, List.set_append_right _ _ (Nat.le_refl _), Nat.sub_self]
        simp
    rw [e, runS hB r (X ++ [ptrI t ((n : Int) - i - 1)]) (Y ++ B t) (i + 1) (n + (B t).length) (by simp [hi]) (by simp; omega)]
    simp only [List.append_assoc, List.singleton_append, List.cons_append, List.nil_append]
theorem els_cons (a b : Nat) (k : Nd) (l : List Nd) : els a b (k :: l) = wrdN a k.data ++ (List.replicate b 0 ++ els a b l) := by simp [els]
theorem els_len (a b : Nat) : ∀ l : List Nd, (els a b l).length = l.length * (a + b)
  | [] => by simp [els]
  | k :: l => by rw [els_cons, List.length_append, List.length_append, wrdN_len, List.length_replicate, els_len a b l, List.length_cons, Nat.add_mul]; omega
theorem runC {B : Nd → List Int} (hB : ∀ t : Nd, t.kind = 0 → B t = []) (a b : Nat) : ∀ (ks : List Nd) (X Y : List Int) (i n : Nat), i = X.length → n = X.length + ks.length * (a + b) + Y.length → (∀ k ∈ ks, k.kids.length ≤ b) → runP B (prsC a (a + b) i ks) (X ++ (els a b ks ++ Y)) = X ++ (asmC B a b i n ks ++ (Y ++ ks.flatMap fun k => k.kids.flatMap B))
  | [], X, Y, i, n, hi, hn, _ => by simp [runP, prsC, asmC, els]
  | k :: r, X, Y, i, n, hi, hn, hk => by
    have hb := hk k List.mem_cons_self
    rw [List.length_cons, Nat.add_mul, Nat.one_mul] at hn
    rw [prsC, runP_app, asmC, List.flatMap_cons, els_cons]
    have e1 : X ++ (wrdN a k.data ++ (List.replicate b 0 ++ els a b r) ++ Y) = (X ++ wrdN a k.data) ++ (List.replicate k.kids.length 0 ++ (List.replicate (b - k.kids.length) 0 ++ (els a b r ++ Y))) := by
      have : List.replicate b (0 : Int) = List.replicate k.kids.length 0 ++ List.replicate (b - k.kids.length) 0 := by rw [List.replicate_append_replicate]; congr 1; omega
      rw [this]
      simp only [List.append_assoc]
    rw [e1, runS hB k.kids (X ++ wrdN a k.data) (List.replicate (b - k.kids.length) 0 ++ (els a b r ++ Y)) (i + a) n (by simp [hi]) (by simp [els_len]; omega)]
    have e2 : X ++ wrdN a k.data ++ (ptrW B (i + a) n k.kids ++ (List.replicate (b - k.kids.length) 0 ++ (els a b r ++ Y) ++ k.kids.flatMap B)) = (X ++ (wrdN a k.data ++ (ptrW B (i + a) n k.kids ++ List.replicate (b - k.kids.length) 0))) ++ (els a b r ++ (Y ++ k.kids.flatMap B)) := by
      simp only [List.append_assoc]
    have r2 := runC hB a b r (X ++ (wrdN a k.data ++ (ptrW B (i + a) n k.kids ++ List.replicate (b - k.kids.length) 0))) (Y ++ k.kids.flatMap B) (i + (a + b)) (n + blen B k.kids) (by simp [hi]; omega) (by unfold blen; simp; omega) (fun x hx => hk x (List.mem_cons_of_mem _ hx))
    rw [e2, r2]
    simp only [List.append_assoc]
/-- Positions count from anywhere. -/
theorem ptrW_shift (B : Nd → List Int) (s : Nat) : ∀ (l : List Nd) (i n : Nat), ptrW B (i + s) (n + s) l = ptrW B i n l
  | [], i, n => rfl
  | t :: r, i, n => by
    rw [ptrW, ptrW]
    have e := ptrW_shift B s r (i + 1) (n + (B t).length)
    rw [show i + 1 + s = i + s + 1 by omega, show n + (B t).length + s = n + s + (B t).length by omega] at e
    rw [e]
    congr 2
    omega
theorem asmC_shift (B : Nd → List Int) (a b s : Nat) : ∀ (l : List Nd) (i n : Nat), asmC B a b (i + s) (n + s) l = asmC B a b i n l
  | [], i, n => rfl
  | k :: r, i, n => by
    rw [asmC, asmC]
    have e := asmC_shift B a b s r (i + (a + b)) (n + blen B k.kids)
    rw [show i + (a + b) + s = i + s + (a + b) by omega, show n + blen B k.kids + s = n + s + blen B k.kids by omega] at e
    rw [e]
    have e2 := ptrW_shift B s k.kids (i + a) n
    rw [show i + a + s = i + s + a by omega] at e2
    rw [e2]
/-- An object's words with null pointers, its pointers and what they refer to. -/
def shW (x : Nd) : List Int :=
  if x.kind = 1 then wrdN (x.data.length / 8) x.data ++ List.replicate x.kids.length 0
  else if x.elem = 7 then encS x.n (uniD x.kids) (uniP x.kids) :: els (uniD x.kids) (uniP x.kids) x.kids
  else if x.elem = 6 then List.replicate x.kids.length 0
  else wrdN (wordsOf x.elem x.n).toNat x.data
def prs (x : Nd) (s : Nat) : List (Nat × Nd) :=
  if x.kind = 1 then prsS (s + x.data.length / 8) x.kids
  else if x.elem = 7 then prsC (uniD x.kids) (uniD x.kids + uniP x.kids) (s + 1) x.kids
  else prsS s x.kids
theorem shW_len {B : Nd → List Int} {x : Nd} (hv : VN x) (h0 : x.kind ≠ 0) : (shW x).length = (obW B x).length := by
  obtain ⟨hs, _⟩ := vn_shp hv
  unfold shW obW
  by_cases h1 : x.kind = 1
  · rw [if_pos h1, if_pos h1]; simp
  · rw [if_neg h1, if_neg h1]
    by_cases h7 : x.elem = 7
    · rw [if_pos h7, if_pos h7, List.length_cons, List.length_cons, els_len, asmC_len _ _ _ _ _ _ (fun k hk => uniP_mem hk)]
    · rw [if_neg h7, if_neg h7]
      by_cases h6 : x.elem = 6
      · rw [if_pos h6, if_pos h6]; simp
      · rw [if_neg h6, if_neg h6]
/-- Placing what an object refers to completes it. -/
theorem runObj {B : Nd → List Int} (hB : ∀ t : Nd, t.kind = 0 → B t = []) {x : Nd} (hv : VN x) (h0 : x.kind ≠ 0) (W : List Int) : runP B (prs x W.length) (W ++ shW x) = W ++ (obW B x ++ (tgt x).flatMap B) := by
  obtain ⟨hs, _⟩ := vn_shp hv
  unfold prs shW obW
  by_cases h1 : x.kind = 1
  · rw [if_pos h1, if_pos h1, if_pos h1]
    have et : tgt x = x.kids := if_neg (fun h => by rw [h1] at h; exact absurd h.1 (by decide))
    have r := runS hB x.kids (W ++ wrdN (x.data.length / 8) x.data) [] (W.length + x.data.length / 8) (W.length + (x.data.length / 8 + x.kids.length)) (by simp) (by simp; omega)
    rw [List.append_nil] at r
    rw [← List.append_assoc, r, et, List.nil_append]
    have e := ptrW_shift B W.length x.kids (x.data.length / 8) (x.data.length / 8 + x.kids.length)
    rw [Nat.add_comm _ W.length, Nat.add_comm _ W.length] at e
    rw [e]
    simp only [List.append_assoc]
  · rw [if_neg h1, if_neg h1, if_neg h1]
    by_cases h7 : x.elem = 7
    · rw [if_pos h7, if_pos h7, if_pos h7]
      have hk2 : x.kind = 2 := by rcases hs with h | h | h <;> omega
      have et : tgt x = x.kids.flatMap Nd.kids := if_pos ⟨hk2, h7⟩
      have r := runC hB (uniD x.kids) (uniP x.kids) x.kids (W ++ [encS x.n (uniD x.kids) (uniP x.kids)]) [] (W.length + 1) (W.length + (1 + x.kids.length * uni x)) (by simp) (by unfold uni; simp; omega) (fun k hk => uniP_mem hk)
      rw [List.append_nil] at r
      rw [et, flat_flat]
      have e1 : W ++ encS x.n (uniD x.kids) (uniP x.kids) :: els (uniD x.kids) (uniP x.kids) x.kids = W ++ [encS x.n (uniD x.kids) (uniP x.kids)] ++ els (uniD x.kids) (uniP x.kids) x.kids := by simp
      rw [e1, r, List.nil_append]
      have e := asmC_shift B (uniD x.kids) (uniP x.kids) W.length x.kids 1 (1 + x.kids.length * uni x)
      rw [Nat.add_comm _ W.length, Nat.add_comm _ W.length] at e
      rw [e]
      simp
    · rw [if_neg h7, if_neg h7, if_neg h7]
      have et : tgt x = x.kids := if_neg (fun h => h7 h.2)
      rw [et]
      by_cases h6 : x.elem = 6
      · rw [if_pos h6, if_pos h6]
        have r := runS hB x.kids W [] W.length (W.length + x.kids.length) rfl (by simp)
        rw [List.append_nil] at r
        rw [r, List.nil_append]
        have e := ptrW_shift B W.length x.kids 0 x.kids.length
        rw [Nat.zero_add, Nat.add_comm] at e
        rw [e]
      · rw [if_neg h6, if_neg h6]
        have hk : x.kids = [] := by
          rcases hs with h | h | h
          · omega
          · omega
          · exact List.length_eq_zero_iff.1 (h.2.2.2.2 (by omega)).1
        rw [hk]
        simp [prsS, runP]
theorem body_null (D : Nat) (t : Nd) (h : t.kind = 0) : body D t = [] := by
  cases D with
  | zero => rfl
  | succ D => rw [body, if_pos h]
/-- What placing a node comes to. -/
theorem placeP_step {D : Nat} {x : Nd} (hv : VN x) (h0 : x.kind ≠ 0) {a : Nat} {W : List Int} (ha : a < W.length) : placeP (body (D + 1)) a x W = runP (body D) (prs x W.length) ((W ++ shW x).set a (ptrI x ((W.length : Int) - a - 1))) := by
  unfold placeP
  rw [if_neg h0, List.set_append_left _ _ ha]
  have r := runObj (body_null D) hv h0 (W.set a (ptrI x ((W.length : Int) - a - 1)))
  rw [List.length_set] at r
  rw [r, body, if_neg h0]
end Go.Proofs.YthpbjpnbafiipaaDoor.E
set_option linter.unusedVariables false
set_option linter.unusedSimpArgs false
namespace Go.Proofs.YthpbjpnbafiipaaDoor.E
/-! The program's canonical writer. -/
def Pt0 (off : Int) (d q : Nat) : PV := .agg [I 0, I off, I d, I q, I 0, I 0, Bo false, I 0, U32 0, U32 0]
def Pt1 (off e c : Int) : PV := .agg [I 1, I off, I 0, I 0, I e, I c, Bo false, I 0, U32 0, U32 0]
end Go.Proofs.YthpbjpnbafiipaaDoor.E
set_option linter.unusedVariables false
set_option linter.unusedSimpArgs false
namespace Go.Proofs.YthpbjpnbafiipaaDoor.E
/-! The program writes the canonical form. -/
theorem body_len' {D : Nat} {x : Nd} (h : Ok D x) : ((body D x).length : Int) = nodSz D x := body_len D h.vn h.dp
theorem placeP_len {D : Nat} {t : Nd} (h : Ok D t) (a : Nat) (W : List Int) : ((placeP (body D) a t W).length : Int) = W.length + nodSz D t := by
  unfold placeP
  split
  · rename_i h0
    rw [nodSz_null h.vn h0, Int.add_zero]
  · rw [List.length_append, List.length_set, ← body_len' h]
    push_cast
    rfl
theorem ws_set (L : List Int) (i : Nat) (w : Int) : (ws L).set i (U w) = ws (L.set i w) := by simp [ws, List.map_set]
/-- A node placed by the program. -/
def Plc (D : Nat) (t : Nd) : Prop := ∀ (W : List Int) (a : Nat), a < W.length → (W.length : Int) + nodSz D t ≤ 268435456 → ev 51 [.ptr 0 0, .pv (I (a : Int)), .pv t.x] (wh W) = some (.ret (.pv (.tup [])), wh (placeP (body D) a t W))
section
variable {D : Nat} {q : List Nd} (hq : q.length ≤ 268435456) (hP : ∀ t ∈ q, Plc D t) (hO : ∀ t ∈ q, Ok D t) (xs0 : List PV) (p2 : PV) (i3 i4 i9 i10 i11 : Int) (xs12 xs13 : List PV) (p14 : PV) (i15 : Int) (p16 p17 p18 p19 p20 p21 p22 p23 : PV) {f : Nat}
include hq hP hO
end
theorem put_ok {L : List Int} {a : Nat} (ha : a < L.length) (w : Int) : ∃ y, (ws L)[a]? = some (U y) := ⟨L[a], ws_get ha⟩
theorem sum_tgt_nn {D : Nat} {x : Nd} (h : Ok (D + 1) x) (h0 : x.kind ≠ 0) : 0 ≤ sumL ((tgt x).map (nodSz D)) := sumL_nn fun y hy => by
  obtain ⟨t, ht, rfl⟩ := List.mem_map.1 hy
  exact nodSz_nn D (ok_tgt h h0 t ht).vn
theorem unit_ok (D : Nat) (x : Nd) : placeP (body D) 0 x [0] = canW D x := by
  unfold placeP canW
  by_cases h0 : x.kind = 0
  · rw [if_pos h0, ptrI_null h0, body_null D x h0]
  · rw [if_neg h0]
    rfl
end Go.Proofs.YthpbjpnbafiipaaDoor.E
set_option linter.unusedVariables false
set_option linter.unusedSimpArgs false
namespace Go.Proofs.YthpbjpnbafiipaaDoor.E
/-! The reference's canonical writer: what an object looks like. -/
theorem rUni_loop {l : List Nd} (hl : l.length ≤ 1073741824) (hd : ∀ x ∈ l, x.data.length ≤ 17592186044416) (a b c : Int) (x : List PV) : ∀ (c0 i : Nat), i + c0 = l.length → capnpref11_Uniform_L0 (uniD (l.take i) : Nat) (uniP (l.take i) : Nat) i a b c x (pvs l) = ok (.tup [I (uniD l : Nat), I (uniP l : Nat)]) := by
  intro c0
  induction c0 with
  | zero =>
    intro i hi
    rw [capnpref11_Uniform_L0_eq, decide_eq_false (by simp; omega), List.take_of_length_le (by omega)]
    rfl
  | succ c0 ih =>
    intro i hi
    have hil : i < l.length := by omega
    have hdi := hd _ (List.getElem_mem hil)
    have e1 : uniD (l.take (i + 1)) = max (uniD (l.take i)) (l[i].data.length / 8) := by rw [take_snoc hil, uniD_snoc]
    have e2 : uniP (l.take (i + 1)) = max (uniP (l.take i)) l[i].kids.length := by rw [take_snoc hil, uniP_snoc]
    have hih := ih (i + 1) (by omega)
    rw [capnpref11_Uniform_L0_eq, decide_eq_true (show (i : Int) < ((pvs l).length : Int) by simp; omega), decide_eq_true (show 0 ≤ (i : Int) by omega)]
    dsimp only [callT_ret, callT_pan, onlyPV_v, Option.bind_some, pBool_v, pTup_v, pAgg_v, aggOf_v, pSl_v, pInt_v, pI64, pU64, pU32, pU8, List.getElem?_cons_zero, List.getElem?_cons_succ, cells_v, cells_sl, cells_agg, isCell_v, isCell_sl, cnd_t, cnd_f, tt_and, ff_and, nt_t, nt_f, len1, len3, len5, len8, len10, hlen1, clen1, clen5]
    rw [Int.toNat_natCast, pvs_get hil]
    dsimp only [callT_ret, callT_pan, onlyPV_v, Option.bind_some, pBool_v, pTup_v, pAgg_v, aggOf_v, pSl_v, pInt_v, pI64, pU64, pU32, pU8, List.getElem?_cons_zero, List.getElem?_cons_succ, cells_v, cells_sl, cells_agg, isCell_v, isCell_sl, cnd_t, cnd_f, tt_and, ff_and, nt_t, nt_f, len1, len3, len5, len8, len10, hlen1, clen1, clen5]
    rw [nd_cells]
    dsimp only [Nd.c, callT_ret, callT_pan, onlyPV_v, Option.bind_some, pBool_v, pTup_v, pAgg_v, aggOf_v, pSl_v, pInt_v, pI64, pU64, pU32, pU8, List.getElem?_cons_zero, List.getElem?_cons_succ, cells_v, cells_sl, cells_agg, isCell_v, isCell_sl, cnd_t, cnd_f, tt_and, ff_and, nt_t, nt_f, len1, len3, len5, len8, len10, hlen1, clen1, clen5]
    rw [bs_len, pvs_len, Int.tdiv_eq_ediv_of_nonneg (by omega), w64 (x := (l[i].data.length : Int) / 8) (by omega), w64 (x := (i : Int) + 1) (by omega)]
    by_cases g1 : (l[i].data.length : Int) / 8 > ((uniD (l.take i) : Nat) : Int)
    · have f1 : (l[i].data.length : Int) / 8 = ((uniD (l.take (i + 1)) : Nat) : Int) := by omega
      rw [decide_eq_true g1]
      by_cases g2 : (l[i].kids.length : Int) > ((uniP (l.take i) : Nat) : Int)
      · have f2 : (l[i].kids.length : Int) = ((uniP (l.take (i + 1)) : Nat) : Int) := by omega
        rw [decide_eq_true g2, f1, f2]
        exact hih
      · have f2 : ((uniP (l.take i) : Nat) : Int) = ((uniP (l.take (i + 1)) : Nat) : Int) := by omega
        rw [decide_eq_false g2, f1, f2]
        exact hih
    · have f1 : ((uniD (l.take i) : Nat) : Int) = ((uniD (l.take (i + 1)) : Nat) : Int) := by omega
      rw [decide_eq_false g1]
      by_cases g2 : (l[i].kids.length : Int) > ((uniP (l.take i) : Nat) : Int)
      · have f2 : (l[i].kids.length : Int) = ((uniP (l.take (i + 1)) : Nat) : Int) := by omega
        rw [decide_eq_true g2, f1, f2]
        exact hih
      · have f2 : ((uniP (l.take i) : Nat) : Int) = ((uniP (l.take (i + 1)) : Nat) : Int) := by omega
        rw [decide_eq_false g2, f1, f2]
        exact hih
theorem V_rUniform {x : Nd} (hl : x.kids.length ≤ 1073741824) (hd : ∀ y ∈ x.kids, y.data.length ≤ 17592186044416) : ev 119 [.pv x.x] [] = ok (.tup [I (uniD x.kids : Nat), I (uniP x.kids : Nat)]) := by
  rw [Nd.x, capnpref11_Uniform_eq]
  exact rUni_loop hl hd x.kind x.elem x.n (bs x.data) x.kids.length 0 (by omega)
theorem V_rObj13 {x : Nd} (hg : good x) (hv : VN x) (hb : objSz x ≤ 4611686018427387904) (hu : uniD x.kids + uniP x.kids ≤ 4611686018427387904) : ev 118 [.pv x.x] [] = ok (I (objSz x)) := by
  obtain ⟨hd, hk, hks⟩ := good_len hg
  obtain ⟨hs, _⟩ := vn_shp hv
  have hun := V_rUniform hk (fun y hy => (good_len (hks y hy)).1)
  rw [Nd.x] at hun ⊢
  rw [capnpref13_Object_eq, bs_len, pvs_len]
  unfold objSz at hb ⊢
  rcases hs with hs | hs | hs
  · rw [beq_iff_eq.2 hs.1, if_pos hs.1]; rfl
  · rw [beq_eq_false_iff_ne.2 (show x.kind ≠ 0 by omega), beq_iff_eq.2 hs.1, if_neg (by omega), if_pos hs.1]
    dsimp only [callT_ret, callT_pan, onlyPV_v, Option.bind_some, pBool_v, pTup_v, pAgg_v, aggOf_v, pSl_v, pInt_v, pI64, pU64, pU32, pU8, List.getElem?_cons_zero, List.getElem?_cons_succ, cells_v, cells_sl, cells_agg, isCell_v, isCell_sl, cnd_t, cnd_f, tt_and, ff_and, nt_t, nt_f, len1, len3, len5, len8, len10, hlen1, clen1, clen5]
    rw [Int.tdiv_eq_ediv_of_nonneg (by omega), w64 (x := (x.data.length : Int) / 8) (by omega), w64 (by omega)]
    rw [show (x.data.length : Int) / 8 + (x.kids.length : Int) = ((x.data.length / 8 + x.kids.length : Nat) : Int) by omega]
  · rw [if_neg (by omega), if_neg (by omega)] at hb ⊢
    rw [beq_eq_false_iff_ne.2 (show x.kind ≠ 0 by omega), beq_eq_false_iff_ne.2 (show x.kind ≠ 1 by omega)]
    dsimp only [callT_ret, callT_pan, onlyPV_v, Option.bind_some, pBool_v, pTup_v, pAgg_v, aggOf_v, pSl_v, pInt_v, pI64, pU64, pU32, pU8, List.getElem?_cons_zero, List.getElem?_cons_succ, cells_v, cells_sl, cells_agg, isCell_v, isCell_sl, cnd_t, cnd_f, tt_and, ff_and, nt_t, nt_f, len1, len3, len5, len8, len10, hlen1, clen1, clen5]
    by_cases h7 : x.elem = 7
    · rw [if_pos h7] at hb ⊢
      rw [beq_iff_eq.2 h7]
      dsimp only [callT_ret, callT_pan, onlyPV_v, Option.bind_some, pBool_v, pTup_v, pAgg_v, aggOf_v, pSl_v, pInt_v, pI64, pU64, pU32, pU8, List.getElem?_cons_zero, List.getElem?_cons_succ, cells_v, cells_sl, cells_agg, isCell_v, isCell_sl, cnd_t, cnd_f, tt_and, ff_and, nt_t, nt_f, len1, len3, len5, len8, len10, hlen1, clen1, clen5]
      rw [hun]
      have hm := Int.mul_nonneg hs.2.1.1 (Int.natCast_nonneg (uniD x.kids + uniP x.kids))
      dsimp only [callT_ret, callT_pan, onlyPV_v, Option.bind_some, pBool_v, pTup_v, pAgg_v, aggOf_v, pSl_v, pInt_v, pI64, pU64, pU32, pU8, List.getElem?_cons_zero, List.getElem?_cons_succ, cells_v, cells_sl, cells_agg, isCell_v, isCell_sl, cnd_t, cnd_f, tt_and, ff_and, nt_t, nt_f, len1, len3, len5, len8, len10, hlen1, clen1, clen5]
      rw [w64 (x := ((uniD x.kids : Nat) : Int) + ((uniP x.kids : Nat) : Int)) (by omega), show ((uniD x.kids : Nat) : Int) + ((uniP x.kids : Nat) : Int) = ((uniD x.kids + uniP x.kids : Nat) : Int) by push_cast; rfl, w64 (x := x.n * ((uniD x.kids + uniP x.kids : Nat) : Int)) (by omega), w64 (by omega)]
    · rw [if_neg h7]
      rw [beq_eq_false_iff_ne.2 h7, V_rWords hs.2.1]
      rfl
theorem rtargets_loop {l : List Nd} (hl : l.length ≤ 1073741824) (a b c : Int) (x : List PV) : ∀ (c0 i : Nat), i + c0 = l.length → (l.flatMap Nd.kids).length ≤ 1073741824 → capnpref14_Targets_L0 (pvs ((l.take i).flatMap Nd.kids)) i a b c x (pvs l) = ok (.sl 5 (pvs (l.flatMap Nd.kids))) := by
  intro c0
  induction c0 with
  | zero =>
    intro i hi hf
    rw [capnpref14_Targets_L0_eq, decide_eq_false (by simp; omega), List.take_of_length_le (by omega)]
    rfl
  | succ c0 ih =>
    intro i hi hf
    have hil : i < l.length := by omega
    rw [capnpref14_Targets_L0_eq, decide_eq_true (show (i : Int) < ((pvs l).length : Int) by simp; omega), decide_eq_true (show 0 ≤ (i : Int) by omega)]
    dsimp only [callT_ret, callT_pan, onlyPV_v, Option.bind_some, pBool_v, pTup_v, pAgg_v, aggOf_v, pSl_v, pInt_v, pI64, pU64, pU32, pU8, List.getElem?_cons_zero, List.getElem?_cons_succ, cells_v, cells_sl, cells_agg, isCell_v, isCell_sl, cnd_t, cnd_f, tt_and, ff_and, nt_t, nt_f, len1, len3, len5, len8, len10, hlen1, clen1, clen5]
    rw [Int.toNat_natCast, pvs_get hil]
    dsimp only [callT_ret, callT_pan, onlyPV_v, Option.bind_some, pBool_v, pTup_v, pAgg_v, aggOf_v, pSl_v, pInt_v, pI64, pU64, pU32, pU8, List.getElem?_cons_zero, List.getElem?_cons_succ, cells_v, cells_sl, cells_agg, isCell_v, isCell_sl, cnd_t, cnd_f, tt_and, ff_and, nt_t, nt_f, len1, len3, len5, len8, len10, hlen1, clen1, clen5]
    rw [nd_cells]
    dsimp only [Nd.c, callT_ret, callT_pan, onlyPV_v, Option.bind_some, pBool_v, pTup_v, pAgg_v, aggOf_v, pSl_v, pInt_v, pI64, pU64, pU32, pU8, List.getElem?_cons_zero, List.getElem?_cons_succ, cells_v, cells_sl, cells_agg, isCell_v, isCell_sl, cnd_t, cnd_f, tt_and, ff_and, nt_t, nt_f, len1, len3, len5, len8, len10, hlen1, clen1, clen5]
    have hnext : pvs ((l.take i).flatMap Nd.kids) ++ pvs l[i].kids = pvs ((l.take (i + 1)).flatMap Nd.kids) := by
      rw [take_snoc hil, List.flatMap_append, pvs_app]
      simp
    have hlen : ((l.take (i + 1)).flatMap Nd.kids).length ≤ (l.flatMap Nd.kids).length := by
      conv => rhs; rw [← List.take_append_drop (i + 1) l, List.flatMap_append, List.length_append]
      omega
    have hadd : (pvs ((l.take i).flatMap Nd.kids)).length + (pvs l[i].kids).length = ((l.take (i + 1)).flatMap Nd.kids).length := by
      rw [← List.length_append, hnext, pvs_len]
    rw [hadd, roomy_ok (by omega) (by omega), hnext, w64 (x := (i : Int) + 1) (by omega)]
    exact ih (i + 1) (by omega) hf
theorem V_rTargets {x : Nd} (hg : good x) (hf : (tgt x).length ≤ 1073741824) : ev 83 [.pv x.x] [] = ok (.sl 5 (pvs (tgt x))) := by
  cases x with
  | mk k e n d ks =>
    rw [good] at hg
    obtain ⟨⟨hd, hb, hk, h8⟩, hks⟩ := hg
    rw [tgt_mk] at hf ⊢
    rw [Nd.x]
    dsimp only [Nd.kind, Nd.elem, Nd.n, Nd.data, Nd.kids]
    rw [capnpref14_Targets_eq]
    by_cases k2 : k = 2
    · by_cases e7 : e = 7
      · rw [if_pos ⟨k2, e7⟩] at hf ⊢
        rw [show (k != 2) = false from by simpa using k2, show (e != 7) = false from by simpa using e7]
        exact rtargets_loop hk k e n (bs d) ks.length 0 (by omega) hf
      · rw [if_neg (fun h => e7 h.2), show (k != 2) = false from by simpa using k2, show (e != 7) = true from by simpa using e7]
        rfl
    · rw [if_neg (fun h => k2 h.1), show (k != 2) = true from by simpa using k2]
      rfl
/-- Indices of pointers. -/
def ix (P : List (Nat × Nd)) : List PV := P.map fun p => I (p.1 : Int)
theorem ix_app (a b : List (Nat × Nd)) : ix (a ++ b) = ix a ++ ix b := by simp [ix]
@[simp] theorem ix_len (a : List (Nat × Nd)) : (ix a).length = a.length := by simp [ix]
theorem prsS_app : ∀ (a b : List Nd) (i : Nat), prsS i (a ++ b) = prsS i a ++ prsS (i + a.length) b
  | [], b, i => by simp [prsS]
  | x :: a, b, i => by
    rw [List.cons_append, prsS, prsS, prsS_app a b (i + 1), List.length_cons, List.cons_append, show i + 1 + a.length = i + (a.length + 1) by omega]
theorem prsC_app (u s : Nat) : ∀ (a b : List Nd) (i : Nat), prsC u s i (a ++ b) = prsC u s i a ++ prsC u s (i + a.length * s) b
  | [], b, i => by simp [prsC]
  | x :: a, b, i => by
    rw [List.cons_append, prsC, prsC, prsC_app u s a b (i + s), List.length_cons, List.append_assoc, show i + s + a.length * s = i + (a.length + 1) * s by rw [Nat.add_mul, Nat.one_mul]; omega]
@[simp] theorem prsS_len : ∀ (q : List Nd) (i : Nat), (prsS i q).length = q.length
  | [], i => rfl
  | t :: r, i => by rw [prsS, List.length_cons, List.length_cons, prsS_len r]
theorem wrdN_nil : ∀ n : Nat, wrdN n [] = List.replicate n 0
  | 0 => rfl
  | n + 1 => by
    have := wrdN_nil n
    rw [wrdN, List.replicate_succ]
    simp only [List.drop_nil, this]
    rfl
section
variable (i3 i4 i5 : Int) (xs6 xs7 : List PV) (i8 i9 i10 i11 i12 i13 : Int) (b14 : Bool) (i15 i16 i17 i18 i19 i20 i22 i23 : Int) (b24 : Bool) (i25 i26 i27 : Int)
theorem sh0_loop {q : List Nd} {W : List Int} (hq : q.length ≤ 268435456) (hW : W.length ≤ 268435456) : ∀ (c j : Nat), j + c = q.length →
    capnpref14_Shallow_L0 (ix (prsS W.length (q.take j))) (ws (W ++ List.replicate j 0)) j i3 i4 i5 xs6 xs7 i8 i9 i10 i11 i12 i13 b14 i15 i16 i17 i18 i19 i20 q.length i22 i23 b24 i25 i26 i27 =
      ok (.tup [.sl 1 (ws (W ++ List.replicate q.length 0)), .agg [I i18, I i19, I i20, I (q.length : Int), I i22, I i23, Bo b24, I i25, U32 i26, U32 i27], .sl 1 (ix (prsS W.length q))]) := by
  intro c
  induction c with
  | zero =>
    intro j hj
    rw [capnpref14_Shallow_L0_eq, decide_eq_false (by omega), List.take_of_length_le (by omega), show j = q.length by omega]
    rfl
  | succ c ih =>
    intro j hj
    have hjl : j < q.length := by omega
    rw [capnpref14_Shallow_L0_eq, decide_eq_true (show (j : Int) < (q.length : Int) by omega)]
    dsimp only [callT_ret, callT_pan, onlyPV_v, Option.bind_some, pBool_v, pTup_v, pAgg_v, aggOf_v, pSl_v, pInt_v, pI64, pU64, pU32, pU8, List.getElem?_cons_zero, List.getElem?_cons_succ, cells_v, cells_sl, cells_agg, isCell_v, isCell_sl, cnd_t, cnd_f, tt_and, ff_and, nt_t, nt_f, len1, len3, len5, len8, len10, hlen1, clen1, clen5]
    rw [roomy_ok (by simp; omega) (by simp; omega), roomy_ok (by simp; omega) (by simp; omega), w64 (x := (j : Int) + 1) (by omega), ws_snoc]
    dsimp only [callT_ret, callT_pan, onlyPV_v, Option.bind_some, pBool_v, pTup_v, pAgg_v, aggOf_v, pSl_v, pInt_v, pI64, pU64, pU32, pU8, List.getElem?_cons_zero, List.getElem?_cons_succ, cells_v, cells_sl, cells_agg, isCell_v, isCell_sl, cnd_t, cnd_f, tt_and, ff_and, nt_t, nt_f, len1, len3, len5, len8, len10, hlen1, clen1, clen5]
    have e1 : ix (prsS W.length (q.take j)) ++ [I ((ws (W ++ List.replicate j 0)).length : Int)] = ix (prsS W.length (q.take (j + 1))) := by
      rw [take_snoc hjl, prsS_app, ix_app, ws_len, List.length_append, List.length_replicate, List.length_take, Nat.min_eq_left (by omega)]
      rfl
    have e2 : W ++ List.replicate j 0 ++ [0] = W ++ List.replicate (j + 1) (0 : Int) := by rw [List.replicate_succ', List.append_assoc]
    rw [e1, e2]
    exact ih (j + 1) (by omega)
theorem sh2_loop {q : List Nd} {W : List Int} {i21 : Int} (hq : q.length ≤ 1073741824) : ∀ (c j : Nat), j + c = q.length →
    capnpref14_Shallow_L2 (ix (prsS 0 (q.take j))) (ws W) j i3 i4 i5 xs6 (pvs q) i8 i9 i10 i11 i12 i13 b14 i15 i16 i17 i18 i19 i20 i21 i22 i23 b24 i25 i26 i27 =
      ok (.tup [.sl 1 (ws W), .agg [I i18, I i19, I i20, I i21, I i22, I i23, Bo b24, I i25, U32 i26, U32 i27], .sl 1 (ix (prsS 0 q))]) := by
  intro c
  induction c with
  | zero =>
    intro j hj
    rw [capnpref14_Shallow_L2_eq, decide_eq_false (by simp; omega), List.take_of_length_le (by omega)]
    rfl
  | succ c ih =>
    intro j hj
    have hjl : j < q.length := by omega
    rw [capnpref14_Shallow_L2_eq, decide_eq_true (show (j : Int) < ((pvs q).length : Int) by simp; omega)]
    dsimp only [callT_ret, callT_pan, onlyPV_v, Option.bind_some, pBool_v, pTup_v, pAgg_v, aggOf_v, pSl_v, pInt_v, pI64, pU64, pU32, pU8, List.getElem?_cons_zero, List.getElem?_cons_succ, cells_v, cells_sl, cells_agg, isCell_v, isCell_sl, cnd_t, cnd_f, tt_and, ff_and, nt_t, nt_f, len1, len3, len5, len8, len10, hlen1, clen1, clen5]
    rw [roomy_ok (by simp; omega) (by simp; omega), w64 (x := (j : Int) + 1) (by omega)]
    dsimp only [callT_ret, callT_pan, onlyPV_v, Option.bind_some, pBool_v, pTup_v, pAgg_v, aggOf_v, pSl_v, pInt_v, pI64, pU64, pU32, pU8, List.getElem?_cons_zero, List.getElem?_cons_succ, cells_v, cells_sl, cells_agg, isCell_v, isCell_sl, cnd_t, cnd_f, tt_and, ff_and, nt_t, nt_f, len1, len3, len5, len8, len10, hlen1, clen1, clen5]
    have e1 : ix (prsS 0 (q.take j)) ++ [I (j : Int)] = ix (prsS 0 (q.take (j + 1))) := by
      rw [take_snoc hjl, prsS_app, ix_app, List.length_take, Nat.min_eq_left (by omega), Nat.zero_add]
      rfl
    rw [e1]
    exact ih (j + 1) (by omega)
end
section
variable (i5 i6 i7 : Int) (xs8 : List PV) (i10 i11 i12 i13 i14 i15 : Int) (b16 : Bool) (i17 i18 i19 i20 i21 i22 i23 i24 i25 : Int) (b26 : Bool) (i27 i28 i29 : Int)
theorem sh6_loop {ks : List Nd} {A : List (Nat × Nd)} {W : List Int} {a b i : Nat} (hil : i < ks.length) (hik : ks.length ≤ 1073741824) (hb : ks[i].kids.length ≤ b) (hb2 : b ≤ 65535) (hA : A.length ≤ 1073741824) (hW : W.length ≤ 1073741824) : ∀ (c j : Nat), j + c = b →
    capnpref14_Shallow_L6 (ix (A ++ prsS W.length (ks[i].kids.take j))) (I (a : Int)) (I (b : Int)) (ws (W ++ List.replicate j 0)) i j i5 i6 i7 xs8 (pvs ks) i10 i11 i12 i13 i14 i15 b16 i17 i18 i19 i20 i21 i22 i23 i24 i25 b26 i27 i28 i29 =
    capnpref14_Shallow_L4 (ix (A ++ prsS W.length ks[i].kids)) (I (a : Int)) (I (b : Int)) (ws (W ++ List.replicate b 0)) ((i + 1 : Nat) : Int) i5 i6 i7 xs8 (pvs ks) i10 i11 i12 i13 i14 i15 b16 i17 i18 i19 i20 i21 i22 i23 i24 i25 b26 i27 i28 i29 := by
  intro c
  induction c with
  | zero =>
    intro j hj
    rw [capnpref14_Shallow_L6_eq]
    dsimp only [callT_ret, callT_pan, onlyPV_v, Option.bind_some, pBool_v, pTup_v, pAgg_v, aggOf_v, pSl_v, pInt_v, pI64, pU64, pU32, pU8, List.getElem?_cons_zero, List.getElem?_cons_succ, cells_v, cells_sl, cells_agg, isCell_v, isCell_sl, cnd_t, cnd_f, tt_and, ff_and, nt_t, nt_f, len1, len3, len5, len8, len10, hlen1, clen1, clen5]
    rw [decide_eq_false (by omega), List.take_of_length_le (by omega), show j = b by omega, w64 (x := (i : Int) + 1) (by omega)]
    rfl
  | succ c ih =>
    intro j hj
    rw [capnpref14_Shallow_L6_eq]
    dsimp only [callT_ret, callT_pan, onlyPV_v, Option.bind_some, pBool_v, pTup_v, pAgg_v, aggOf_v, pSl_v, pInt_v, pI64, pU64, pU32, pU8, List.getElem?_cons_zero, List.getElem?_cons_succ, cells_v, cells_sl, cells_agg, isCell_v, isCell_sl, cnd_t, cnd_f, tt_and, ff_and, nt_t, nt_f, len1, len3, len5, len8, len10, hlen1, clen1, clen5]
    rw [decide_eq_true (show (j : Int) < (b : Int) by omega), decide_eq_true (show 0 ≤ (i : Int) by omega), decide_eq_true (show (i : Int) < ((pvs ks).length : Int) by simp; omega)]
    dsimp only [callT_ret, callT_pan, onlyPV_v, Option.bind_some, pBool_v, pTup_v, pAgg_v, aggOf_v, pSl_v, pInt_v, pI64, pU64, pU32, pU8, List.getElem?_cons_zero, List.getElem?_cons_succ, cells_v, cells_sl, cells_agg, isCell_v, isCell_sl, cnd_t, cnd_f, tt_and, ff_and, nt_t, nt_f, len1, len3, len5, len8, len10, hlen1, clen1, clen5]
    rw [Int.toNat_natCast, pvs_get hil]
    dsimp only [callT_ret, callT_pan, onlyPV_v, Option.bind_some, pBool_v, pTup_v, pAgg_v, aggOf_v, pSl_v, pInt_v, pI64, pU64, pU32, pU8, List.getElem?_cons_zero, List.getElem?_cons_succ, cells_v, cells_sl, cells_agg, isCell_v, isCell_sl, cnd_t, cnd_f, tt_and, ff_and, nt_t, nt_f, len1, len3, len5, len8, len10, hlen1, clen1, clen5]
    rw [nd_cells]
    dsimp only [Nd.c, callT_ret, callT_pan, onlyPV_v, Option.bind_some, pBool_v, pTup_v, pAgg_v, aggOf_v, pSl_v, pInt_v, pI64, pU64, pU32, pU8, List.getElem?_cons_zero, List.getElem?_cons_succ, cells_v, cells_sl, cells_agg, isCell_v, isCell_sl, cnd_t, cnd_f, tt_and, ff_and, nt_t, nt_f, len1, len3, len5, len8, len10, hlen1, clen1, clen5]
    have e2 : W ++ List.replicate j 0 ++ [0] = W ++ List.replicate (j + 1) (0 : Int) := by rw [List.replicate_succ', List.append_assoc]
    have hr : roomy ((ws (W ++ List.replicate j 0)).length + 1) 8 = true := roomy_ok (by simp; omega) (by simp; omega)
    rw [pvs_len, w64 (x := (j : Int) + 1) (by omega), ws_snoc, e2, hr]
    have := ih (j + 1) (by omega)
    by_cases g : j < ks[i].kids.length
    · rw [decide_eq_true (show (j : Int) < (ks[i].kids.length : Int) by omega), roomy_ok (by simp; omega) (by simp; omega)]
      dsimp only [callT_ret, callT_pan, onlyPV_v, Option.bind_some, pBool_v, pTup_v, pAgg_v, aggOf_v, pSl_v, pInt_v, pI64, pU64, pU32, pU8, List.getElem?_cons_zero, List.getElem?_cons_succ, cells_v, cells_sl, cells_agg, isCell_v, isCell_sl, cnd_t, cnd_f, tt_and, ff_and, nt_t, nt_f, len1, len3, len5, len8, len10, hlen1, clen1, clen5]
      have e1 : ix (A ++ prsS W.length (ks[i].kids.take j)) ++ [I ((ws (W ++ List.replicate j 0)).length : Int)] = ix (A ++ prsS W.length (ks[i].kids.take (j + 1))) := by
        rw [take_snoc g, prsS_app, ← List.append_assoc, ix_app (A ++ _), ws_len, List.length_append, List.length_replicate, List.length_take, Nat.min_eq_left (by omega)]
        rfl
      rw [e1]
      exact this
    · rw [decide_eq_false (show ¬ (j : Int) < (ks[i].kids.length : Int) by omega), List.take_of_length_le (by omega)]
      rw [List.take_of_length_le (by omega)] at this
      exact this
theorem sh4_loop {ks : List Nd} {w0 : Int} {a b : Nat} (hk : ks.length ≤ 536870911) (ha : a ≤ 65535) (hb2 : b ≤ 65535) (hs : ∀ k ∈ ks, (∀ x ∈ k.data, Byte x) ∧ k.data.length ≤ 8 * a ∧ k.kids.length ≤ b) (hl : ks.length * (a + b) ≤ 536870912) (hA : ∀ i, (prsC a (a + b) 1 (ks.take i)).length ≤ 1073741824) : ∀ (c i : Nat), i + c = ks.length →
    capnpref14_Shallow_L4 (ix (prsC a (a + b) 1 (ks.take i))) (I (a : Int)) (I (b : Int)) (ws (w0 :: els a b (ks.take i))) i i5 i6 i7 xs8 (pvs ks) i10 i11 i12 i13 i14 i15 b16 i17 i18 i19 i20 i21 i22 i23 i24 i25 b26 i27 i28 i29 =
      ok (.tup [.sl 1 (ws (w0 :: els a b ks)), .agg [I i20, I i21, I i22, I i23, I i24, I ((ks.length * (a + b) : Nat) : Int), Bo b26, I i27, U32 i28, U32 i29], .sl 1 (ix (prsC a (a + b) 1 ks))]) := by
  intro c
  induction c with
  | zero =>
    intro i hi
    rw [capnpref14_Shallow_L4_eq, decide_eq_false (by simp; omega), List.take_of_length_le (by omega), ws_len, List.length_cons, els_len, w64 (by omega), show ((ks.length * (a + b) + 1 : Nat) : Int) - 1 = ((ks.length * (a + b) : Nat) : Int) by omega]
    rfl
  | succ c ih =>
    intro i hi
    have hil : i < ks.length := by omega
    obtain ⟨s1, s2, s3⟩ := hs _ (List.getElem_mem hil)
    have hmul : i * (a + b) + (a + b) ≤ ks.length * (a + b) := by
      have := Nat.mul_le_mul_right (a + b) (show i + 1 ≤ ks.length by omega)
      rw [Nat.add_mul, Nat.one_mul] at this
      exact this
    have hel : (els a b (ks.take i)).length = i * (a + b) := by rw [els_len, List.length_take, Nat.min_eq_left (by omega)]
    have hp := V_padded s1 (n := a) (by omega) s2
    have hWl : (w0 :: els a b (ks.take i) ++ wrdN a ks[i].data).length = 1 + i * (a + b) + a := by
      rw [List.length_append, List.length_cons, hel, wrdN_len]; omega
    have h6 := sh6_loop i5 i6 i7 xs8 i10 i11 i12 i13 i14 i15 b16 i17 i18 i19 i20 i21 i22 i23 i24 i25 b26 i27 i28 i29 (a := a) (A := prsC a (a + b) 1 (ks.take i)) (W := w0 :: els a b (ks.take i) ++ wrdN a ks[i].data) hil (by omega) s3 hb2 (hA i) (by rw [hWl]; omega) b 0 (by omega)
    rw [List.take_zero, List.replicate_zero, List.append_nil, show prsS _ ([] : List Nd) = [] from rfl, List.append_nil, hWl] at h6
    rw [capnpref14_Shallow_L4_eq, decide_eq_true (show (i : Int) < ((pvs ks).length : Int) by simp; omega), decide_eq_true (show 0 ≤ (i : Int) by omega)]
    dsimp only [callT_ret, callT_pan, onlyPV_v, Option.bind_some, pBool_v, pTup_v, pAgg_v, aggOf_v, pSl_v, pInt_v, pI64, pU64, pU32, pU8, List.getElem?_cons_zero, List.getElem?_cons_succ, cells_v, cells_sl, cells_agg, isCell_v, isCell_sl, cnd_t, cnd_f, tt_and, ff_and, nt_t, nt_f, len1, len3, len5, len8, len10, hlen1, clen1, clen5]
    rw [Int.toNat_natCast, pvs_get hil]
    dsimp only [callT_ret, callT_pan, onlyPV_v, Option.bind_some, pBool_v, pTup_v, pAgg_v, aggOf_v, pSl_v, pInt_v, pI64, pU64, pU32, pU8, List.getElem?_cons_zero, List.getElem?_cons_succ, cells_v, cells_sl, cells_agg, isCell_v, isCell_sl, cnd_t, cnd_f, tt_and, ff_and, nt_t, nt_f, len1, len3, len5, len8, len10, hlen1, clen1, clen5]
    rw [nd_cells]
    dsimp only [Nd.c, callT_ret, callT_pan, onlyPV_v, Option.bind_some, pBool_v, pTup_v, pAgg_v, aggOf_v, pSl_v, pInt_v, pI64, pU64, pU32, pU8, List.getElem?_cons_zero, List.getElem?_cons_succ, cells_v, cells_sl, cells_agg, isCell_v, isCell_sl, cnd_t, cnd_f, tt_and, ff_and, nt_t, nt_f, len1, len3, len5, len8, len10, hlen1, clen1, clen5]
    rw [hp]
    dsimp only [callT_ret, callT_pan, onlyPV_v, Option.bind_some, pBool_v, pTup_v, pAgg_v, aggOf_v, pSl_v, pInt_v, pI64, pU64, pU32, pU8, List.getElem?_cons_zero, List.getElem?_cons_succ, cells_v, cells_sl, cells_agg, isCell_v, isCell_sl, cnd_t, cnd_f, tt_and, ff_and, nt_t, nt_f, len1, len3, len5, len8, len10, hlen1, clen1, clen5]
    rw [pSlu_v]
    dsimp only [callT_ret, callT_pan, onlyPV_v, Option.bind_some, pBool_v, pTup_v, pAgg_v, aggOf_v, pSl_v, pInt_v, pI64, pU64, pU32, pU8, List.getElem?_cons_zero, List.getElem?_cons_succ, cells_v, cells_sl, cells_agg, isCell_v, isCell_sl, cnd_t, cnd_f, tt_and, ff_and, nt_t, nt_f, len1, len3, len5, len8, len10, hlen1, clen1, clen5]
    rw [← ws_app, ws_len, ws_len, roomy_ok (by rw [List.length_cons, hel, wrdN_len]; omega) (by rw [List.length_cons, hel, wrdN_len]; omega)]
    refine (show _ = _ from h6).trans ?_
    have e1 : prsC a (a + b) 1 (ks.take i) ++ prsS (1 + i * (a + b) + a) ks[i].kids = prsC a (a + b) 1 (ks.take (i + 1)) := by
      rw [take_snoc hil, prsC_app, List.length_take, Nat.min_eq_left (by omega), prsC, prsC, List.append_nil]
    have e2 : w0 :: els a b (ks.take i) ++ wrdN a ks[i].data ++ List.replicate b 0 = w0 :: els a b (ks.take (i + 1)) := by
      rw [take_snoc hil]
      unfold els
      rw [List.flatMap_append, List.flatMap_singleton]
      simp only [List.append_assoc, List.cons_append]
    rw [e1, e2]
    exact ih (i + 1) (by omega)
end
end Go.Proofs.YthpbjpnbafiipaaDoor.E
set_option linter.unusedVariables false
set_option linter.unusedSimpArgs false
namespace Go.Proofs.YthpbjpnbafiipaaDoor.E
/-! The reference writes the canonical form. -/
def ptP (x : Nd) : PV := if x.kind = 1 then Pt0 0 (x.data.length / 8) x.kids.length else if x.elem = 7 then Pt1 0 7 ((x.kids.length * (uniD x.kids + uniP x.kids) : Nat) : Int) else Pt1 0 x.elem x.n
theorem prsS_lt : ∀ (q : List Nd) (i : Nat), ∀ p ∈ prsS i q, p.1 < i + q.length
  | [], i, p, h => by cases h
  | t :: r, i, p, h => by
    rw [prsS] at h
    rw [List.length_cons]
    rcases List.mem_cons.1 h with rfl | h
    · show i < _; omega
    · have := prsS_lt r (i + 1) p h; omega
theorem prsC_lt {u s : Nat} : ∀ (ks : List Nd) (i : Nat), (∀ k ∈ ks, u + k.kids.length ≤ s) → ∀ p ∈ prsC u s i ks, p.1 < i + ks.length * s
  | [], i, hk, p, h => by cases h
  | k :: r, i, hk, p, h => by
    rw [prsC] at h
    rw [List.length_cons, Nat.add_mul, Nat.one_mul]
    have hb := hk k List.mem_cons_self
    rcases List.mem_append.1 h with h | h
    · have := prsS_lt k.kids (i + u) p h; omega
    · have := prsC_lt r (i + s) (fun x hx => hk x (List.mem_cons_of_mem _ hx)) p h; omega
theorem prsS_snd : ∀ (q : List Nd) (i : Nat), (prsS i q).map Prod.snd = q
  | [], i => rfl
  | t :: r, i => by rw [prsS, List.map_cons, prsS_snd r]
theorem prsC_snd (u s : Nat) : ∀ (ks : List Nd) (i : Nat), (prsC u s i ks).map Prod.snd = ks.flatMap Nd.kids
  | [], i => rfl
  | k :: r, i => by rw [prsC, List.map_append, prsS_snd, prsC_snd u s r, List.flatMap_cons]
def sh (s : Nat) (p : Nat × Nd) : Nat × Nd := (s + p.1, p.2)
theorem prsS_sh (s : Nat) : ∀ (q : List Nd) (i : Nat), (prsS i q).map (sh s) = prsS (s + i) q
  | [], i => rfl
  | t :: r, i => by rw [prsS, prsS, List.map_cons, prsS_sh s r, Nat.add_assoc]; rfl
theorem prsC_sh (u z s : Nat) : ∀ (ks : List Nd) (i : Nat), (prsC u z i ks).map (sh s) = prsC u z (s + i) ks
  | [], i => rfl
  | k :: r, i => by rw [prsC, prsC, List.map_append, prsS_sh, prsC_sh u z s r, Nat.add_assoc, Nat.add_assoc]
theorem prs_sh (x : Nd) (s : Nat) : (prs x 0).map (sh s) = prs x s := by
  unfold prs
  split
  · rw [prsS_sh, Nat.zero_add]
  · split
    · rw [prsC_sh, Nat.zero_add]
    · rw [prsS_sh, Nat.add_zero]
theorem prs_snd {x : Nd} (hv : VN x) (h0 : x.kind ≠ 0) : (prs x 0).map Prod.snd = tgt x := by
  obtain ⟨hs, _⟩ := vn_shp hv
  unfold prs tgt
  rcases hs with hs | hs | hs
  · exact absurd hs.1 h0
  · rw [if_pos hs.1, if_neg (by omega), prsS_snd]
  · rw [if_neg (by omega)]
    by_cases h7 : x.elem = 7
    · rw [if_pos h7, if_pos ⟨hs.1, h7⟩, prsC_snd]
    · rw [if_neg h7, if_neg (fun h => h7 h.2), prsS_snd]
theorem prs_lt {x : Nd} (hv : VN x) (h0 : x.kind ≠ 0) : ∀ p ∈ prs x 0, p.1 < (shW x).length := by
  obtain ⟨hs, _⟩ := vn_shp hv
  intro p hp
  unfold prs at hp
  unfold shW
  rcases hs with hs | hs | hs
  · exact absurd hs.1 h0
  · rw [if_pos hs.1] at hp ⊢
    have := prsS_lt _ _ p hp
    simp; omega
  · rw [if_neg (by omega)] at hp ⊢
    by_cases h7 : x.elem = 7
    · rw [if_pos h7] at hp ⊢
      have := prsC_lt x.kids _ (fun k hk => Nat.add_le_add_left (uniP_mem hk) _) p hp
      rw [List.length_cons, els_len]; omega
    · rw [if_neg h7] at hp ⊢
      have hl := prsS_lt _ _ p hp
      by_cases h6 : x.elem = 6
      · rw [if_pos h6]; simp; omega
      · exfalso
        have : x.kids.length = 0 := (hs.2.2.2.2 (by omega)).1
        omega
/-- What the reference tells of an object. -/
theorem V_Shallow {D : Nat} {x : Nd} (h : Ok D x) (h0 : x.kind ≠ 0) (hb : objSz x ≤ 268435456) (hf : (tgt x).length ≤ 1073741824) : ev 82 [.pv x.x] [] = ok (.tup [.sl 1 (ws (shW x)), ptP x, .sl 1 (ix (prs x 0))]) := by
  obtain ⟨hs, hkk⟩ := vn_shp h.vn
  rcases hs with hs | hs | hs
  · exact absurd hs.1 h0
  · obtain ⟨d, ks, rfl, g1, g2, g3, g4, g5, g6⟩ := st_parts h.vn h.tr h.gd hs.1
    have hp := V_padded g3 (n := d.length / 8) (by omega) (by omega)
    have h1 := sh0_loop 1 0 0 (bs d) (pvs ks) 0 0 0 0 0 0 false 0 0 0 0 0 ((d.length / 8 : Nat) : Int) 0 0 false 0 0 0 (q := ks) (W := wrdN (d.length / 8) d) (by omega) (by rw [wrdN_len]; omega) ks.length 0 (by omega)
    rw [List.take_zero, List.replicate_zero, List.append_nil, wrdN_len] at h1
    rw [Nd.x]
    dsimp only [Nd.kind, Nd.elem, Nd.n, Nd.data, Nd.kids]
    rw [capnpref14_Shallow_eq, show ((1 : Int) == 1) = true from rfl, bs_len, pvs_len, Int.tdiv_eq_ediv_of_nonneg (by omega), show (d.length : Int) / 8 = ((d.length / 8 : Nat) : Int) by omega, w64 (by omega), hp]
    dsimp only [callT_ret, callT_pan, onlyPV_v, Option.bind_some, pBool_v, pTup_v, pAgg_v, aggOf_v, pSl_v, pInt_v, pI64, pU64, pU32, pU8, List.getElem?_cons_zero, List.getElem?_cons_succ, cells_v, cells_sl, cells_agg, isCell_v, isCell_sl, cnd_t, cnd_f, tt_and, ff_and, nt_t, nt_f, len1, len3, len5, len8, len10, hlen1, clen1, clen5]
    rw [pSlu_v]
    dsimp only [callT_ret, callT_pan, onlyPV_v, Option.bind_some, pBool_v, pTup_v, pAgg_v, aggOf_v, pSl_v, pInt_v, pI64, pU64, pU32, pU8, List.getElem?_cons_zero, List.getElem?_cons_succ, cells_v, cells_sl, cells_agg, isCell_v, isCell_sl, cnd_t, cnd_f, tt_and, ff_and, nt_t, nt_f, len1, len3, len5, len8, len10, hlen1, clen1, clen5]
    refine (show _ = _ from h1).trans ?_
    have e : prs (.mk 1 0 0 d ks) 0 = prsS (d.length / 8) ks := by show prsS (0 + d.length / 8) ks = _; rw [Nat.zero_add]
    rw [e]
    rfl
  · cases x with
    | mk k e n d ks =>
      obtain ⟨k2, hn, he, h6, hl6⟩ := hs
      have k2' : k = 2 := k2
      subst k2'
      have hn' : 0 ≤ n ∧ n ≤ 536870911 := hn
      have he' : 0 ≤ e ∧ e ≤ 7 := he
      have hg := h.gd
      rw [good] at hg
      by_cases e7 : e = 7
      · subst e7
        obtain ⟨a1, a2⟩ := h6 (show (6 : Int) ≤ 7 by decide)
        obtain rfl : d = [] := List.length_eq_zero_iff.1 a1
        have a2' : (ks.length : Int) = n := a2
        have hst : ∀ k ∈ ks, k.kind = 1 := by
          cases h.vn with
          | mk v1 v2 v3 => exact v2 rfl rfl
        have htr : ∀ k ∈ ks, TrN k := by
          cases h.tr with
          | mk t1 t2 => exact t2
        have hparts : ∀ k ∈ ks, (∀ x ∈ k.data, Byte x) ∧ k.data.length % 8 = 0 ∧ k.data.length ≤ 524280 ∧ k.kids.length ≤ 65535 := fun k hk => by
          obtain ⟨d, q, rfl, g1, g2, g3, g4, g5, g6⟩ := st_parts (hkk k hk) (htr k hk) (goods_iff.1 hg.2 k hk) (hst k hk)
          exact ⟨g3, g4, g5, g6⟩
        have hud : uniD ks ≤ 65535 := uniD_le fun x hx => by have := (hparts x hx).2.2.1; omega
        have huq : uniP ks ≤ 65535 := uniP_le fun x hx => (hparts x hx).2.2.2
        have eo : objSz (.mk 2 7 n [] ks) = 1 + n * ((uniD ks + uniP ks : Nat) : Int) := rfl
        have hnu : n * ((uniD ks + uniP ks : Nat) : Int) = ((ks.length * (uniD ks + uniP ks) : Nat) : Int) := by rw [← a2']; push_cast; rfl
        rw [eo, hnu] at hb
        have hU := V_rUniform (x := .mk 2 7 n [] ks) (by show ks.length ≤ _; omega) (fun y hy => by have := (hparts y hy).2.2.1; omega)
        have hU' : ev 119 [.pv (.agg [I 2, I 7, I n, .sl 1 (bs []), .sl 5 (pvs ks)])] [] = ok (.tup [I (uniD ks : Nat), I (uniP ks : Nat)]) := hU
        have hE := V_rEncode0 (off := n) (d := uniD ks) (q := uniP ks) (by omega) hud huq
        have et : tgt (.mk 2 7 n [] ks) = ks.flatMap Nd.kids := rfl
        rw [et] at hf
        have h4 := sh4_loop 2 7 n (bs []) 0 0 0 0 0 0 false 0 0 0 1 0 0 0 7 n false 0 0 0 (w0 := encS n (uniD ks) (uniP ks)) (ks := ks) (by omega) hud huq (fun k hk => ⟨(hparts k hk).1, by have := uniD_mem hk; have := (hparts k hk).2.1; omega, uniP_mem hk⟩) (by omega) (fun i => by
          have e1 : (prsC (uniD ks) (uniD ks + uniP ks) 1 (ks.take i)).length = ((ks.take i).flatMap Nd.kids).length := by rw [← prsC_snd (uniD ks) (uniD ks + uniP ks) (ks.take i) 1, List.length_map]
          have e2 : ((ks.take i).flatMap Nd.kids).length ≤ (ks.flatMap Nd.kids).length := by
            conv => rhs; rw [← List.take_append_drop i ks, List.flatMap_append, List.length_append]
            omega
          omega) ks.length 0 (by omega)
        rw [List.take_zero, show prsC _ _ 1 ([] : List Nd) = [] from rfl, show els (uniD ks) (uniP ks) [] = [] from rfl] at h4
        rw [Nd.x]
        dsimp only [Nd.kind, Nd.elem, Nd.n, Nd.data, Nd.kids]
        rw [capnpref14_Shallow_eq, show ((2 : Int) == 1) = false from rfl, show ((7 : Int) != 7) = false from rfl, hU']
        dsimp only [callT_ret, callT_pan, onlyPV_v, Option.bind_some, pBool_v, pTup_v, pAgg_v, aggOf_v, pSl_v, pInt_v, pI64, pU64, pU32, pU8, List.getElem?_cons_zero, List.getElem?_cons_succ, cells_v, cells_sl, cells_agg, isCell_v, isCell_sl, cnd_t, cnd_f, tt_and, ff_and, nt_t, nt_f, len1, len3, len5, len8, len10, hlen1, clen1, clen5]
        rw [hE]
        dsimp only [callT_ret, callT_pan, onlyPV_v, Option.bind_some, pBool_v, pTup_v, pAgg_v, aggOf_v, pSl_v, pInt_v, pI64, pU64, pU32, pU8, List.getElem?_cons_zero, List.getElem?_cons_succ, cells_v, cells_sl, cells_agg, isCell_v, isCell_sl, cnd_t, cnd_f, tt_and, ff_and, nt_t, nt_f, len1, len3, len5, len8, len10, hlen1, clen1, clen5]
        refine (show _ = _ from h4).trans ?_
        rfl
      · have eo : objSz (.mk 2 e n d ks) = wordsOf e n := by
          unfold objSz
          show (if (2 : Int) = 0 then 0 else if (2 : Int) = 1 then _ else if e = 7 then _ else wordsOf e n) = _
          rw [if_neg (by decide), if_neg (by decide), if_neg e7]
        have hwr := wordsOf_range (e := e) hn'
        have hO := V_rObj13 h.gd h.vn (by omega) (by
          by_cases e6 : e = 6
          · have hk := (h6 (show (6 : Int) ≤ e by omega)).2
            have := uniD_le (l := ks) (b := 17592186044416) (fun y hy => by have := (good_len ((good_len h.gd).2.2 y hy)).1; omega)
            have := uniP_le (l := ks) (b := 1073741824) (fun y hy => (good_len ((good_len h.gd).2.2 y hy)).2.1)
            show uniD ks + uniP ks ≤ _
            omega
          · obtain rfl : ks = [] := List.length_eq_zero_iff.1 (hl6 (show e < 6 by omega)).1
            show 0 + 0 ≤ _; decide)
        rw [eo] at hO hb
        have hkl : ks.length ≤ 1073741824 := hg.1.2.2.1
        have h2 : ∀ W : List Int, _ := fun W => sh2_loop 2 e n (bs d) 0 0 0 0 0 0 false 0 0 0 1 0 0 e n false 0 0 0 (q := ks) (W := W) (i21 := 0) hkl ks.length 0 (by omega)
        rw [List.take_zero, show prsS 0 ([] : List Nd) = [] from rfl] at h2
        have ep : prs (.mk 2 e n d ks) 0 = prsS 0 ks := by
          show (if (2 : Int) = 1 then _ else if e = 7 then _ else prsS 0 ks) = _
          rw [if_neg (by decide), if_neg e7]
        have ept : ptP (.mk 2 e n d ks) = Pt1 0 e n := by
          show (if (2 : Int) = 1 then _ else if e = 7 then _ else Pt1 0 e n) = _
          rw [if_neg (by decide), if_neg e7]
        have main : ∀ (hp : d.length ≤ 8 * (wordsOf e n).toNat) (hw : wrdN (wordsOf e n).toNat d = shW (.mk 2 e n d ks)), ev 82 [.pv (Nd.mk 2 e n d ks).x] [] = ok (.tup [.sl 1 (ws (shW (.mk 2 e n d ks))), ptP (.mk 2 e n d ks), .sl 1 (ix (prs (.mk 2 e n d ks) 0))]) := fun hp hw => by
          have h1 := V_padded hg.1.2.1 (n := (wordsOf e n).toNat) (by omega) hp
          rw [show (((wordsOf e n).toNat : Nat) : Int) = wordsOf e n by omega, hw] at h1
          have h2' := h2 (shW (.mk 2 e n d ks))
          rw [Nd.x] at hO ⊢
          dsimp only [Nd.kind, Nd.elem, Nd.n, Nd.data, Nd.kids] at hO ⊢
          rw [capnpref14_Shallow_eq, show ((2 : Int) == 1) = false from rfl, show (e != 7) = true from by simpa using e7, hO]
          dsimp only [callT_ret, callT_pan, onlyPV_v, Option.bind_some, pBool_v, pTup_v, pAgg_v, aggOf_v, pSl_v, pInt_v, pI64, pU64, pU32, pU8, List.getElem?_cons_zero, List.getElem?_cons_succ, cells_v, cells_sl, cells_agg, isCell_v, isCell_sl, cnd_t, cnd_f, tt_and, ff_and, nt_t, nt_f, len1, len3, len5, len8, len10, hlen1, clen1, clen5]
          rw [h1]
          dsimp only [callT_ret, callT_pan, onlyPV_v, Option.bind_some, pBool_v, pTup_v, pAgg_v, aggOf_v, pSl_v, pInt_v, pI64, pU64, pU32, pU8, List.getElem?_cons_zero, List.getElem?_cons_succ, cells_v, cells_sl, cells_agg, isCell_v, isCell_sl, cnd_t, cnd_f, tt_and, ff_and, nt_t, nt_f, len1, len3, len5, len8, len10, hlen1, clen1, clen5]
          rw [pSlu_v]
          dsimp only [callT_ret, callT_pan, onlyPV_v, Option.bind_some, pBool_v, pTup_v, pAgg_v, aggOf_v, pSl_v, pInt_v, pI64, pU64, pU32, pU8, List.getElem?_cons_zero, List.getElem?_cons_succ, cells_v, cells_sl, cells_agg, isCell_v, isCell_sl, cnd_t, cnd_f, tt_and, ff_and, nt_t, nt_f, len1, len3, len5, len8, len10, hlen1, clen1, clen5]
          refine (show _ = _ from h2').trans ?_
          rw [ep, ept]
          rfl
        by_cases e6 : e = 6
        · subst e6
          obtain ⟨a1, a2⟩ := h6 (show (6 : Int) ≤ 6 by decide)
          obtain rfl : d = [] := List.length_eq_zero_iff.1 a1
          have a2' : (ks.length : Int) = n := a2
          have hw6 : wordsOf 6 n = n := by unfold wordsOf bitsOf; simp; omega
          refine main (Nat.zero_le _) ?_
          rw [wrdN_nil, hw6, show n.toNat = ks.length by omega]
          rfl
        · obtain ⟨b1, b2, b3⟩ := hl6 (show e < 6 by omega)
          have b2' : (d.length : Int) = bytesN e n := b2
          have hbw := bytes_words (e := e) ⟨he'.1, by omega⟩ hn'
          refine main (by omega) ?_
          show _ = (if (2 : Int) = 1 then _ else if e = 7 then _ else if e = 6 then _ else wrdN (wordsOf e n).toNat d)
          rw [if_neg (by decide), if_neg e7, if_neg e6]
def rPlc (D : Nat) (t : Nd) : Prop := ∀ (W : List Int) (a : Nat), a < W.length → (W.length : Int) + nodSz D t ≤ 268435456 → ev 52 [.pv (.sl 1 (ws W)), .pv (I (a : Int)), .pv t.x] [] = ok (.sl 1 (ws (placeP (body D) a t W)))
theorem rplc_null {D : Nat} {t : Nd} (h : t.kind = 0) : rPlc D t := fun W a ha hl => by
  unfold placeP
  rw [Nd.x, capnpref14_Place_eq, beq_iff_eq.2 h, if_pos h]
  rfl
theorem place_v (p0 : PV) (i1 : Int) (xs2 : List PV) (p3 : PV) (i4 : Int) (i5 i6 i7 : Int) (xs8 xs9 : List PV) (p10 : PV) (i11 : Int) (p12 p13 p14 p15 p16 p17 p18 p19 : PV) : capnpref14_Place_L0 p0 i1 xs2 p3 i4 i5 i6 i7 xs8 xs9 p10 i11 p12 p13 p14 p15 p16 p17 p18 p19 = capnpref14_Place_L0v1 p0 i1 (.sl 1 xs2) p3 i4 i5 i6 i7 xs8 xs9 p10 i11 p12 p13 p14 p15 p16 p17 p18 p19 := by
  rw [capnpref14_Place_L0_eq, capnpref14_Place_L0v1_eq]
theorem ix_get {P : List (Nat × Nd)} {j : Nat} (h : j < P.length) : (ix P)[j]? = some (I ((P[j].1 : Nat) : Int)) := by simp [ix, h]
theorem rP_loop {D s : Nat} {P : List (Nat × Nd)} (hl : P.length ≤ 1073741824) (hP : ∀ p ∈ P, rPlc D p.2) (hO : ∀ p ∈ P, Ok D p.2) (i5 i6 i7 : Int) (xs8 xs9 : List PV) (p10 : PV) (i11 : Int) (p12 p13 p14 p15 p16 p17 p18 p19 : PV) : ∀ (c j : Nat) (W : List Int), j + c = P.length → (∀ p ∈ P, s + p.1 < W.length) → (W.length : Int) + sumL ((P.drop j).map fun p => nodSz D p.2) ≤ 268435456 →
    capnpref14_Place_L0v1 (.sl 1 (ix P)) s (.sl 1 (ws W)) (.sl 5 (pvs (P.map Prod.snd))) j i5 i6 i7 xs8 xs9 p10 i11 p12 p13 p14 p15 p16 p17 p18 p19 = ok (.sl 1 (ws (runP (body D) ((P.drop j).map (sh s)) W))) := by
  intro c
  induction c with
  | zero =>
    intro j W hj hs hb
    rw [capnpref14_Place_L0v1_eq]
    dsimp only [callT_ret, callT_pan, onlyPV_v, Option.bind_some, pBool_v, pTup_v, pAgg_v, aggOf_v, pSl_v, pInt_v, pI64, pU64, pU32, pU8, List.getElem?_cons_zero, List.getElem?_cons_succ, cells_v, cells_sl, cells_agg, isCell_v, isCell_sl, cnd_t, cnd_f, tt_and, ff_and, nt_t, nt_f, len1, len3, len5, len8, len10, hlen1, clen1, clen5]
    rw [decide_eq_false (by simp; omega), List.drop_eq_nil_of_le (by omega)]
    rfl
  | succ c ih =>
    intro j W hj hs hb
    have hjl : j < P.length := by omega
    have hm := List.getElem_mem hjl
    have ho := hO _ hm
    have hds : sumL ((P.drop j).map fun p => nodSz D p.2) = nodSz D P[j].2 + sumL ((P.drop (j + 1)).map fun p => nodSz D p.2) := by
      rw [List.drop_eq_getElem_cons hjl, List.map_cons, sumL_cons]
    rw [hds] at hb
    have hnn := nodSz_nn D ho.vn
    have hr : 0 ≤ sumL ((P.drop (j + 1)).map fun p => nodSz D p.2) := sumL_nn fun y hy => by
      obtain ⟨t, ht, rfl⟩ := List.mem_map.1 hy
      exact nodSz_nn D (hO t (List.mem_of_mem_drop ht)).vn
    have hsp := hs _ hm
    have h1 := hP _ hm W (s + P[j].1) hsp (by omega)
    have hlen := placeP_len ho (s + P[j].1) W
    have hg2 : (pvs (P.map Prod.snd))[j]? = some P[j].2.pv := by
      rw [pvs_get (by rw [List.length_map]; exact hjl), List.getElem_map]
    dsimp only [Nd.x] at h1
    rw [capnpref14_Place_L0v1_eq]
    dsimp only [callT_ret, callT_pan, onlyPV_v, Option.bind_some, pBool_v, pTup_v, pAgg_v, aggOf_v, pSl_v, pInt_v, pI64, pU64, pU32, pU8, List.getElem?_cons_zero, List.getElem?_cons_succ, cells_v, cells_sl, cells_agg, isCell_v, isCell_sl, cnd_t, cnd_f, tt_and, ff_and, nt_t, nt_f, len1, len3, len5, len8, len10, hlen1, clen1, clen5]
    rw [decide_eq_true (show (j : Int) < ((pvs (P.map Prod.snd)).length : Int) by simp; omega), decide_eq_true (show (1 : Nat) = 1 from rfl), decide_eq_true (show (5 : Nat) = 5 from rfl), decide_eq_true (show 0 ≤ (j : Int) by omega), decide_eq_true (show (j : Int) < ((ix P).length : Int) by rw [ix_len]; omega)]
    dsimp only [callT_ret, callT_pan, onlyPV_v, Option.bind_some, pBool_v, pTup_v, pAgg_v, aggOf_v, pSl_v, pInt_v, pI64, pU64, pU32, pU8, List.getElem?_cons_zero, List.getElem?_cons_succ, cells_v, cells_sl, cells_agg, isCell_v, isCell_sl, cnd_t, cnd_f, tt_and, ff_and, nt_t, nt_f, len1, len3, len5, len8, len10, hlen1, clen1, clen5]
    rw [Int.toNat_natCast, ix_get hjl, hg2]
    dsimp only [callT_ret, callT_pan, onlyPV_v, Option.bind_some, pBool_v, pTup_v, pAgg_v, aggOf_v, pSl_v, pInt_v, pI64, pU64, pU32, pU8, List.getElem?_cons_zero, List.getElem?_cons_succ, cells_v, cells_sl, cells_agg, isCell_v, isCell_sl, cnd_t, cnd_f, tt_and, ff_and, nt_t, nt_f, len1, len3, len5, len8, len10, hlen1, clen1, clen5]
    rw [nd_five, nd_cells, show (P[j].2.c.drop 0).take 5 = P[j].2.c from rfl]
    dsimp only [Nd.c, callT_ret, callT_pan, onlyPV_v, Option.bind_some, pBool_v, pTup_v, pAgg_v, aggOf_v, pSl_v, pInt_v, pI64, pU64, pU32, pU8, List.getElem?_cons_zero, List.getElem?_cons_succ, cells_v, cells_sl, cells_agg, isCell_v, isCell_sl, cnd_t, cnd_f, tt_and, ff_and, nt_t, nt_f, len1, len3, len5, len8, len10, hlen1, clen1, clen5]
    rw [w64 (x := (s : Int) + (P[j].1 : Int)) (by omega), show (s : Int) + (P[j].1 : Int) = ((s + P[j].1 : Nat) : Int) by push_cast; rfl, h1]
    dsimp only [callT_ret, callT_pan, onlyPV_v, Option.bind_some, pBool_v, pTup_v, pAgg_v, aggOf_v, pSl_v, pInt_v, pI64, pU64, pU32, pU8, List.getElem?_cons_zero, List.getElem?_cons_succ, cells_v, cells_sl, cells_agg, isCell_v, isCell_sl, cnd_t, cnd_f, tt_and, ff_and, nt_t, nt_f, len1, len3, len5, len8, len10, hlen1, clen1, clen5]
    rw [w64 (x := (j : Int) + 1) (by omega)]
    have := ih (j + 1) (placeP (body D) (s + P[j].1) P[j].2 W) (by omega) (fun p hp => by have := hs p hp; omega) (by omega)
    rw [List.drop_eq_getElem_cons hjl, List.map_cons]
    exact this
theorem rplace_ok : ∀ (D : Nat) (x : Nd), Ok D x → rPlc D x
  | 0, x, h => rplc_null h.dp
  | D + 1, x, h => by
    by_cases h0 : x.kind = 0
    · exact rplc_null h0
    · intro W a ha hl
      have hT := ok_tgt h h0
      have hdp := h.dp.resolve_left h0
      have hsn := sum_tgt_nn h h0
      have hon := objSz_nn h.vn
      rw [nodSz] at hl
      have hsh := V_Shallow h h0 (by omega) hdp.1
      have htg := V_rTargets h.gd hdp.1
      have hsnd := prs_snd h.vn h0
      have hpl : (prs x 0).length ≤ 1073741824 := by
        have := hdp.1
        rw [← hsnd, List.length_map] at this
        exact this
      have hmem : ∀ p ∈ prs x 0, p.2 ∈ tgt x := fun p hp => by rw [← hsnd]; exact List.mem_map.2 ⟨p, hp, rfl⟩
      rw [placeP_step h.vn h0 ha]
      have hsl := shW_len (B := body D) h.vn h0
      have hol := obW_len (body D) h.vn h0
      have hWl : (W ++ shW x).length = W.length + (shW x).length := List.length_append
      have hal : a < (W ++ shW x).length := by omega
      obtain ⟨y0, hy0⟩ := put_ok hal 0
      have hsum : sumL ((prs x 0).map fun p => nodSz D p.2) = sumL ((tgt x).map (nodSz D)) := by
        rw [← hsnd, List.map_map]; rfl
      have hlt := prs_lt h.vn h0
      have hloop : ∀ (w : Int) (i5 i6 i7 : Int) (xs8 xs9 : List PV) (p10 : PV) (i11 : Int) (p12 p13 p14 p15 p16 p17 p18 p19 : PV), capnpref14_Place_L0 (.sl 1 (ix (prs x 0))) W.length (ws ((W ++ shW x).set a w)) (.sl 5 (pvs (tgt x))) 0 i5 i6 i7 xs8 xs9 p10 i11 p12 p13 p14 p15 p16 p17 p18 p19 = ok (.sl 1 (ws (runP (body D) (prs x W.length) ((W ++ shW x).set a w)))) := fun w i5 i6 i7 xs8 xs9 p10 i11 p12 p13 p14 p15 p16 p17 p18 p19 => by
        have := rP_loop (D := D) (s := W.length) (P := prs x 0) hpl (fun p hp => rplace_ok D p.2 (hT _ (hmem p hp))) (fun p hp => hT _ (hmem p hp)) i5 i6 i7 xs8 xs9 p10 i11 p12 p13 p14 p15 p16 p17 p18 p19 (prs x 0).length 0 ((W ++ shW x).set a w) (by omega) (fun p hp => by rw [List.length_set, hWl]; have := hlt p hp; omega) (by rw [List.length_set, hWl, List.drop_zero, hsum]; omega)
        rw [List.drop_zero, prs_sh, hsnd] at this
        rw [place_v]
        exact this
      have k0 : (x.kind == 0) = false := beq_eq_false_iff_ne.2 h0
      obtain ⟨hs, hkk⟩ := vn_shp h.vn
      rcases hs with hs | hs | hs
      · exact absurd hs.1 h0
      · obtain ⟨d, ks, rfl, g1, g2, g3, g4, g5, g6⟩ := st_parts h.vn h.tr h.gd hs.1
        have e0 : ptP (.mk 1 0 0 d ks) = Pt0 0 (d.length / 8) ks.length := rfl
        rw [e0] at hsh
        dsimp only [Nd.x, Nd.kind, Nd.elem, Nd.n, Nd.data, Nd.kids] at hsh htg ⊢
        rw [capnpref14_Place_eq, show ((1 : Int) == 0) = false from rfl, hsh]
        dsimp only [Pt0, callT_ret, callT_pan, onlyPV_v, Option.bind_some, pBool_v, pTup_v, pAgg_v, aggOf_v, pSl_v, pInt_v, pI64, pU64, pU32, pU8, List.getElem?_cons_zero, List.getElem?_cons_succ, cells_v, cells_sl, cells_agg, isCell_v, isCell_sl, cnd_t, cnd_f, tt_and, ff_and, nt_t, nt_f, len1, len3, len5, len8, len10, hlen1, clen1, clen5]
        rw [ws_len, w64 (x := (W.length : Int) - a) (by omega), w64 (x := (W.length : Int) - a - 1) (by omega), roomy_ok (by omega) (by omega), ws_len, roomy_ok (by omega) (by omega), ← ws_app, show ((0 : Int) == 0) = true from rfl]
        dsimp only [callT_ret, callT_pan, onlyPV_v, Option.bind_some, pBool_v, pTup_v, pAgg_v, aggOf_v, pSl_v, pInt_v, pI64, pU64, pU32, pU8, List.getElem?_cons_zero, List.getElem?_cons_succ, cells_v, cells_sl, cells_agg, isCell_v, isCell_sl, cnd_t, cnd_f, tt_and, ff_and, nt_t, nt_f, len1, len3, len5, len8, len10, hlen1, clen1, clen5]
        by_cases hz : d.length / 8 = 0 ∧ ks.length = 0
        · have hE := V_rEncode0 (off := -1) (d := d.length / 8) (q := ks.length) (by decide) (by omega) g6
          have e1 : ptrI (.mk 1 0 0 d ks) ((W.length : Int) - a - 1) = encS (-1) (d.length / 8) ks.length := by
            show (if (1 : Int) = 0 then 0 else if (1 : Int) = 1 then (if d.length / 8 = 0 ∧ ks.length = 0 then encS (-1) 0 0 else _) else _) = _
            rw [if_neg (by decide), if_pos rfl, if_pos hz, hz.1, hz.2]
          rw [e1, show (((d.length / 8 : Nat) : Int) == 0) = true from by simp [hz.1], show ((ks.length : Int) == 0) = true from by simp [hz.2]]
          dsimp only [callT_ret, callT_pan, onlyPV_v, Option.bind_some, pBool_v, pTup_v, pAgg_v, aggOf_v, pSl_v, pInt_v, pI64, pU64, pU32, pU8, List.getElem?_cons_zero, List.getElem?_cons_succ, cells_v, cells_sl, cells_agg, isCell_v, isCell_sl, cnd_t, cnd_f, tt_and, ff_and, nt_t, nt_f, len1, len3, len5, len8, len10, hlen1, clen1, clen5]
          rw [hE]
          dsimp only [callT_ret, callT_pan, onlyPV_v, Option.bind_some, pBool_v, pTup_v, pAgg_v, aggOf_v, pSl_v, pInt_v, pI64, pU64, pU32, pU8, List.getElem?_cons_zero, List.getElem?_cons_succ, cells_v, cells_sl, cells_agg, isCell_v, isCell_sl, cnd_t, cnd_f, tt_and, ff_and, nt_t, nt_f, len1, len3, len5, len8, len10, hlen1, clen1, clen5]
          rw [decide_eq_true (show (1 : Nat) = 1 from rfl), decide_eq_true (show 0 ≤ (a : Int) by omega), decide_eq_true (show (a : Int) < ((ws (W ++ shW (.mk 1 0 0 d ks))).length : Int) by rw [ws_len]; omega), Int.toNat_natCast, hy0]
          dsimp only [setCells, List.length_cons, List.length_nil, callT_ret, callT_pan, onlyPV_v, Option.bind_some, pBool_v, pTup_v, pAgg_v, aggOf_v, pSl_v, pInt_v, pI64, pU64, pU32, pU8, List.getElem?_cons_zero, List.getElem?_cons_succ, cells_v, cells_sl, cells_agg, isCell_v, isCell_sl, cnd_t, cnd_f, tt_and, ff_and, nt_t, nt_f, len1, len3, len5, len8, len10, hlen1, clen1, clen5]
          rw [htg]
          dsimp only [callT_ret, callT_pan, onlyPV_v, Option.bind_some, pBool_v, pTup_v, pAgg_v, aggOf_v, pSl_v, pInt_v, pI64, pU64, pU32, pU8, List.getElem?_cons_zero, List.getElem?_cons_succ, cells_v, cells_sl, cells_agg, isCell_v, isCell_sl, cnd_t, cnd_f, tt_and, ff_and, nt_t, nt_f, len1, len3, len5, len8, len10, hlen1, clen1, clen5]
          rw [ws_set]
          exact hloop ..
        · have hE := V_rEncode0 (off := (W.length : Int) - a - 1) (d := d.length / 8) (q := ks.length) (by omega) (by omega) g6
          have e1 : ptrI (.mk 1 0 0 d ks) ((W.length : Int) - a - 1) = encS ((W.length : Int) - a - 1) (d.length / 8) ks.length := by
            show (if (1 : Int) = 0 then 0 else if (1 : Int) = 1 then (if d.length / 8 = 0 ∧ ks.length = 0 then _ else encS ((W.length : Int) - a - 1) (d.length / 8) ks.length) else _) = _
            rw [if_neg (by decide), if_pos rfl, if_neg hz]
          rw [e1]
          by_cases hz1 : d.length / 8 = 0
          · rw [show (((d.length / 8 : Nat) : Int) == 0) = true from by simp [hz1], show ((ks.length : Int) == 0) = false from beq_eq_false_iff_ne.2 (fun h2 => hz ⟨hz1, by omega⟩)]
            dsimp only [callT_ret, callT_pan, onlyPV_v, Option.bind_some, pBool_v, pTup_v, pAgg_v, aggOf_v, pSl_v, pInt_v, pI64, pU64, pU32, pU8, List.getElem?_cons_zero, List.getElem?_cons_succ, cells_v, cells_sl, cells_agg, isCell_v, isCell_sl, cnd_t, cnd_f, tt_and, ff_and, nt_t, nt_f, len1, len3, len5, len8, len10, hlen1, clen1, clen5]
            rw [hE]
            dsimp only [callT_ret, callT_pan, onlyPV_v, Option.bind_some, pBool_v, pTup_v, pAgg_v, aggOf_v, pSl_v, pInt_v, pI64, pU64, pU32, pU8, List.getElem?_cons_zero, List.getElem?_cons_succ, cells_v, cells_sl, cells_agg, isCell_v, isCell_sl, cnd_t, cnd_f, tt_and, ff_and, nt_t, nt_f, len1, len3, len5, len8, len10, hlen1, clen1, clen5]
            rw [decide_eq_true (show (1 : Nat) = 1 from rfl), decide_eq_true (show 0 ≤ (a : Int) by omega), decide_eq_true (show (a : Int) < ((ws (W ++ shW (.mk 1 0 0 d ks))).length : Int) by rw [ws_len]; omega), Int.toNat_natCast, hy0]
            dsimp only [setCells, List.length_cons, List.length_nil, callT_ret, callT_pan, onlyPV_v, Option.bind_some, pBool_v, pTup_v, pAgg_v, aggOf_v, pSl_v, pInt_v, pI64, pU64, pU32, pU8, List.getElem?_cons_zero, List.getElem?_cons_succ, cells_v, cells_sl, cells_agg, isCell_v, isCell_sl, cnd_t, cnd_f, tt_and, ff_and, nt_t, nt_f, len1, len3, len5, len8, len10, hlen1, clen1, clen5]
            rw [htg]
            dsimp only [callT_ret, callT_pan, onlyPV_v, Option.bind_some, pBool_v, pTup_v, pAgg_v, aggOf_v, pSl_v, pInt_v, pI64, pU64, pU32, pU8, List.getElem?_cons_zero, List.getElem?_cons_succ, cells_v, cells_sl, cells_agg, isCell_v, isCell_sl, cnd_t, cnd_f, tt_and, ff_and, nt_t, nt_f, len1, len3, len5, len8, len10, hlen1, clen1, clen5]
            rw [ws_set]
            exact hloop ..
          · rw [show (((d.length / 8 : Nat) : Int) == 0) = false from beq_eq_false_iff_ne.2 (by omega)]
            dsimp only [callT_ret, callT_pan, onlyPV_v, Option.bind_some, pBool_v, pTup_v, pAgg_v, aggOf_v, pSl_v, pInt_v, pI64, pU64, pU32, pU8, List.getElem?_cons_zero, List.getElem?_cons_succ, cells_v, cells_sl, cells_agg, isCell_v, isCell_sl, cnd_t, cnd_f, tt_and, ff_and, nt_t, nt_f, len1, len3, len5, len8, len10, hlen1, clen1, clen5]
            rw [hE]
            dsimp only [callT_ret, callT_pan, onlyPV_v, Option.bind_some, pBool_v, pTup_v, pAgg_v, aggOf_v, pSl_v, pInt_v, pI64, pU64, pU32, pU8, List.getElem?_cons_zero, List.getElem?_cons_succ, cells_v, cells_sl, cells_agg, isCell_v, isCell_sl, cnd_t, cnd_f, tt_and, ff_and, nt_t, nt_f, len1, len3, len5, len8, len10, hlen1, clen1, clen5]
            rw [decide_eq_true (show (1 : Nat) = 1 from rfl), decide_eq_true (show 0 ≤ (a : Int) by omega), decide_eq_true (show (a : Int) < ((ws (W ++ shW (.mk 1 0 0 d ks))).length : Int) by rw [ws_len]; omega), Int.toNat_natCast, hy0]
            dsimp only [setCells, List.length_cons, List.length_nil, callT_ret, callT_pan, onlyPV_v, Option.bind_some, pBool_v, pTup_v, pAgg_v, aggOf_v, pSl_v, pInt_v, pI64, pU64, pU32, pU8, List.getElem?_cons_zero, List.getElem?_cons_succ, cells_v, cells_sl, cells_agg, isCell_v, isCell_sl, cnd_t, cnd_f, tt_and, ff_and, nt_t, nt_f, len1, len3, len5, len8, len10, hlen1, clen1, clen5]
            rw [htg]
            dsimp only [callT_ret, callT_pan, onlyPV_v, Option.bind_some, pBool_v, pTup_v, pAgg_v, aggOf_v, pSl_v, pInt_v, pI64, pU64, pU32, pU8, List.getElem?_cons_zero, List.getElem?_cons_succ, cells_v, cells_sl, cells_agg, isCell_v, isCell_sl, cnd_t, cnd_f, tt_and, ff_and, nt_t, nt_f, len1, len3, len5, len8, len10, hlen1, clen1, clen5]
            rw [ws_set]
            exact hloop ..
      · cases x with
        | mk k e n d ks =>
          obtain ⟨k2, hn, he, h6, hl6⟩ := hs
          have k2' : k = 2 := k2
          subst k2'
          have hn' : 0 ≤ n ∧ n ≤ 536870911 := hn
          have he' : 0 ≤ e ∧ e ≤ 7 := he
          have pt : ∃ c : Int, ptP (.mk 2 e n d ks) = Pt1 0 e c ∧ (0 ≤ c ∧ c ≤ 536870911) ∧ ptrI (.mk 2 e n d ks) ((W.length : Int) - a - 1) = encL ((W.length : Int) - a - 1) e c := by
            by_cases e7 : e = 7
            · subst e7
              have a2' : (ks.length : Int) = n := (h6 (show (6 : Int) ≤ 7 by decide)).2
              have hnu : n * ((uniD ks + uniP ks : Nat) : Int) = ((ks.length * (uniD ks + uniP ks) : Nat) : Int) := by rw [← a2']; push_cast; rfl
              have eo : objSz (.mk 2 7 n d ks) = 1 + n * ((uniD ks + uniP ks : Nat) : Int) := rfl
              rw [eo, hnu] at hl
              refine ⟨((ks.length * (uniD ks + uniP ks) : Nat) : Int), rfl, by omega, ?_⟩
              rw [← hnu]; rfl
            · refine ⟨n, ?_, hn', ?_⟩
              · show (if (2 : Int) = 1 then _ else if e = 7 then _ else Pt1 0 e n) = _
                rw [if_neg (by decide), if_neg e7]
              · show (if (2 : Int) = 0 then 0 else if (2 : Int) = 1 then _ else if e = 7 then _ else encL ((W.length : Int) - a - 1) e n) = _
                rw [if_neg (by decide), if_neg (by decide), if_neg e7]
          obtain ⟨c, e0, hc, e1⟩ := pt
          have hE := V_rEncode1 (off := (W.length : Int) - a - 1) (e := e) (c := c) (by omega) he' hc
          rw [e0] at hsh
          rw [e1]
          dsimp only [Nd.x, Nd.kind, Nd.elem, Nd.n, Nd.data, Nd.kids] at hsh htg ⊢
          rw [capnpref14_Place_eq, show ((2 : Int) == 0) = false from rfl, hsh]
          dsimp only [Pt1, callT_ret, callT_pan, onlyPV_v, Option.bind_some, pBool_v, pTup_v, pAgg_v, aggOf_v, pSl_v, pInt_v, pI64, pU64, pU32, pU8, List.getElem?_cons_zero, List.getElem?_cons_succ, cells_v, cells_sl, cells_agg, isCell_v, isCell_sl, cnd_t, cnd_f, tt_and, ff_and, nt_t, nt_f, len1, len3, len5, len8, len10, hlen1, clen1, clen5]
          rw [ws_len, w64 (x := (W.length : Int) - a) (by omega), w64 (x := (W.length : Int) - a - 1) (by omega), roomy_ok (by omega) (by omega), ws_len, roomy_ok (by omega) (by omega), ← ws_app, show ((1 : Int) == 0) = false from rfl]
          dsimp only [callT_ret, callT_pan, onlyPV_v, Option.bind_some, pBool_v, pTup_v, pAgg_v, aggOf_v, pSl_v, pInt_v, pI64, pU64, pU32, pU8, List.getElem?_cons_zero, List.getElem?_cons_succ, cells_v, cells_sl, cells_agg, isCell_v, isCell_sl, cnd_t, cnd_f, tt_and, ff_and, nt_t, nt_f, len1, len3, len5, len8, len10, hlen1, clen1, clen5]
          rw [hE]
          dsimp only [callT_ret, callT_pan, onlyPV_v, Option.bind_some, pBool_v, pTup_v, pAgg_v, aggOf_v, pSl_v, pInt_v, pI64, pU64, pU32, pU8, List.getElem?_cons_zero, List.getElem?_cons_succ, cells_v, cells_sl, cells_agg, isCell_v, isCell_sl, cnd_t, cnd_f, tt_and, ff_and, nt_t, nt_f, len1, len3, len5, len8, len10, hlen1, clen1, clen5]
          rw [decide_eq_true (show (1 : Nat) = 1 from rfl), decide_eq_true (show 0 ≤ (a : Int) by omega), decide_eq_true (show (a : Int) < ((ws (W ++ shW (.mk 2 e n d ks))).length : Int) by rw [ws_len]; omega), Int.toNat_natCast, hy0]
          dsimp only [setCells, List.length_cons, List.length_nil, callT_ret, callT_pan, onlyPV_v, Option.bind_some, pBool_v, pTup_v, pAgg_v, aggOf_v, pSl_v, pInt_v, pI64, pU64, pU32, pU8, List.getElem?_cons_zero, List.getElem?_cons_succ, cells_v, cells_sl, cells_agg, isCell_v, isCell_sl, cnd_t, cnd_f, tt_and, ff_and, nt_t, nt_f, len1, len3, len5, len8, len10, hlen1, clen1, clen5]
          rw [htg]
          dsimp only [callT_ret, callT_pan, onlyPV_v, Option.bind_some, pBool_v, pTup_v, pAgg_v, aggOf_v, pSl_v, pInt_v, pI64, pU64, pU32, pU8, List.getElem?_cons_zero, List.getElem?_cons_succ, cells_v, cells_sl, cells_agg, isCell_v, isCell_sl, cnd_t, cnd_f, tt_and, ff_and, nt_t, nt_f, len1, len3, len5, len8, len10, hlen1, clen1, clen5]
          rw [ws_set]
          exact hloop ..
theorem V_rWrite {D : Nat} {x : Nd} (h : Ok D x) (hb : nodSz D x ≤ 134217728) : ev 32 [.pv x.x] [] = ok (.sl 1 (ws (canW D x))) := by
  have h2 := rplace_ok D x h [0] 0 (by decide) (by simp; omega)
  rw [unit_ok] at h2
  dsimp only [Nd.x] at h2 ⊢
  rw [capnpref14_Write_eq]
  refine (congrArg (fun z => callT z _ _) (show _ = _ from h2)).trans ?_
  rfl
end Go.Proofs.YthpbjpnbafiipaaDoor.E
set_option linter.unusedVariables false
set_option linter.unusedSimpArgs false
namespace Go.Proofs.YthpbjpnbafiipaaDoor.E
/-! The size of a denotation, and its cost. -/
theorem msg_ok {l : List (List Int)} (hl : Segs l) (hs : Sm l) {d w : Int} (hw : w ≤ 4611686018427387904) (h0 : (runT l d w).2.2 = 0) : Ok d.toNat (msgN l d w) ∧ cstN d.toNat (msgN l d w) ≤ meaC l d w := by
  obtain ⟨a1, a2⟩ := runT_okd hl hs h0
  have hg := (runT_ok hl hs (d := d) (w := w) hw).2
  unfold msgN meaC
  rw [if_pos h0, if_pos h0]
  refine ⟨⟨vn_trim _ a1, tr_trim _ hg, good_trim _ hg, dp_trim _ _ a2⟩, ?_⟩
  unfold runT at h0 ⊢
  split
  · rw [trimN0]
    cases d.toNat with
    | zero => show (0 : Int) ≤ max w 0 - max w 0; omega
    | succ D =>
      rw [cstN]
      show (if (0 : Int) = 0 then (0 : Int) else _) ≤ max w 0 - max w 0
      rw [if_pos rfl]
      omega
  · rename_i he
    rw [if_neg he] at h0
    exact (den_cst hl hs _ _ _ _ h0).1
end Go.Proofs.YthpbjpnbafiipaaDoor.E
set_option linter.unusedVariables false
set_option linter.unusedSimpArgs false
namespace Go.Proofs.YthpbjpnbafiipaaDoor.E
/-! The canonical form as a message. -/
theorem encS_word {off : Int} {d q : Nat} (hd : d ≤ 65535) (hq : q ≤ 65535) : Word (encS off d q) := by
  have hm := Int.emod_nonneg off (show (1073741824 : Int) ≠ 0 by decide)
  have hl := Int.emod_lt_of_pos off (show (0 : Int) < 1073741824 by decide)
  exact ⟨by unfold encS; omega, by unfold encS; omega⟩
theorem encL_word {off e c : Int} (he : 0 ≤ e ∧ e ≤ 7) (hc : 0 ≤ c ∧ c ≤ 536870911) : Word (encL off e c) := by
  have hm := Int.emod_nonneg off (show (1073741824 : Int) ≠ 0 by decide)
  have hl := Int.emod_lt_of_pos off (show (0 : Int) < 1073741824 by decide)
  exact ⟨by unfold encL; omega, by unfold encL; omega⟩
theorem word0 : Word 0 := ⟨by decide, by decide⟩
theorem nodSz_obj {D : Nat} {x : Nd} (hv : VN x) : objSz x ≤ nodSz D x := by
  cases D with
  | zero => exact Int.le_refl _
  | succ D =>
    rw [nodSz]
    have : 0 ≤ sumL ((tgt x).map (nodSz D)) := sumL_nn fun y hy => by
      obtain ⟨t, ht, rfl⟩ := List.mem_map.1 hy
      exact nodSz_nn D (vn_tgt hv t ht)
    omega
theorem ptr_word {D : Nat} {t : Nd} (h : Ok D t) (hb : nodSz D t ≤ 268435456) (off : Int) : Word (ptrI t off) := by
  obtain ⟨hs, hk⟩ := vn_shp h.vn
  have hob := nodSz_obj (D := D) h.vn
  unfold ptrI
  by_cases h0 : t.kind = 0
  · rw [if_pos h0]; exact word0
  · rw [if_neg h0]
    by_cases h1 : t.kind = 1
    · obtain ⟨d, q, rfl, g1, g2, g3, g4, g5, g6⟩ := st_parts h.vn h.tr h.gd h1
      rw [if_pos h1]
      split
      · exact encS_word (by omega) (by omega)
      · exact encS_word (by show d.length / 8 ≤ _; omega) g6
    · rw [if_neg h1]
      have hs2 : t.kind = 2 ∧ _ := (hs.resolve_left (fun h => h0 h.1)).resolve_left (fun h => h1 h.1)
      by_cases h7 : t.elem = 7
      · rw [if_pos h7]
        unfold objSz at hob
        rw [if_neg h0, if_neg h1, if_pos h7] at hob
        have := Int.mul_nonneg hs2.2.1.1 (Int.natCast_nonneg (uni t))
        unfold uni at this ⊢
        exact encL_word (by decide) (by omega)
      · rw [if_neg h7]
        exact encL_word hs2.2.2.1 hs2.2.1
theorem ptrW_word {B : Nd → List Int} : ∀ (l : List Nd) (i p : Nat), (∀ t ∈ l, ∀ off, Word (ptrI t off)) → ∀ w ∈ ptrW B i p l, Word w
  | [], i, p, h, w, hw => by cases hw
  | t :: r, i, p, h, w, hw => by
    rw [ptrW] at hw
    rcases List.mem_cons.1 hw with rfl | hw
    · exact h t List.mem_cons_self _
    · exact ptrW_word r _ _ (fun t ht => h t (List.mem_cons_of_mem _ ht)) w hw
theorem asmC_word {B : Nd → List Int} {a b : Nat} : ∀ (l : List Nd) (i p : Nat), (∀ k ∈ l, (∀ x ∈ k.data, Byte x) ∧ ∀ t ∈ k.kids, ∀ off, Word (ptrI t off)) → ∀ w ∈ asmC B a b i p l, Word w
  | [], i, p, h, w, hw => by cases hw
  | k :: r, i, p, h, w, hw => by
    rw [asmC] at hw
    obtain ⟨h1, h2⟩ := h k List.mem_cons_self
    rcases List.mem_append.1 hw with hw | hw
    · rcases List.mem_append.1 hw with hw | hw
      · exact wrdN_word _ h1 w hw
      · rcases List.mem_append.1 hw with hw | hw
        · exact ptrW_word _ _ _ h2 w hw
        · rw [(List.mem_replicate.1 hw).2]; exact word0
    · exact asmC_word r _ _ (fun t ht => h t (List.mem_cons_of_mem _ ht)) w hw
theorem sumL_mem {f : Nd → Int} : ∀ {l : List Nd}, (∀ t ∈ l, 0 ≤ f t) → ∀ t ∈ l, f t ≤ sumL (l.map f)
  | [], h, t, ht => by cases ht
  | x :: l, h, t, ht => by
    rw [List.map_cons, sumL_cons]
    have h0 := h x List.mem_cons_self
    have hr : 0 ≤ sumL (l.map f) := sumL_nn fun y hy => by
      obtain ⟨z, hz, rfl⟩ := List.mem_map.1 hy
      exact h z (List.mem_cons_of_mem _ hz)
    rcases List.mem_cons.1 ht with rfl | ht
    · omega
    · have := sumL_mem (fun z hz => h z (List.mem_cons_of_mem _ hz)) t ht; omega
theorem body_word : ∀ (D : Nat) (x : Nd), Ok D x → nodSz D x ≤ 268435456 → ∀ w ∈ body D x, Word w
  | 0, x, h, hb, w, hw => by cases hw
  | D + 1, x, h, hb, w, hw => by
    rw [body] at hw
    by_cases h0 : x.kind = 0
    · rw [if_pos h0] at hw; cases hw
    · rw [if_neg h0] at hw
      rw [nodSz] at hb
      have hT := ok_tgt h h0
      have hon := objSz_nn h.vn
      have hTb : ∀ t ∈ tgt x, nodSz D t ≤ 268435456 := fun t ht => by
        have := sumL_mem (f := nodSz D) (fun t ht => nodSz_nn D (hT t ht).vn) t ht
        omega
      have hP : ∀ t ∈ tgt x, ∀ off, Word (ptrI t off) := fun t ht => ptr_word (hT t ht) (hTb t ht)
      obtain ⟨hs, hkk⟩ := vn_shp h.vn
      rcases List.mem_append.1 hw with hw | hw
      · unfold obW at hw
        by_cases h1 : x.kind = 1
        · obtain ⟨d, q, rfl, g1, g2, g3, g4, g5, g6⟩ := st_parts h.vn h.tr h.gd h1
          rw [if_pos h1] at hw
          rcases List.mem_append.1 hw with hw | hw
          · exact wrdN_word _ g3 w hw
          · exact ptrW_word _ _ _ hP w hw
        · have hs2 := (hs.resolve_left (fun h => h0 h.1)).resolve_left (fun h => h1 h.1)
          rw [if_neg h1] at hw
          cases x with
          | mk k e n d ks =>
            have hg := h.gd
            rw [good] at hg
            obtain ⟨k2, hn, he, h6, hl6⟩ := hs2
            have k2' : k = 2 := k2
            subst k2'
            have hn' : 0 ≤ n ∧ n ≤ 536870911 := hn
            by_cases e7 : e = 7
            · subst e7
              have hw : w ∈ encS n (uniD ks) (uniP ks) :: asmC (body D) (uniD ks) (uniP ks) 1 (1 + ks.length * uni (.mk 2 7 n d ks)) ks := hw
              have hst : ∀ k ∈ ks, k.kind = 1 := by
                cases h.vn with
                | mk v1 v2 v3 => exact v2 rfl rfl
              have htr : ∀ k ∈ ks, TrN k := by
                cases h.tr with
                | mk t1 t2 => exact t2
              have hparts : ∀ k ∈ ks, (∀ x ∈ k.data, Byte x) ∧ k.data.length % 8 = 0 ∧ k.data.length ≤ 524280 ∧ k.kids.length ≤ 65535 := fun k hk => by
                obtain ⟨d, q, rfl, g1, g2, g3, g4, g5, g6⟩ := st_parts (hkk k hk) (htr k hk) (goods_iff.1 hg.2 k hk) (hst k hk)
                exact ⟨g3, g4, g5, g6⟩
              rcases List.mem_cons.1 hw with rfl | hw
              · exact encS_word (uniD_le fun x hx => by have := (hparts x hx).2.2.1; omega) (uniP_le fun x hx => (hparts x hx).2.2.2)
              · exact asmC_word ks _ _ (fun k hk => ⟨(hparts k hk).1, fun t ht => hP t (List.mem_flatMap.2 ⟨k, hk, ht⟩)⟩) w hw
            · have et : tgt (.mk 2 e n d ks) = ks := by
                show (if (2 : Int) = 2 ∧ e = 7 then _ else ks) = _
                rw [if_neg (fun h => e7 h.2)]
              rw [et] at hP
              rw [if_neg (show ¬ (Nd.mk 2 e n d ks).elem = 7 from e7)] at hw
              split at hw
              · exact ptrW_word _ _ _ hP w hw
              · exact wrdN_word _ hg.1.2.1 w hw
      · obtain ⟨t, ht, hw⟩ := List.mem_flatMap.1 hw
        exact body_word D t (hT t ht) (hTb t ht) w hw
theorem canW_word {D : Nat} {x : Nd} (h : Ok D x) (hb : nodSz D x ≤ 268435456) : ∀ w ∈ canW D x, Word w := fun w hw => by
  rcases List.mem_cons.1 hw with rfl | hw
  · exact ptr_word h hb 0
  · exact body_word D x h hb w hw
theorem canW_len {D : Nat} {x : Nd} (h : Ok D x) : ((canW D x).length : Int) = nodSz D x + 1 := by
  rw [canW, List.length_cons, ← body_len' h]; push_cast; rfl
theorem canW_segs {D : Nat} {x : Nd} (h : Ok D x) (hb : nodSz D x ≤ 268435456) : Segs [canW D x] := by
  have := canW_len h
  refine ⟨by rw [List.length_singleton]; decide, fun s hs => ?_⟩
  rw [List.mem_singleton.1 hs]
  exact ⟨by omega, canW_word h hb⟩
theorem canW_sm {D : Nat} {x : Nd} (h : Ok D x) (hb : nodSz D x ≤ 268435456) : Sm [canW D x] := by
  have := canW_len h
  intro s
  unfold rdL
  rcases Nat.eq_zero_or_pos s.toNat with h0 | h0
  · rw [h0]; show ((canW D x).length : Int) ≤ _; omega
  · rw [List.getD_eq_getElem?_getD, List.getElem?_eq_none (by rw [List.length_singleton]; omega)]
    simp
/-- What the canonical form denotes. -/
theorem can_run {D : Nat} {x : Nd} (h : Ok D x) (hb : nodSz D x ≤ 134217728) {d w : Int} (hd : d.toNat = D) (hc : cstN D x ≤ max w 0) : ∃ y, runT [canW D x] d w = (y, max w 0 - cstN D x, 0) ∧ trimN y = x := by
  have hl := canW_len h
  have R := den_can (W := canW D x) (by omega) D
  obtain ⟨y, e, ht⟩ := R.one x 0 1 (max w 0) h ⟨[ptrI x 0], [], by simp [canW], rfl⟩ ⟨[], body D x, by simp [canW], rfl⟩ hc
  refine ⟨y, ?_, ht⟩
  unfold runT
  have hne : ¬ emp [canW D x] := fun he => by
    have h2 : (rdL [canW D x] 0).length = 0 := he.2
    have h3 : (rdL [canW D x] 0).length = (canW D x).length := rfl
    have h4 := nodSz_nn D h.vn
    omega
  rw [if_neg hne, hd]
  exact e
theorem can_msg {D : Nat} {x : Nd} (h : Ok D x) (hb : nodSz D x ≤ 134217728) {d w : Int} (hd : d.toNat = D) (hc : cstN D x ≤ max w 0) : msgE [canW D x] d w = 0 ∧ msgN [canW D x] d w = x ∧ meaC [canW D x] d w = cstN D x := by
  obtain ⟨y, e, ht⟩ := can_run h hb hd hc
  refine ⟨by unfold msgE; rw [e], ?_, ?_⟩
  · unfold msgN; rw [e, if_pos rfl]; exact ht
  · unfold meaC; rw [e, if_pos rfl]; show max w 0 - (max w 0 - cstN D x) = _; exact Int.sub_sub_self _ _
theorem can_inj {D : Nat} {x y : Nd} (hx : Ok D x) (hy : Ok D y) (bx : nodSz D x ≤ 134217728) (by' : nodSz D y ≤ 134217728) : canW D x = canW D y ↔ x = y := by
  constructor
  · intro e
    obtain ⟨_, a, _⟩ := can_msg hx bx (d := (D : Int)) (w := max (cstN D x) (cstN D y)) (by omega) (by omega)
    obtain ⟨_, b, _⟩ := can_msg hy by' (d := (D : Int)) (w := max (cstN D x) (cstN D y)) (by omega) (by omega)
    rw [e] at a
    exact a.symm.trans b
  · rintro rfl; rfl
-- comparing words
theorem same_w_loop {a b : List Int} (hl : a.length = b.length) (ha : a.length ≤ 17592186044416) : ∀ (c i : Nat), i + c = a.length → a.take i = b.take i → capnpref01_SameWords_L0 (ws a) (ws b) i = ok (Bo (eqB a b)) := by
  intro c
  induction c with
  | zero =>
    intro i hi ht
    rw [capnpref01_SameWords_L0_eq, decide_eq_false (by simp; omega), eqB_t (by rw [List.take_of_length_le (by omega), List.take_of_length_le (by omega)] at ht; exact ht)]
    rfl
  | succ c ih =>
    intro i hi ht
    rw [capnpref01_SameWords_L0_eq, decide_eq_true (show (i : Int) < ((ws a).length : Int) by simp; omega), decide_eq_true (show 0 ≤ (i : Int) by omega), decide_eq_true (show (i : Int) < ((ws b).length : Int) by simp; omega)]
    dsimp only [callT_ret, callT_pan, onlyPV_v, Option.bind_some, pBool_v, pTup_v, pAgg_v, aggOf_v, pSl_v, pInt_v, pI64, pU64, pU32, pU8, List.getElem?_cons_zero, List.getElem?_cons_succ, cells_v, cells_sl, cells_agg, isCell_v, isCell_sl, cnd_t, cnd_f, tt_and, ff_and, nt_t, nt_f, len1, len3, len5, len8, len10, hlen1, clen1, clen5]
    rw [Int.toNat_natCast, ws_get (show i < a.length by omega), ws_get (show i < b.length by omega)]
    dsimp only [callT_ret, callT_pan, onlyPV_v, Option.bind_some, pBool_v, pTup_v, pAgg_v, aggOf_v, pSl_v, pInt_v, pI64, pU64, pU32, pU8, List.getElem?_cons_zero, List.getElem?_cons_succ, cells_v, cells_sl, cells_agg, isCell_v, isCell_sl, cnd_t, cnd_f, tt_and, ff_and, nt_t, nt_f, len1, len3, len5, len8, len10, hlen1, clen1, clen5]
    by_cases he : a[i]'(by omega) = b[i]'(by omega)
    · rw [show (a[i]'(by omega) != b[i]'(by omega)) = false from by simpa using he, w64 (x := (i : Int) + 1) (by omega)]
      refine ih (i + 1) (by omega) ?_
      rw [take_snoc (show i < a.length by omega), take_snoc (show i < b.length by omega), ht, he]
    · rw [bne_iff_ne.2 he, eqB_f (fun h => he (by subst h; rfl))]
      rfl
theorem V_SameWB {a b : List Int} (ha : a.length ≤ 17592186044416) (hb : b.length ≤ 17592186044416) : ev 30 [.pv (.sl 1 (ws a)), .pv (.sl 1 (ws b))] [] = ok (Bo (eqB a b)) := by
  rw [capnpref01_SameWords_eq, ws_len, ws_len]
  by_cases hl : a.length = b.length
  · rw [show ((a.length : Int) != (b.length : Int)) = false from by rw [hl]; simp]
    exact same_w_loop hl ha a.length 0 (by omega) (by rw [List.take_zero, List.take_zero])
  · rw [bne_iff_ne.2 (show (a.length : Int) ≠ (b.length : Int) by omega), eqB_f (fun h => hl (by rw [h]))]
    rfl
theorem V_Same1 {a b : List Int} (ha : a.length ≤ 17592186044416) (hb : b.length ≤ 17592186044416) : ev 17 [.pv (.sl 1 [.sl 1 (ws a)]), .pv (.sl 1 [.sl 1 (ws b)])] [] = ok (Bo (eqB a b)) := by
  have h := V_SameWB ha hb
  rw [capnpref04_Same_eq, show (((([.sl 1 (ws a)] : List PV).length : Nat) : Int) != ((([.sl 1 (ws b)] : List PV).length : Nat) : Int)) = false from rfl]
  dsimp only [callT_ret, callT_pan, onlyPV_v, Option.bind_some, pBool_v, pTup_v, pAgg_v, aggOf_v, pSl_v, pInt_v, pI64, pU64, pU32, pU8, List.getElem?_cons_zero, List.getElem?_cons_succ, cells_v, cells_sl, cells_agg, isCell_v, isCell_sl, cnd_t, cnd_f, tt_and, ff_and, nt_t, nt_f, len1, len3, len5, len8, len10, hlen1, clen1, clen5]
  rw [capnpref04_Same_L0_eq, show decide ((0 : Int) < (([.sl 1 (ws a)] : List PV).length : Int)) = true from rfl, show decide ((0 : Int) < (([.sl 1 (ws b)] : List PV).length : Int)) = true from rfl, show (0 : Int).toNat = 0 from rfl]
  dsimp only [callT_ret, callT_pan, onlyPV_v, Option.bind_some, pBool_v, pTup_v, pAgg_v, aggOf_v, pSl_v, pInt_v, pI64, pU64, pU32, pU8, List.getElem?_cons_zero, List.getElem?_cons_succ, cells_v, cells_sl, cells_agg, isCell_v, isCell_sl, cnd_t, cnd_f, tt_and, ff_and, nt_t, nt_f, len1, len3, len5, len8, len10, hlen1, clen1, clen5]
  rw [h]
  dsimp only [callT_ret, callT_pan, onlyPV_v, Option.bind_some, pBool_v, pTup_v, pAgg_v, aggOf_v, pSl_v, pInt_v, pI64, pU64, pU32, pU8, List.getElem?_cons_zero, List.getElem?_cons_succ, cells_v, cells_sl, cells_agg, isCell_v, isCell_sl, cnd_t, cnd_f, tt_and, ff_and, nt_t, nt_f, len1, len3, len5, len8, len10, hlen1, clen1, clen5]
  cases eqB a b with
  | false => rfl
  | true =>
    dsimp only [callT_ret, callT_pan, onlyPV_v, Option.bind_some, pBool_v, pTup_v, pAgg_v, aggOf_v, pSl_v, pInt_v, pI64, pU64, pU32, pU8, List.getElem?_cons_zero, List.getElem?_cons_succ, cells_v, cells_sl, cells_agg, isCell_v, isCell_sl, cnd_t, cnd_f, tt_and, ff_and, nt_t, nt_f, len1, len3, len5, len8, len10, hlen1, clen1, clen5]
    rw [capnpref04_Same_L0_eq]
    rfl
end Go.Proofs.YthpbjpnbafiipaaDoor.E
set_option linter.unusedVariables false
set_option linter.unusedSimpArgs false
namespace Go.Proofs.YthpbjpnbafiipaaDoor.E
/-! Comparing in place: whether the trimmed denotations are the same. -/
theorem eqB_true {α : Type} {x y : α} : eqB x y = true ↔ x = y := by
  by_cases h : x = y
  · exact ⟨fun _ => h, fun _ => eqB_t h⟩
  · exact ⟨fun e => by (rw [eqB_f h] at e; cases e), fun e => absurd e h⟩
theorem ba_loop (b : ByteArray) : ∀ (c i : Nat) (r : List UInt8), i + c = b.size → ByteArray.toList.loop b i r = r.reverse ++ b.data.toList.drop i := by
  intro c
  induction c with
  | zero =>
    intro i r hi
    unfold ByteArray.toList.loop
    rw [if_neg (by omega), List.drop_of_length_le (by rw [Array.length_toList]; have : b.size = b.data.size := rfl; omega), List.append_nil]
  | succ c ih =>
    intro i r hi
    have hib : i < b.data.size := by show i < b.size; omega
    unfold ByteArray.toList.loop
    rw [if_pos (by omega), ih (i + 1) _ (by omega), List.reverse_cons, List.append_assoc]
    congr 1
    conv => rhs; rw [List.drop_eq_getElem_cons (by rw [Array.length_toList]; exact hib)]
    have : b.get! i = b.data[i] := by
      show b.data[i]! = b.data[i]
      rw [getElem!_pos b.data i hib]
    rw [this, Array.getElem_toList]
    rfl
theorem ba_toList (b : ByteArray) : b.toList = b.data.toList := by
  unfold ByteArray.toList
  rw [ba_loop b b.size 0 [] (by omega)]
  rfl
theorem strOf_inj {a b : List Int} (ha : ∀ x ∈ a, Byte x) (hb : ∀ x ∈ b, Byte x) (h : (strOfNums a).toList = (strOfNums b).toList) : a = b := by
  rw [ba_toList, ba_toList, strOfNums_data, strOfNums_data] at h
  have hl : a.length = b.length := by have := congrArg List.length h; simpa using this
  apply List.ext_getElem hl
  intro i h1 h2
  have e := congrArg (fun l : List UInt8 => l[i]?) h
  simp only [List.getElem?_map, List.getElem?_eq_getElem h1, List.getElem?_eq_getElem h2, Option.map_some, Option.some.injEq] at e
  obtain ⟨p1, p2⟩ := ha _ (List.getElem_mem h1)
  obtain ⟨q1, q2⟩ := hb _ (List.getElem_mem h2)
  have := congrArg UInt8.toNat e
  rw [UInt8.toNat_ofNat', UInt8.toNat_ofNat', Nat.mod_eq_of_lt (by omega), Nat.mod_eq_of_lt (by omega)] at this
  omega
theorem pBytes_bs : ∀ a : List Int, pBytes (bs a) = some a
  | [] => rfl
  | x :: a => by
    show (pBytes (bs a)).map (fun l => x :: l) = some (x :: a)
    rw [pBytes_bs a]; rfl
theorem V_bytesEq {a b : List Int} (ha : ∀ x ∈ a, Byte x) (hb : ∀ x ∈ b, Byte x) : ev 99 [.pv (.sl 1 (bs a)), .pv (.sl 1 (bs b))] [] = ok (Bo (eqB a b)) := by
  rw [bytes_Equal_eq, pBytes_bs, Option.bind_some, pBytes_bs, Option.bind_some]
  by_cases h : a = b
  · rw [eqB_t h, beq_iff_eq.2 (by rw [h])]
  · rw [eqB_f h, beq_eq_false_iff_ne.2 (fun e => h (strOf_inj ha hb e))]
-- objects and what they denote
def denOb (l : List (List Int)) (D : Nat) (m : Int) (o : Ob) : Nd × Int × Int := if o.kind = 1 then strct (den l D) l m o else denL (den l D) l m o
def K1 (o : Ob) : Prop := o.kind = 1 → o.elem = 0 ∧ o.n = 0
theorem obj_k1 (l : List (List Int)) (s a : Int) : K1 (obj l s a).1 := by
  have hb : ∀ e, K1 (bad e).1 := fun e h => ⟨rfl, rfl⟩
  unfold obj objP objS objL objC
  repeat' split
  all_goals first
    | exact hb _
    | exact fun _ => ⟨rfl, rfl⟩
    | exact fun h => absurd h (show ¬ ((2 : Int) = 1) by decide)
/-- What an object denotes, with this many levels left. -/
def Dn (l : List (List Int)) (D : Nat) (o : Ob) (n : Nd) : Prop := (o = ob0 ∧ n = nd0) ∨ ∃ D', D = D' + 1 ∧ ObOk l o ∧ Np o ∧ K1 o ∧ ∃ m, (denOb l D' m o).2.2 = 0 ∧ (denOb l D' m o).1 = n
theorem den_dn {l : List (List Int)} (hl : Segs l) (hs : Sm l) {D : Nat} {m s a : Int} (h : (den l D m s a).2.2 = 0) : Dn l D (obj l s a).1 (den l D m s a).1 := by
  by_cases he : (fol l s a).2.2.2 = 0
  · by_cases h0 : (fol l s a).1 = 0
    · rw [den_nil he h0]
      refine .inl ⟨?_, rfl⟩
      unfold obj
      rw [if_pos he, if_pos h0]
      rfl
    · cases D with
      | zero => rw [den_deep he h0] at h; exact absurd h (by show ¬ ((7 : Int) = 0); decide)
      | succ D =>
        rw [den_obj he h0] at h ⊢
        unfold denO at h ⊢
        by_cases hf : (obj l s a).2 = 0
        · rw [if_pos hf] at h ⊢
          by_cases h8 : (obj l s a).1.cost > m
          · rw [if_pos h8] at h; exact absurd h (by show ¬ ((8 : Int) = 0); decide)
          · rw [if_neg h8] at h ⊢
            exact .inr ⟨D, rfl, obj_ok hl hs h0 he hf, obj_np hl hs h0 he hf, obj_k1 l s a, m - (obj l s a).1.cost, h, rfl⟩
        · rw [if_neg hf] at h; exact absurd h hf
  · rw [den_err he] at h; exact absurd h he
theorem dn_head {l : List (List Int)} {D : Nat} {o : Ob} {n : Nd} (h : Dn l D o n) : n.kind = o.kind ∧ n.elem = o.elem ∧ n.n = o.n := by
  rcases h with ⟨rfl, rfl⟩ | ⟨D', _, hok, _, hk1, m, hz, rfl⟩
  · exact ⟨rfl, rfl, rfl⟩
  · obtain ⟨_, _, _, _, _, _, hk, _⟩ := hok
    unfold denOb at hz ⊢
    by_cases h1 : o.kind = 1
    · rw [if_pos h1] at hz ⊢
      have hz' : (kidsF (fun m (i : Nat) => den l D' m o.seg (o.at_ + o.data + i)) o.ptrs.toNat 0 m []).2.2 = 0 := hz
      unfold strct
      rw [wrapK_ok0 hz']
      exact ⟨h1.symm, (hk1 h1).1.symm, (hk1 h1).2.symm⟩
    · rw [if_neg h1] at hz ⊢
      have h2 : o.kind = 2 := by omega
      unfold denL at hz ⊢
      by_cases h6 : o.elem < 6
      · rw [if_pos h6]; exact ⟨h2.symm, rfl, rfl⟩
      · rw [if_neg h6] at hz ⊢
        have hz' : (kidsF (fun m (i : Nat) => if o.elem = 6 then den l D' m o.seg (o.at_ + i) else strct (den l D') l m (elt o i)) o.n.toNat 0 m []).2.2 = 0 := hz
        rw [wrapK_ok0 hz']
        exact ⟨h2.symm, rfl, rfl⟩
/-- The object of a pointer. -/
def obAt (l : List (List Int)) (o : Ob) (i : Nat) : Ob := if (i : Int) ≥ ptsN o then ob0 else (obj l o.seg (ptsA o + i)).1
theorem strct_kids {l : List (List Int)} (hl : Segs l) (hs : Sm l) {D : Nat} {m : Int} {o : Ob} (hk : o.kind = 1) (hq : 0 ≤ o.ptrs) (h : (strct (den l D) l m o).2.2 = 0) : ∃ ks, (strct (den l D) l m o).1 = .mk 1 0 0 (byt (cutB l o.seg o.at_ o.data)) ks ∧ ks.length = o.ptrs.toNat ∧ ∀ i, Dn l D (obAt l o i) (ks.getD i nd0) := by
  have hz : (kidsF (fun m (i : Nat) => den l D m o.seg (o.at_ + o.data + i)) o.ptrs.toNat 0 m []).2.2 = 0 := h
  obtain ⟨ks, e1, e2, e3⟩ := kids_nth (G := fun m (i : Nat) => den l D m o.seg (o.at_ + o.data + i)) o.ptrs.toNat 0 m [] hz
  refine ⟨ks, ?_, e2, fun i => ?_⟩
  · unfold strct
    rw [wrapK_ok0 hz]
    dsimp only
    rw [e1, List.nil_append]
  · have hN : ptsN o = o.ptrs := by
      unfold ptsN
      by_cases h0 : 0 < o.ptrs
      · rw [if_pos ⟨hk, h0⟩]
      · rw [if_neg (fun x => h0 x.2), if_neg (fun x => absurd x.1 (by omega))]; omega
    unfold obAt
    rw [hN]
    by_cases hi : (i : Int) ≥ o.ptrs
    · rw [if_pos hi, List.getD_eq_getElem?_getD, List.getElem?_eq_none (by omega)]
      exact .inl ⟨rfl, rfl⟩
    · rw [if_neg hi]
      have hik : i < ks.length := by omega
      obtain ⟨m1, f1, f2⟩ := e3 i hik
      rw [List.getD_eq_getElem?_getD, List.getElem?_eq_getElem hik, Option.getD_some, ← f2, Nat.zero_add]
      rw [Nat.zero_add] at f1
      have hA : ptsA o = o.at_ + o.data := by unfold ptsA; rw [if_pos ⟨hk, by omega⟩]
      rw [hA]
      exact den_dn hl hs f1
abbrev pairV (la lb : List (List Int)) : AV := .pv (.agg [.sl 1 (sgs la), .sl 1 (sgs lb)])
theorem V_object {l : List (List Int)} (hl : Segs l) (hs : Sm l) {o : Ob} (hat : 0 ≤ o.at_ ∧ o.at_ ≤ 1125899906842624) (hdt : 0 ≤ o.data ∧ o.data ≤ 65535) (hA : 0 ≤ ptsA o ∧ ptsA o ≤ 2251799813685248) {i : Nat} (hi : i ≤ 1073741824) : ev 101 [.pv (.sl 1 (sgs l)), .pv (.agg o.c), .pv (I i)] [] = ok (.agg (obAt l o i).c) := by
  have hp := V_Pointers o (by omega)
  rw [Ob.c] at hp ⊢
  rw [equal_object_eq, hp]
  dsimp only [callT_ret, callT_pan, onlyPV_v, Option.bind_some, pBool_v, pTup_v, pAgg_v, aggOf_v, pSl_v, pInt_v, pI64, pU64, pU32, pU8, List.getElem?_cons_zero, List.getElem?_cons_succ, cells_v, cells_sl, cells_agg, isCell_v, isCell_sl, cnd_t, cnd_f, tt_and, ff_and, nt_t, nt_f, len1, len3, len5, len8, len10, hlen1, clen1, clen5]
  unfold obAt
  by_cases h : (i : Int) ≥ ptsN o
  · rw [decide_eq_true h, if_pos h]; rfl
  · rw [decide_eq_false h, if_neg h, w64 (x := ptsA o + i) (by omega), V_Object hl hs]
    rfl
theorem V_wordsO {l : List (List Int)} (hl : Segs l) (o : Ob) {n : Int} (hn : n ≤ 17592186044416) : ev 98 [.pv (.sl 1 (sgs l)), .pv (.agg o.c), .pv (I n)] [] = ok (.sl 1 (ws (cutB l o.seg o.at_ n))) := by
  rw [Ob.c, equal_words_eq, V_SliceB hl _ _ _ hn]
  rfl
theorem pts_loop {la lb : List (List Int)} {x y : Ob} {q : Nat} (hq : q ≤ 1073741824) (f : Nat → Bool)
    (hx : ∀ i, i < q → ev 101 [.pv (.sl 1 (sgs la)), .pv (.agg x.c), .pv (I i)] [] = ok (.agg (obAt la x i).c)) (hy : ∀ i, i < q → ev 101 [.pv (.sl 1 (sgs lb)), .pv (.agg y.c), .pv (I i)] [] = ok (.agg (obAt lb y i).c))
    (hf : ∀ i, i < q → ev 40 [pairV la lb, .pv (.agg (obAt la x i).c), .pv (.agg (obAt lb y i).c)] [] = ok (Bo (f i))) : ∀ (c i : Nat), i + c = q → (∀ j, j < i → f j = true) →
    equal_pair_pointers_L0 q i (sgs la) (sgs lb) x.kind x.seg x.at_ x.data x.ptrs x.elem x.n x.cost y.kind y.seg y.at_ y.data y.ptrs y.elem y.n y.cost = ok (Bo ((List.range q).all f)) := by
  intro c
  induction c with
  | zero =>
    intro i hi hj
    rw [equal_pair_pointers_L0_eq, decide_eq_false (by omega), List.all_eq_true.2 (fun j h => hj j (by have := List.mem_range.1 h; omega))]
    rfl
  | succ c ih =>
    intro i hi hj
    have e1 := hx i (by omega)
    have e2 := hy i (by omega)
    have e3 := hf i (by omega)
    rw [Ob.c] at e1 e2
    rw [equal_pair_pointers_L0_eq, decide_eq_true (by omega), e1]
    dsimp only [callT_ret, callT_pan, onlyPV_v, Option.bind_some, pBool_v, pTup_v, pAgg_v, aggOf_v, pSl_v, pInt_v, pI64, pU64, pU32, pU8, List.getElem?_cons_zero, List.getElem?_cons_succ, cells_v, cells_sl, cells_agg, isCell_v, isCell_sl, cnd_t, cnd_f, tt_and, ff_and, nt_t, nt_f, len1, len3, len5, len8, len10, hlen1, clen1, clen5]
    rw [e2]
    dsimp only [callT_ret, callT_pan, onlyPV_v, Option.bind_some, pBool_v, pTup_v, pAgg_v, aggOf_v, pSl_v, pInt_v, pI64, pU64, pU32, pU8, List.getElem?_cons_zero, List.getElem?_cons_succ, cells_v, cells_sl, cells_agg, isCell_v, isCell_sl, cnd_t, cnd_f, tt_and, ff_and, nt_t, nt_f, len1, len3, len5, len8, len10, hlen1, clen1, clen5]
    rw [e3]
    dsimp only [callT_ret, callT_pan, onlyPV_v, Option.bind_some, pBool_v, pTup_v, pAgg_v, aggOf_v, pSl_v, pInt_v, pI64, pU64, pU32, pU8, List.getElem?_cons_zero, List.getElem?_cons_succ, cells_v, cells_sl, cells_agg, isCell_v, isCell_sl, cnd_t, cnd_f, tt_and, ff_and, nt_t, nt_f, len1, len3, len5, len8, len10, hlen1, clen1, clen5]
    cases hfi : f i with
    | true =>
      dsimp only [callT_ret, callT_pan, onlyPV_v, Option.bind_some, pBool_v, pTup_v, pAgg_v, aggOf_v, pSl_v, pInt_v, pI64, pU64, pU32, pU8, List.getElem?_cons_zero, List.getElem?_cons_succ, cells_v, cells_sl, cells_agg, isCell_v, isCell_sl, cnd_t, cnd_f, tt_and, ff_and, nt_t, nt_f, len1, len3, len5, len8, len10, hlen1, clen1, clen5]
      rw [w64 (x := (i : Int) + 1) (by omega)]
      exact ih (i + 1) (by omega) fun j h => by
        rcases Nat.lt_or_ge j i with h1 | h1
        · exact hj j h1
        · rw [show j = i by omega]; exact hfi
    | false =>
      rw [show (List.range q).all f = false from by
        rw [Bool.eq_false_iff]
        intro h
        have := List.all_eq_true.1 h i (List.mem_range.2 (by omega))
        rw [hfi] at this; cases this]
      rfl
theorem getD_map (l : List Nd) (i : Nat) : (l.map trimN).getD i nd0 = trimN (l.getD i nd0) := by
  simp only [List.getD_eq_getElem?_getD, List.getElem?_map]
  cases l[i]? with
  | none => rfl
  | some x => rfl
theorem bo_eq {p q : Bool} (h : p = true ↔ q = true) : p = q := Bool.eq_iff_iff.2 h
end Go.Proofs.YthpbjpnbafiipaaDoor.E
set_option linter.unusedVariables false
set_option linter.unusedSimpArgs false
namespace Go.Proofs.YthpbjpnbafiipaaDoor.E
/-! same = the trimmed denotations are the same. -/
/-- Objects compared, at a depth. -/
def SameOk (la lb : List (List Int)) (D : Nat) : Prop := ∀ x y nx ny, Dn la D x nx → Dn lb D y ny → ev 40 [pairV la lb, .pv (.agg x.c), .pv (.agg y.c)] [] = ok (Bo (eqB (trimN nx) (trimN ny)))
/-- A struct's place, well within. -/
def Wi (o : Ob) : Prop := (0 ≤ o.at_ ∧ o.at_ ≤ 1125899906842624) ∧ (0 ≤ o.data ∧ o.data ≤ 65535) ∧ (0 ≤ o.ptrs ∧ o.ptrs ≤ 65535)
theorem wi_pts {o : Ob} (h : Wi o) (hk : o.kind = 1) : 0 ≤ ptsA o ∧ ptsA o ≤ 2251799813685248 := by
  obtain ⟨h1, h2, h3⟩ := h
  unfold ptsA
  split
  · omega
  · rw [if_neg (fun x => absurd x.1 (by omega))]; omega
theorem V_pts {la lb : List (List Int)} (hla : Segs la) (hsa : Sm la) (hlb : Segs lb) (hsb : Sm lb) {D : Nat} (ih : SameOk la lb D) {x y : Ob} (hx1 : 0 ≤ x.at_ ∧ x.at_ ≤ 1125899906842624) (hx2 : 0 ≤ x.data ∧ x.data ≤ 65535) (hx3 : 0 ≤ ptsA x ∧ ptsA x ≤ 2251799813685248) (hy1 : 0 ≤ y.at_ ∧ y.at_ ≤ 1125899906842624) (hy2 : 0 ≤ y.data ∧ y.data ≤ 65535) (hy3 : 0 ≤ ptsA y ∧ ptsA y ≤ 2251799813685248) {q : Nat} (hq : q ≤ 1073741824) {kx ky : List Nd}
    (dx : ∀ i, i < q → Dn la D (obAt la x i) (kx.getD i nd0)) (dy : ∀ i, i < q → Dn lb D (obAt lb y i) (ky.getD i nd0)) : ev 62 [pairV la lb, .pv (.agg x.c), .pv (.agg y.c), .pv (I q)] [] = ok (Bo ((List.range q).all fun i => eqB (trimN (kx.getD i nd0)) (trimN (ky.getD i nd0)))) := by
  have := pts_loop (la := la) (lb := lb) (x := x) (y := y) hq (fun i => eqB (trimN (kx.getD i nd0)) (trimN (ky.getD i nd0))) (fun i hi => V_object hla hsa hx1 hx2 hx3 (by omega)) (fun i hi => V_object hlb hsb hy1 hy2 hy3 (by omega)) (fun i hi => ih _ _ _ _ (dx i hi) (dy i hi)) q 0 (by omega) (fun j h => absurd h (by omega))
  rw [Ob.c, Ob.c, equal_pair_pointers_eq]
  exact this
theorem all_get {q : Nat} {kx ky : List Nd} : ((List.range q).all fun i => eqB (trimN (kx.getD i nd0)) (trimN (ky.getD i nd0))) = true ↔ ∀ i, i < q → (kx.map trimN).getD i nd0 = (ky.map trimN).getD i nd0 := by
  rw [List.all_eq_true]
  constructor
  · intro h i hi
    rw [getD_map, getD_map]
    exact eqB_true.1 (h i (List.mem_range.2 hi))
  · intro h i hi
    have := h i (List.mem_range.1 hi)
    rw [getD_map, getD_map] at this
    exact eqB_true.2 this
theorem vn_kids {k e n : Int} {d : List Int} {ks : List Nd} (h : VN (.mk k e n d ks)) : ∀ y ∈ ks, VN y := by
  cases h with
  | mk v1 v2 v3 => exact v1
theorem trim_struct (d : List Int) (ks : List Nd) : trimN (.mk 1 0 0 d ks) = .mk 1 0 0 (d.take (8 * wordsT d)) ((ks.map trimN).take (ptrsT (ks.map trimN))) := by
  rw [trimN, if_pos rfl, trimNs_eq]
  have := ptrsT_map ks
  rw [trimNs_eq] at this
  rw [this]
theorem vn_shp' {k e n : Int} {d : List Int} {ks : List Nd} (h : VN (.mk k e n d ks)) : ∀ y ∈ ks, VN y := (vn_kids h)
theorem V_structs {la lb : List (List Int)} (hla : Segs la) (hsa : Sm la) (hlb : Segs lb) (hsb : Sm lb) {D : Nat} (ih : SameOk la lb D) {x y : Ob} (hx : Wi x) (hy : Wi y) (kx : x.kind = 1) (ky : y.kind = 1) {m m' : Int} (zx : (strct (den la D) la m x).2.2 = 0) (zy : (strct (den lb D) lb m' y).2.2 = 0) : ev 60 [pairV la lb, .pv (.agg x.c), .pv (.agg y.c)] [] = ok (Bo (eqB (trimN (strct (den la D) la m x).1) (trimN (strct (den lb D) lb m' y).1))) := by
  obtain ⟨cx, e1, e2, e3⟩ := strct_kids hla hsa kx hx.2.2.1 zx
  obtain ⟨cy, f1, f2, f3⟩ := strct_kids hlb hsb ky hy.2.2.1 zy
  have vx := (strct_okd (den_okd hla hsa D) la m hx.2.1.2 hx.2.2 zx).1
  have vy := (strct_okd (den_okd hlb hsb D) lb m' hy.2.1.2 hy.2.2 zy).1
  rw [e1] at vx ⊢
  rw [f1] at vy ⊢
  have px := V_pts (D := D) hla hsa hlb hsb ih (x := x) (y := y) hx.1 hx.2.1 (wi_pts hx kx) hy.1 hy.2.1 (wi_pts hy ky) (q := max cx.length cy.length) (by obtain ⟨_, _, a⟩ := hx; obtain ⟨_, _, b⟩ := hy; omega) (kx := cx) (ky := cy) (fun i _ => e3 i) (fun i _ => f3 i)
  have hq : (if y.ptrs > x.ptrs then y.ptrs else x.ptrs) = ((max cx.length cy.length : Nat) : Int) := by
    obtain ⟨_, _, a⟩ := hx
    obtain ⟨_, _, b⟩ := hy
    split <;> omega
  have wx := V_wordsO hla x (n := x.data) (by obtain ⟨_, a, _⟩ := hx; omega)
  have wy := V_wordsO hlb y (n := y.data) (by obtain ⟨_, a, _⟩ := hy; omega)
  have lx := cutB_len la x.seg x.at_ x.data
  have ly := cutB_len lb y.seg y.at_ y.data
  have dd := V_Data (a := cutB la x.seg x.at_ x.data) (b := cutB lb y.seg y.at_ y.data) (by obtain ⟨_, a, _⟩ := hx; omega) (by obtain ⟨_, a, _⟩ := hy; omega)
  have hwx := (cutB_words hla x.seg x.at_ x.data).2
  have hwy := (cutB_words hlb y.seg y.at_ y.data).2
  rw [trim_struct, trim_struct, trim_byt hwx, trim_byt hwy]
  generalize cutB la x.seg x.at_ x.data = ux at *
  generalize cutB lb y.seg y.at_ y.data = uy at *
  have kxv : ∀ z ∈ cx.map trimN, VN z := fun z hz => by
    obtain ⟨u, hu, rfl⟩ := List.mem_map.1 hz
    exact vn_trim u ((vn_shp' vx) u hu)
  have kyv : ∀ z ∈ cy.map trimN, VN z := fun z hz => by
    obtain ⟨u, hu, rfl⟩ := List.mem_map.1 hz
    exact vn_trim u ((vn_shp' vy) u hu)
  have hcut := cutN_iff kxv kyv (q := max cx.length cy.length) (by rw [List.length_map]; omega) (by rw [List.length_map]; omega)
  rw [Ob.c] at wx wy px
  rw [Ob.c] at px
  rw [Ob.c, Ob.c, equal_pair_structs_eq, wx]
  dsimp only [callT_ret, callT_pan, onlyPV_v, Option.bind_some, pBool_v, pTup_v, pAgg_v, aggOf_v, pSl_v, pInt_v, pI64, pU64, pU32, pU8, List.getElem?_cons_zero, List.getElem?_cons_succ, cells_v, cells_sl, cells_agg, isCell_v, isCell_sl, cnd_t, cnd_f, tt_and, ff_and, nt_t, nt_f, len1, len3, len5, len8, len10, hlen1, clen1, clen5]
  rw [wy]
  dsimp only [callT_ret, callT_pan, onlyPV_v, Option.bind_some, pBool_v, pTup_v, pAgg_v, aggOf_v, pSl_v, pInt_v, pI64, pU64, pU32, pU8, List.getElem?_cons_zero, List.getElem?_cons_succ, cells_v, cells_sl, cells_agg, isCell_v, isCell_sl, cnd_t, cnd_f, tt_and, ff_and, nt_t, nt_f, len1, len3, len5, len8, len10, hlen1, clen1, clen5]
  rw [dd, hq]
  dsimp only [callT_ret, callT_pan, onlyPV_v, Option.bind_some, pBool_v, pTup_v, pAgg_v, aggOf_v, pSl_v, pInt_v, pI64, pU64, pU32, pU8, List.getElem?_cons_zero, List.getElem?_cons_succ, cells_v, cells_sl, cells_agg, isCell_v, isCell_sl, cnd_t, cnd_f, tt_and, ff_and, nt_t, nt_f, len1, len3, len5, len8, len10, hlen1, clen1, clen5]
  by_cases hd : cutZ ux = cutZ uy
  · rw [eqB_t hd]
    dsimp only [callT_ret, callT_pan, onlyPV_v, Option.bind_some, pBool_v, pTup_v, pAgg_v, aggOf_v, pSl_v, pInt_v, pI64, pU64, pU32, pU8, List.getElem?_cons_zero, List.getElem?_cons_succ, cells_v, cells_sl, cells_agg, isCell_v, isCell_sl, cnd_t, cnd_f, tt_and, ff_and, nt_t, nt_f, len1, len3, len5, len8, len10, hlen1, clen1, clen5]
    rw [px]
    dsimp only [callT_ret, callT_pan, onlyPV_v, Option.bind_some, pBool_v, pTup_v, pAgg_v, aggOf_v, pSl_v, pInt_v, pI64, pU64, pU32, pU8, List.getElem?_cons_zero, List.getElem?_cons_succ, cells_v, cells_sl, cells_agg, isCell_v, isCell_sl, cnd_t, cnd_f, tt_and, ff_and, nt_t, nt_f, len1, len3, len5, len8, len10, hlen1, clen1, clen5]
    refine congrArg (fun b => ok (Bo b)) (bo_eq ?_)
    rw [all_get, eqB_true, ← hcut, hd]
    simp
  · have hne : ¬ (Nd.mk 1 0 0 (byt (cutZ ux)) ((cx.map trimN).take (ptrsT (cx.map trimN))) = Nd.mk 1 0 0 (byt (cutZ uy)) ((cy.map trimN).take (ptrsT (cy.map trimN)))) := fun h => hd (byt_inj (fun z hz => hwx z (List.mem_of_mem_take hz)) (fun z hz => hwy z (List.mem_of_mem_take hz)) (by injection h))
    rw [eqB_f hd, eqB_f hne]
    rfl
theorem cmps_loop {la lb : List (List Int)} {x y : Ob} {q : Nat} (hq : q ≤ 536870911) (f : Nat → Bool)
    (hx : ∀ i : Nat, i < q → ev 100 [.pv (.agg x.c), .pv (I i)] [] = ok (.agg (elt x i).c)) (hy : ∀ i : Nat, i < q → ev 100 [.pv (.agg y.c), .pv (I i)] [] = ok (.agg (elt y i).c))
    (hf : ∀ i : Nat, i < q → ev 60 [pairV la lb, .pv (.agg (elt x i).c), .pv (.agg (elt y i).c)] [] = ok (Bo (f i))) : ∀ (c i : Nat), i + c = q → (∀ j, j < i → f j = true) →
    equal_pair_composites_L0 q i (sgs la) (sgs lb) x.kind x.seg x.at_ x.data x.ptrs x.elem x.n x.cost y.kind y.seg y.at_ y.data y.ptrs y.elem y.n y.cost = ok (Bo ((List.range q).all f)) := by
  intro c
  induction c with
  | zero =>
    intro i hi hj
    rw [equal_pair_composites_L0_eq, decide_eq_false (by omega), List.all_eq_true.2 (fun j h => hj j (by have := List.mem_range.1 h; omega))]
    rfl
  | succ c ih =>
    intro i hi hj
    have e1 := hx i (by omega)
    have e2 := hy i (by omega)
    have e3 := hf i (by omega)
    rw [Ob.c] at e1 e2
    rw [equal_pair_composites_L0_eq, decide_eq_true (by omega), e1]
    dsimp only [callT_ret, callT_pan, onlyPV_v, Option.bind_some, pBool_v, pTup_v, pAgg_v, aggOf_v, pSl_v, pInt_v, pI64, pU64, pU32, pU8, List.getElem?_cons_zero, List.getElem?_cons_succ, cells_v, cells_sl, cells_agg, isCell_v, isCell_sl, cnd_t, cnd_f, tt_and, ff_and, nt_t, nt_f, len1, len3, len5, len8, len10, hlen1, clen1, clen5]
    rw [e2]
    dsimp only [callT_ret, callT_pan, onlyPV_v, Option.bind_some, pBool_v, pTup_v, pAgg_v, aggOf_v, pSl_v, pInt_v, pI64, pU64, pU32, pU8, List.getElem?_cons_zero, List.getElem?_cons_succ, cells_v, cells_sl, cells_agg, isCell_v, isCell_sl, cnd_t, cnd_f, tt_and, ff_and, nt_t, nt_f, len1, len3, len5, len8, len10, hlen1, clen1, clen5]
    rw [e3]
    dsimp only [callT_ret, callT_pan, onlyPV_v, Option.bind_some, pBool_v, pTup_v, pAgg_v, aggOf_v, pSl_v, pInt_v, pI64, pU64, pU32, pU8, List.getElem?_cons_zero, List.getElem?_cons_succ, cells_v, cells_sl, cells_agg, isCell_v, isCell_sl, cnd_t, cnd_f, tt_and, ff_and, nt_t, nt_f, len1, len3, len5, len8, len10, hlen1, clen1, clen5]
    cases hfi : f i with
    | true =>
      dsimp only [callT_ret, callT_pan, onlyPV_v, Option.bind_some, pBool_v, pTup_v, pAgg_v, aggOf_v, pSl_v, pInt_v, pI64, pU64, pU32, pU8, List.getElem?_cons_zero, List.getElem?_cons_succ, cells_v, cells_sl, cells_agg, isCell_v, isCell_sl, cnd_t, cnd_f, tt_and, ff_and, nt_t, nt_f, len1, len3, len5, len8, len10, hlen1, clen1, clen5]
      rw [w64 (x := (i : Int) + 1) (by omega)]
      exact ih (i + 1) (by omega) fun j h => by
        rcases Nat.lt_or_ge j i with h1 | h1
        · exact hj j h1
        · rw [show j = i by omega]; exact hfi
    | false =>
      rw [show (List.range q).all f = false from by
        rw [Bool.eq_false_iff]
        intro h
        have := List.all_eq_true.1 h i (List.mem_range.2 (by omega))
        rw [hfi] at this; cases this]
      rfl
/-- The kids of a list. -/
theorem list_kids {l : List (List Int)} {D : Nat} {m : Int} {o : Ob} (h6 : ¬ o.elem < 6) (h : (denL (den l D) l m o).2.2 = 0) : ∃ ks, (denL (den l D) l m o).1 = .mk 2 o.elem o.n [] ks ∧ ks.length = o.n.toNat ∧ ∀ (j : Nat) (hj : j < ks.length), ∃ m1, (if o.elem = 6 then den l D m1 o.seg (o.at_ + j) else strct (den l D) l m1 (elt o j)).2.2 = 0 ∧ (if o.elem = 6 then den l D m1 o.seg (o.at_ + j) else strct (den l D) l m1 (elt o j)).1 = ks[j] := by
  unfold denL at h ⊢
  rw [if_neg h6] at h ⊢
  have hz : (kidsF (fun m (i : Nat) => if o.elem = 6 then den l D m o.seg (o.at_ + i) else strct (den l D) l m (elt o i)) o.n.toNat 0 m []).2.2 = 0 := h
  obtain ⟨ks, e1, e2, e3⟩ := kids_nth (G := fun m (i : Nat) => if o.elem = 6 then den l D m o.seg (o.at_ + i) else strct (den l D) l m (elt o i)) o.n.toNat 0 m [] hz
  refine ⟨ks, ?_, e2, fun j hj => ?_⟩
  · rw [wrapK_ok0 hz]
    dsimp only
    rw [e1, List.nil_append]
  · have := e3 j hj
    rw [Nat.zero_add] at this
    exact this
theorem trim_list {k e n : Int} (hk : k = 2) (d : List Int) (ks : List Nd) : trimN (.mk k e n d ks) = .mk k e n d (ks.map trimN) := by
  rw [trimN, if_neg (by omega), trimNs_eq]
theorem get_ext {a b : List Nd} {q : Nat} (ha : a.length = q) (hb : b.length = q) : a = b ↔ ∀ i, i < q → a.getD i nd0 = b.getD i nd0 := by
  constructor
  · intro h i _; rw [h]
  · intro h
    apply List.ext_getElem (by omega)
    intro i h1 h2
    have := h i (by omega)
    simp only [List.getD_eq_getElem?_getD, List.getElem?_eq_getElem h1, List.getElem?_eq_getElem h2, Option.getD_some] at this
    exact this
end Go.Proofs.YthpbjpnbafiipaaDoor.E
set_option linter.unusedVariables false
set_option linter.unusedSimpArgs false
namespace Go.Proofs.YthpbjpnbafiipaaDoor.E
/-! Messages compared; the laws of chapter 17. -/
theorem trimN_n (x : Nd) : (trimN x).n = x.n := by
  cases x with
  | mk k e n d ks => rw [trimN]; split <;> rfl
theorem pts_list {o : Ob} (hk : o.kind = 2) (h7 : o.elem = 6) : (0 < o.n → ptsA o = o.at_ ∧ ptsN o = o.n) ∧ (ptsA o = o.at_ ∨ ptsA o = 0) := by
  have hA : ptsA o = if 0 < o.n then o.at_ else 0 := by
    unfold ptsA
    rw [if_neg (fun x => absurd x.1 (by omega))]
    by_cases h : 0 < o.n
    · rw [if_pos ⟨hk, h7, h⟩, if_pos h]
    · rw [if_neg (fun x => h x.2.2), if_neg h]
  have hN : ptsN o = if 0 < o.n then o.n else 0 := by
    unfold ptsN
    rw [if_neg (fun x => absurd x.1 (by omega))]
    by_cases h : 0 < o.n
    · rw [if_pos ⟨hk, h7, h⟩, if_pos h]
    · rw [if_neg (fun x => h x.2.2), if_neg h]
  rw [hA, hN]
  by_cases h : 0 < o.n
  · rw [if_pos h, if_pos h]; exact ⟨fun _ => ⟨rfl, rfl⟩, .inl rfl⟩
  · rw [if_neg h]; exact ⟨fun h' => absurd h' h, .inr rfl⟩
theorem same_ok {la lb : List (List Int)} (hla : Segs la) (hsa : Sm la) (hlb : Segs lb) (hsb : Sm lb) : ∀ D, SameOk la lb D := by
  have main : ∀ D, (∀ D', D = D' + 1 → SameOk la lb D') → SameOk la lb D := by
    intro D ih x y nx ny dx dy
    obtain ⟨a1, a2, a3⟩ := dn_head dx
    obtain ⟨b1, b2, b3⟩ := dn_head dy
    rw [Ob.c, Ob.c, equal_pair_same_eq]
    by_cases hk : x.kind = y.kind
    · by_cases he : x.elem = y.elem
      · by_cases hn : x.n = y.n
        · rw [show (x.kind != y.kind) = false from by simpa using hk, show (x.elem != y.elem) = false from by simpa using he, show (x.n != y.n) = false from by simpa using hn]
          dsimp only [callT_ret, callT_pan, onlyPV_v, Option.bind_some, pBool_v, pTup_v, pAgg_v, aggOf_v, pSl_v, pInt_v, pI64, pU64, pU32, pU8, List.getElem?_cons_zero, List.getElem?_cons_succ, cells_v, cells_sl, cells_agg, isCell_v, isCell_sl, cnd_t, cnd_f, tt_and, ff_and, nt_t, nt_f, len1, len3, len5, len8, len10, hlen1, clen1, clen5]
          by_cases h0 : x.kind = 0
          · rw [beq_iff_eq.2 h0]
            have nul : ∀ {l : List (List Int)} {o : Ob} {n : Nd}, Dn l D o n → o.kind = 0 → n = nd0 := fun {l o n} h hk0 => by
              rcases h with ⟨_, h⟩ | ⟨D', _, hok, _⟩
              · exact h
              · obtain ⟨_, _, _, _, _, _, hkk, _⟩ := hok; omega
            rw [nul dx h0, nul dy (by omega), eqB_t rfl]
            rfl
          · rw [beq_eq_false_iff_ne.2 h0]
            rcases dx with ⟨rfl, _⟩ | ⟨D', hD, okx, npx, _, m, zx, rfl⟩
            · exact absurd rfl h0
            rcases dy with ⟨rfl, _⟩ | ⟨D'', hD', oky, npy, _, m', zy, rfl⟩
            · exact absurd hk h0
            obtain rfl : D' = D'' := by omega
            have ih' := ih D' hD
            obtain ⟨hat, hdt, hq, hel, hnn, hc, hkk, hw, hz⟩ := id okx
            obtain ⟨hat', hdt', hq', hel', hnn', hc', hkk', hw', hz'⟩ := id oky
            unfold denOb at zx zy ⊢
            dsimp only [callT_ret, callT_pan, onlyPV_v, Option.bind_some, pBool_v, pTup_v, pAgg_v, aggOf_v, pSl_v, pInt_v, pI64, pU64, pU32, pU8, List.getElem?_cons_zero, List.getElem?_cons_succ, cells_v, cells_sl, cells_agg, isCell_v, isCell_sl, cnd_t, cnd_f, tt_and, ff_and, nt_t, nt_f, len1, len3, len5, len8, len10, hlen1, clen1, clen5]
            by_cases h1 : x.kind = 1
            · rw [beq_iff_eq.2 h1]
              rw [if_pos h1] at zx ⊢
              rw [if_pos (show y.kind = 1 by omega)] at zy ⊢
              have := V_structs hla hsa hlb hsb ih' (x := x) (y := y) ⟨⟨hat.1, by omega⟩, hdt, hq⟩ ⟨⟨hat'.1, by omega⟩, hdt', hq'⟩ h1 (by omega) zx zy
              rw [Ob.c, Ob.c] at this
              dsimp only [callT_ret, callT_pan, onlyPV_v, Option.bind_some, pBool_v, pTup_v, pAgg_v, aggOf_v, pSl_v, pInt_v, pI64, pU64, pU32, pU8, List.getElem?_cons_zero, List.getElem?_cons_succ, cells_v, cells_sl, cells_agg, isCell_v, isCell_sl, cnd_t, cnd_f, tt_and, ff_and, nt_t, nt_f, len1, len3, len5, len8, len10, hlen1, clen1, clen5]
              rw [this]
              rfl
            · rw [beq_eq_false_iff_ne.2 h1]
              rw [if_neg h1] at zx ⊢
              rw [if_neg (show ¬ y.kind = 1 by omega)] at zy ⊢
              dsimp only [callT_ret, callT_pan, onlyPV_v, Option.bind_some, pBool_v, pTup_v, pAgg_v, aggOf_v, pSl_v, pInt_v, pI64, pU64, pU32, pU8, List.getElem?_cons_zero, List.getElem?_cons_succ, cells_v, cells_sl, cells_agg, isCell_v, isCell_sl, cnd_t, cnd_f, tt_and, ff_and, nt_t, nt_f, len1, len3, len5, len8, len10, hlen1, clen1, clen5]
              by_cases h6 : x.elem < 6
              · rw [beq_eq_false_iff_ne.2 (show x.elem ≠ 7 by omega), beq_eq_false_iff_ne.2 (show x.elem ≠ 6 by omega)]
                dsimp only [callT_ret, callT_pan, onlyPV_v, Option.bind_some, pBool_v, pTup_v, pAgg_v, aggOf_v, pSl_v, pInt_v, pI64, pU64, pU32, pU8, List.getElem?_cons_zero, List.getElem?_cons_succ, cells_v, cells_sl, cells_agg, isCell_v, isCell_sl, cnd_t, cnd_f, tt_and, ff_and, nt_t, nt_f, len1, len3, len5, len8, len10, hlen1, clen1, clen5]
                have h6' : y.elem < 6 := by omega
                unfold denL
                rw [if_pos h6, if_pos h6']
                dsimp only
                have wx := V_wordsO hla x (n := x.cost) (by omega)
                have wy := V_wordsO hlb y (n := y.cost) (by omega)
                have lx := cutB_len la x.seg x.at_ x.cost
                have ly := cutB_len lb y.seg y.at_ y.cost
                have rx := bytes_room hnn (hw (by omega) h6) h6
                have ry := bytes_room hnn' (hw' (by omega) h6') h6'
                rw [trim_list rfl, trim_list rfl]
                rw [Ob.c] at wx wy
                rw [equal_pair_plain_eq, wx]
                dsimp only [callT_ret, callT_pan, onlyPV_v, Option.bind_some, pBool_v, pTup_v, pAgg_v, aggOf_v, pSl_v, pInt_v, pI64, pU64, pU32, pU8, List.getElem?_cons_zero, List.getElem?_cons_succ, cells_v, cells_sl, cells_agg, isCell_v, isCell_sl, cnd_t, cnd_f, tt_and, ff_and, nt_t, nt_f, len1, len3, len5, len8, len10, hlen1, clen1, clen5]
                rw [V_Bytes _ (by omega)]
                dsimp only [callT_ret, callT_pan, onlyPV_v, Option.bind_some, pBool_v, pTup_v, pAgg_v, aggOf_v, pSl_v, pInt_v, pI64, pU64, pU32, pU8, List.getElem?_cons_zero, List.getElem?_cons_succ, cells_v, cells_sl, cells_agg, isCell_v, isCell_sl, cnd_t, cnd_f, tt_and, ff_and, nt_t, nt_f, len1, len3, len5, len8, len10, hlen1, clen1, clen5]
                rw [V_Trim hel hnn (byt_byte _) rx]
                dsimp only [callT_ret, callT_pan, onlyPV_v, Option.bind_some, pBool_v, pTup_v, pAgg_v, aggOf_v, pSl_v, pInt_v, pI64, pU64, pU32, pU8, List.getElem?_cons_zero, List.getElem?_cons_succ, cells_v, cells_sl, cells_agg, isCell_v, isCell_sl, cnd_t, cnd_f, tt_and, ff_and, nt_t, nt_f, len1, len3, len5, len8, len10, hlen1, clen1, clen5]
                rw [wy]
                dsimp only [callT_ret, callT_pan, onlyPV_v, Option.bind_some, pBool_v, pTup_v, pAgg_v, aggOf_v, pSl_v, pInt_v, pI64, pU64, pU32, pU8, List.getElem?_cons_zero, List.getElem?_cons_succ, cells_v, cells_sl, cells_agg, isCell_v, isCell_sl, cnd_t, cnd_f, tt_and, ff_and, nt_t, nt_f, len1, len3, len5, len8, len10, hlen1, clen1, clen5]
                rw [V_Bytes _ (by omega)]
                dsimp only [callT_ret, callT_pan, onlyPV_v, Option.bind_some, pBool_v, pTup_v, pAgg_v, aggOf_v, pSl_v, pInt_v, pI64, pU64, pU32, pU8, List.getElem?_cons_zero, List.getElem?_cons_succ, cells_v, cells_sl, cells_agg, isCell_v, isCell_sl, cnd_t, cnd_f, tt_and, ff_and, nt_t, nt_f, len1, len3, len5, len8, len10, hlen1, clen1, clen5]
                rw [V_Trim hel' hnn' (byt_byte _) ry]
                dsimp only [callT_ret, callT_pan, onlyPV_v, Option.bind_some, pBool_v, pTup_v, pAgg_v, aggOf_v, pSl_v, pInt_v, pI64, pU64, pU32, pU8, List.getElem?_cons_zero, List.getElem?_cons_succ, cells_v, cells_sl, cells_agg, isCell_v, isCell_sl, cnd_t, cnd_f, tt_and, ff_and, nt_t, nt_f, len1, len3, len5, len8, len10, hlen1, clen1, clen5]
                rw [V_bytesEq (trimB_byte _ _ _ (byt_byte _)) (trimB_byte _ _ _ (byt_byte _))]
                dsimp only [callT_ret, callT_pan, onlyPV_v, Option.bind_some, pBool_v, pTup_v, pAgg_v, aggOf_v, pSl_v, pInt_v, pI64, pU64, pU32, pU8, List.getElem?_cons_zero, List.getElem?_cons_succ, cells_v, cells_sl, cells_agg, isCell_v, isCell_sl, cnd_t, cnd_f, tt_and, ff_and, nt_t, nt_f, len1, len3, len5, len8, len10, hlen1, clen1, clen5]
                refine congrArg (fun b => ok (Bo b)) (eqB_iff ?_)
                rw [he, hn]
                simp
              · obtain ⟨cx, e1, e2, e3⟩ := list_kids h6 zx
                obtain ⟨cy, f1, f2, f3⟩ := list_kids (show ¬ y.elem < 6 by omega) zy
                rw [e1, f1, trim_list rfl, trim_list rfl]
                have hlen : cx.length = cy.length := by omega
                have hxn : x.n = ((cx.length : Nat) : Int) := by omega
                have fin : eqB (cx.map trimN) (cy.map trimN) = eqB (Nd.mk 2 x.elem x.n [] (cx.map trimN)) (Nd.mk 2 y.elem y.n [] (cy.map trimN)) := eqB_iff (by rw [he, hn]; simp)
                have getx : ∀ i, (h : i < cx.length) → cx.getD i nd0 = cx[i] := fun i h => by rw [List.getD_eq_getElem?_getD, List.getElem?_eq_getElem h, Option.getD_some]
                have gety : ∀ i, (h : i < cy.length) → cy.getD i nd0 = cy[i] := fun i h => by rw [List.getD_eq_getElem?_getD, List.getElem?_eq_getElem h, Option.getD_some]
                have res : ∀ {e : Option (Out × Heap)}, e = ok (Bo ((List.range cx.length).all fun i => eqB (trimN (cx.getD i nd0)) (trimN (cy.getD i nd0)))) → e = ok (Bo (eqB (cx.map trimN) (cy.map trimN))) := fun {e} h => by
                  rw [h]
                  refine congrArg (fun b => ok (Bo b)) (bo_eq ?_)
                  rw [all_get, eqB_true, get_ext (q := cx.length) (by simp) (by simp; omega)]
                rw [← fin]
                by_cases h7 : x.elem = 7
                · rw [beq_iff_eq.2 h7]
                  dsimp only [callT_ret, callT_pan, onlyPV_v, Option.bind_some, pBool_v, pTup_v, pAgg_v, aggOf_v, pSl_v, pInt_v, pI64, pU64, pU32, pU8, List.getElem?_cons_zero, List.getElem?_cons_succ, cells_v, cells_sl, cells_agg, isCell_v, isCell_sl, cnd_t, cnd_f, tt_and, ff_and, nt_t, nt_f, len1, len3, len5, len8, len10, hlen1, clen1, clen5]
                  have mul : ∀ (o : Ob) (i : Nat), ObOk la o ∨ ObOk lb o → i < cx.length → 0 ≤ (i : Int) * (o.data + o.ptrs) ∧ (i : Int) * (o.data + o.ptrs) ≤ 536870911 * 131070 := fun o i ho hi => by
                    have hd : 0 ≤ o.data ∧ o.data ≤ 65535 ∧ 0 ≤ o.ptrs ∧ o.ptrs ≤ 65535 := by
                      rcases ho with ho | ho
                      · obtain ⟨_, d, q, _⟩ := ho; omega
                      · obtain ⟨_, d, q, _⟩ := ho; omega
                    exact size_small (by omega) (by omega)
                  have lp := cmps_loop (la := la) (lb := lb) (x := x) (y := y) (q := cx.length) (by omega) (fun i => eqB (trimN (cx.getD i nd0)) (trimN (cy.getD i nd0))) (fun i hi => by have := mul x i (.inl okx) hi; exact V_Element x i (by omega) (by omega) (by omega)) (fun i hi => by have := mul y i (.inr oky) hi; exact V_Element y i (by omega) (by omega) (by omega)) (fun i hi => by
                    obtain ⟨m1, g1, g2⟩ := e3 i hi
                    obtain ⟨m2, k1, k2⟩ := f3 i (by omega)
                    rw [if_neg (by omega)] at g1 g2
                    rw [if_neg (by omega)] at k1 k2
                    have mx := mul x i (.inl okx) hi
                    have my := mul y i (.inr oky) hi
                    have := V_structs hla hsa hlb hsb ih' (x := elt x i) (y := elt y i) ⟨⟨by dsimp only [elt]; omega, by dsimp only [elt]; omega⟩, hdt, hq⟩ ⟨⟨by dsimp only [elt]; omega, by dsimp only [elt]; omega⟩, hdt', hq'⟩ rfl rfl g1 k1
                    rw [g2, k2] at this
                    rw [getx i hi, gety i (by omega)]
                    exact this) cx.length 0 (by omega) (fun j h => absurd h (by omega))
                  rw [equal_pair_composites_eq]
                  conv => lhs; rw [show equal_pair_composites_L0 x.n 0 = equal_pair_composites_L0 ((cx.length : Nat) : Int) ((0 : Nat) : Int) from by rw [hxn]; rfl]
                  rw [lp]
                  exact res rfl
                · have h66 : x.elem = 6 := by omega
                  rw [beq_eq_false_iff_ne.2 h7, beq_iff_eq.2 h66]
                  dsimp only [callT_ret, callT_pan, onlyPV_v, Option.bind_some, pBool_v, pTup_v, pAgg_v, aggOf_v, pSl_v, pInt_v, pI64, pU64, pU32, pU8, List.getElem?_cons_zero, List.getElem?_cons_succ, cells_v, cells_sl, cells_agg, isCell_v, isCell_sl, cnd_t, cnd_f, tt_and, ff_and, nt_t, nt_f, len1, len3, len5, len8, len10, hlen1, clen1, clen5]
                  have hAx : ∀ (o : Ob), o.kind = 2 → o.elem = 6 → (0 < o.n → ptsA o = o.at_ ∧ ptsN o = o.n) ∧ (ptsA o = o.at_ ∨ ptsA o = 0) := fun o k e => pts_list k e
                  have kx2 : x.kind = 2 := by omega
                  have ky2 : y.kind = 2 := by omega
                  obtain ⟨pa, pb⟩ := hAx x kx2 h66
                  obtain ⟨qa, qb⟩ := hAx y ky2 (by omega)
                  have lp := V_pts (D := D') hla hsa hlb hsb ih' (x := x) (y := y) ⟨hat.1, by omega⟩ hdt (by omega) ⟨hat'.1, by omega⟩ hdt' (by omega) (q := cx.length) (by omega) (kx := cx) (ky := cy) (fun i hi => by
                    obtain ⟨m1, g1, g2⟩ := e3 i hi
                    rw [if_pos h66] at g1 g2
                    obtain ⟨p1, p2⟩ := pa (by omega)
                    rw [getx i hi, ← g2]
                    unfold obAt
                    rw [p1, p2, if_neg (by omega)]
                    exact den_dn hla hsa g1) (fun i hi => by
                    obtain ⟨m1, g1, g2⟩ := f3 i (by omega)
                    rw [if_pos (show y.elem = 6 by omega)] at g1 g2
                    obtain ⟨p1, p2⟩ := qa (by omega)
                    rw [gety i (by omega), ← g2]
                    unfold obAt
                    rw [p1, p2, if_neg (by omega)]
                    exact den_dn hlb hsb g1)
                  rw [← hxn, Ob.c, Ob.c] at lp
                  rw [lp]
                  exact res rfl
        · rw [show (x.kind != y.kind) = false from by simpa using hk, show (x.elem != y.elem) = false from by simpa using he, show (x.n != y.n) = true from by simpa using hn, eqB_f (fun h => hn (by have := congrArg Nd.n h; rw [trimN_n, trimN_n] at this; omega))]
          rfl
      · rw [show (x.kind != y.kind) = false from by simpa using hk, show (x.elem != y.elem) = true from by simpa using he, eqB_f (fun h => he (by have := congrArg Nd.elem h; rw [trimN_elem, trimN_elem] at this; omega))]
        rfl
    · rw [show (x.kind != y.kind) = true from by simpa using hk, eqB_f (fun h => hk (by have := congrArg Nd.kind h; rw [trimN_kind, trimN_kind] at this; omega))]
      rfl
  intro D
  induction D with
  | zero => exact main 0 fun D' h => absurd h (by omega)
  | succ D ih => exact main (D + 1) fun D' h => by rw [show D' = D by omega]; exact ih
end Go.Proofs.YthpbjpnbafiipaaDoor.E
set_option linter.unusedVariables false
set_option linter.unusedSimpArgs false
namespace Go.Proofs.YthpbjpnbafiipaaDoor.E
/-! Messages compared; the laws of chapter 17. -/
def rootO (l : List (List Int)) : Ob := if (rdL l 0).length = 0 then ob0 else (obj l 0 0).1
theorem V_root {l : List (List Int)} (hl : Segs l) (hs : Sm l) (h0 : 0 < l.length) : ev 41 [.pv (.sl 1 (sgs l))] [] = ok (.agg (rootO l).c) := by
  rw [equal_root_eq, decide_eq_true (show 0 < ((sgs l).length : Int) by rw [sgs_len]; omega), sgs0 h0]
  dsimp only [callT_ret, callT_pan, onlyPV_v, Option.bind_some, pBool_v, pTup_v, pAgg_v, aggOf_v, pSl_v, pInt_v, pI64, pU64, pU32, pU8, List.getElem?_cons_zero, List.getElem?_cons_succ, cells_v, cells_sl, cells_agg, isCell_v, isCell_sl, cnd_t, cnd_f, tt_and, ff_and, nt_t, nt_f, len1, len3, len5, len8, len10, hlen1, clen1, clen5]
  unfold rootO
  by_cases he : (rdL l 0).length = 0
  · rw [ws_len, he, if_pos rfl]; rfl
  · rw [ws_len, beq_eq_false_iff_ne.2 (show ((rdL l 0).length : Int) ≠ 0 by omega), if_neg he, V_Object hl hs]
    rfl
theorem root_dn {l : List (List Int)} (hl : Segs l) (hs : Sm l) {d w : Int} (h : (runT l d w).2.2 = 0) : 0 < l.length ∧ Dn l d.toNat (rootO l) (runT l d w).1 := by
  by_cases he : emp l
  · refine ⟨he.1, ?_⟩
    rw [runT, if_pos he]
    exact .inl ⟨by unfold rootO; rw [if_pos he.2], rfl⟩
  · have e1 : runT l d w = den l d.toNat (max w 0) 0 0 := by rw [runT, if_neg he]
    rw [e1] at h ⊢
    have hpos : 0 < l.length := by
      by_cases h0 : 0 < l.length
      · exact h0
      · exfalso
        have hf : (fol l 0 0).2.2.2 = 2 := by
          unfold fol
          rw [if_neg (by unfold inB; omega)]
        rw [den_err (by rw [hf]; decide), hf] at h
        exact absurd h (by show ¬ ((2 : Int) = 0); decide)
    refine ⟨hpos, ?_⟩
    unfold rootO
    rw [if_neg (fun h' => he ⟨hpos, h'⟩)]
    exact den_dn hl hs h
def cE (la lb : List (List Int)) (d w : Int) : Int := if msgE la d w = 0 then msgE lb d w else msgE la d w
noncomputable def cB (la lb : List (List Int)) (d w : Int) : Bool := if cE la lb d w = 0 then eqB (msgN la d w) (msgN lb d w) else false
theorem V_cmp {la lb : List (List Int)} (hla : Segs la) (hsa : Sm la) (hlb : Segs lb) (hsb : Sm lb) {d w b : Int} (hd : d ≤ 1099511627775) (hw : w ≤ 4611686018427387904) : ev 20 [.pv (.sl 1 (sgs la)), .pv (.sl 1 (sgs lb)), .pv (.agg [I d, I w, I b])] [] = ok (.tup [Bo (cB la lb d w), I (cE la lb d w)]) := by
  rw [equal_Messages_eq, equal_Messages_L0_eq, show decide ((0 : Int) < 2) = true from rfl, show (decide ((0 : Int) ≤ 0) && decide ((0 : Int) < (([.sl 1 (sgs la), .sl 1 (sgs lb)] : List PV).length : Int))) = true from rfl, show ([.sl 1 (sgs la), .sl 1 (sgs lb)] : List PV)[(0 : Int).toNat]? = some (.sl 1 (sgs la)) from rfl]
  dsimp only [callT_ret, callT_pan, onlyPV_v, Option.bind_some, pBool_v, pTup_v, pAgg_v, aggOf_v, pSl_v, pInt_v, pI64, pU64, pU32, pU8, List.getElem?_cons_zero, List.getElem?_cons_succ, cells_v, cells_sl, cells_agg, isCell_v, isCell_sl, cnd_t, cnd_f, tt_and, ff_and, nt_t, nt_f, len1, len3, len5, len8, len10, hlen1, clen1, clen5]
  rw [V_Measure hla hsa hd hw]
  dsimp only [callT_ret, callT_pan, onlyPV_v, Option.bind_some, pBool_v, pTup_v, pAgg_v, aggOf_v, pSl_v, pInt_v, pI64, pU64, pU32, pU8, List.getElem?_cons_zero, List.getElem?_cons_succ, cells_v, cells_sl, cells_agg, isCell_v, isCell_sl, cnd_t, cnd_f, tt_and, ff_and, nt_t, nt_f, len1, len3, len5, len8, len10, hlen1, clen1, clen5]
  unfold cB cE
  by_cases ha : msgE la d w = 0
  · rw [ha, show ((0 : Int) != 0) = false from rfl, if_pos rfl]
    dsimp only [callT_ret, callT_pan, onlyPV_v, Option.bind_some, pBool_v, pTup_v, pAgg_v, aggOf_v, pSl_v, pInt_v, pI64, pU64, pU32, pU8, List.getElem?_cons_zero, List.getElem?_cons_succ, cells_v, cells_sl, cells_agg, isCell_v, isCell_sl, cnd_t, cnd_f, tt_and, ff_and, nt_t, nt_f, len1, len3, len5, len8, len10, hlen1, clen1, clen5]
    rw [show IntKind.wrap .i64 (0 + 1) = 1 from rfl, equal_Messages_L0v1_eq, show decide ((1 : Int) < 2) = true from rfl, show (decide ((0 : Int) ≤ 1) && decide ((1 : Int) < (([.sl 1 (sgs la), .sl 1 (sgs lb)] : List PV).length : Int))) = true from rfl, show ([.sl 1 (sgs la), .sl 1 (sgs lb)] : List PV)[(1 : Int).toNat]? = some (.sl 1 (sgs lb)) from rfl]
    dsimp only [callT_ret, callT_pan, onlyPV_v, Option.bind_some, pBool_v, pTup_v, pAgg_v, aggOf_v, pSl_v, pInt_v, pI64, pU64, pU32, pU8, List.getElem?_cons_zero, List.getElem?_cons_succ, cells_v, cells_sl, cells_agg, isCell_v, isCell_sl, cnd_t, cnd_f, tt_and, ff_and, nt_t, nt_f, len1, len3, len5, len8, len10, hlen1, clen1, clen5]
    rw [V_Measure hlb hsb hd hw]
    dsimp only [callT_ret, callT_pan, onlyPV_v, Option.bind_some, pBool_v, pTup_v, pAgg_v, aggOf_v, pSl_v, pInt_v, pI64, pU64, pU32, pU8, List.getElem?_cons_zero, List.getElem?_cons_succ, cells_v, cells_sl, cells_agg, isCell_v, isCell_sl, cnd_t, cnd_f, tt_and, ff_and, nt_t, nt_f, len1, len3, len5, len8, len10, hlen1, clen1, clen5]
    by_cases hb : msgE lb d w = 0
    · obtain ⟨pa, da⟩ := root_dn hla hsa ha
      obtain ⟨pb, db⟩ := root_dn hlb hsb hb
      rw [hb, show ((0 : Int) != 0) = false from rfl, if_pos rfl]
      dsimp only [callT_ret, callT_pan, onlyPV_v, Option.bind_some, pBool_v, pTup_v, pAgg_v, aggOf_v, pSl_v, pInt_v, pI64, pU64, pU32, pU8, List.getElem?_cons_zero, List.getElem?_cons_succ, cells_v, cells_sl, cells_agg, isCell_v, isCell_sl, cnd_t, cnd_f, tt_and, ff_and, nt_t, nt_f, len1, len3, len5, len8, len10, hlen1, clen1, clen5]
      rw [show IntKind.wrap .i64 (1 + 1) = 2 from rfl, equal_Messages_L0v1_eq, show decide ((2 : Int) < 2) = false from rfl, V_root hla hsa pa]
      dsimp only [callT_ret, callT_pan, onlyPV_v, Option.bind_some, pBool_v, pTup_v, pAgg_v, aggOf_v, pSl_v, pInt_v, pI64, pU64, pU32, pU8, List.getElem?_cons_zero, List.getElem?_cons_succ, cells_v, cells_sl, cells_agg, isCell_v, isCell_sl, cnd_t, cnd_f, tt_and, ff_and, nt_t, nt_f, len1, len3, len5, len8, len10, hlen1, clen1, clen5]
      rw [V_root hlb hsb pb]
      dsimp only [callT_ret, callT_pan, onlyPV_v, Option.bind_some, pBool_v, pTup_v, pAgg_v, aggOf_v, pSl_v, pInt_v, pI64, pU64, pU32, pU8, List.getElem?_cons_zero, List.getElem?_cons_succ, cells_v, cells_sl, cells_agg, isCell_v, isCell_sl, cnd_t, cnd_f, tt_and, ff_and, nt_t, nt_f, len1, len3, len5, len8, len10, hlen1, clen1, clen5]
      have hs := same_ok hla hsa hlb hsb d.toNat _ _ _ _ da db
      rw [hs, msgN, msgN, if_pos (show (runT la d w).2.2 = 0 from ha), if_pos (show (runT lb d w).2.2 = 0 from hb)]
      rfl
    · rw [bne_t hb, if_neg hb]
      rfl
  · rw [bne_t ha, if_neg ha, if_neg ha]
    rfl
theorem some_segs {l : List (List Int)} (h : ∀ s ∈ l, s.length ≤ 300) (hw : ∀ s ∈ l, ∀ x ∈ s, Word x) (hn : l.length ≤ 20) : Segs l ∧ Sm l := by
  refine ⟨⟨by omega, fun s hs => ⟨by have := h s hs; omega, hw s hs⟩⟩, sm_of fun j hj => ?_⟩
  unfold rdL
  rw [Int.toNat_natCast, List.getD_eq_getElem?_getD, List.getElem?_eq_getElem hj]
  exact h _ (List.getElem_mem hj)
theorem g1 : Segs [[4294967292]] ∧ Sm [[4294967292]] := one_segs (by decide) (by intro x hx; simp at hx; unfold Word; omega)
theorem g2 : Segs [[4294967296, 0]] ∧ Sm [[4294967296, 0]] := one_segs (by decide) (by intro x hx; simp at hx; unfold Word; omega)
theorem g3 : Segs [[0]] ∧ Sm [[0]] := one_segs (by decide) (by intro x hx; simp at hx; unfold Word; omega)
theorem g4 : Segs [[3]] ∧ Sm [[3]] := one_segs (by decide) (by intro x hx; simp at hx; unfold Word; omega)
theorem g5 : Segs [[7]] ∧ Sm [[7]] := one_segs (by decide) (by intro x hx; simp at hx; unfold Word; omega)
theorem g6 : Segs [[4294967298], [4294967296, 5]] ∧ Sm [[4294967298], [4294967296, 5]] := some_segs (by intro s hs; simp at hs; rcases hs with rfl | rfl <;> decide) (by intro s hs x hx; simp at hs; unfold Word; rcases hs with rfl | rfl <;> (simp at hx; omega)) (by decide)
theorem g7 : Segs [[8589934596, 9, 5, 0]] ∧ Sm [[8589934596, 9, 5, 0]] := one_segs (by decide) (by intro x hx; simp at hx; unfold Word; omega)
theorem c_ok {la lb : List (List Int)} {d w : Int} {b : Bool} (h : cE la lb d w = 0) (hb : eqB (msgN la d w) (msgN lb d w) = b) : ok (.tup [Bo (cB la lb d w), I (cE la lb d w)]) = ok (.tup [Bo b, I 0]) := by rw [cB, if_pos h, h, hb]
theorem c_no {la lb : List (List Int)} {d w e : Int} (h : cE la lb d w = e) (he : e ≠ 0) : ok (.tup [Bo (cB la lb d w), I (cE la lb d w)]) = ok (.tup [Bo false, I e]) := by rw [cB, if_neg (by rw [h]; exact he), h]
theorem x1 : ev 20 [.pv (.sl 1 [.sl 1 [U 4294967292]]), .pv (.sl 1 [.sl 1 [U 4294967296, U 0]]), .pv (.agg [I 5, I 50, I 0])] [] = ok (.tup [Bo true, I 0]) := by
  have h := V_cmp g1.1 g1.2 g2.1 g2.2 (d := 5) (w := 50) (b := 0) (by decide) (by decide)
  exact h.trans (c_ok (by kernel_rfl) (eqB_t (by kernel_rfl)))
theorem x2 : ev 20 [.pv (.sl 1 [.sl 1 [U 4294967292]]), .pv (.sl 1 [.sl 1 [U 0]]), .pv (.agg [I 5, I 50, I 0])] [] = ok (.tup [Bo false, I 0]) := by
  have h := V_cmp g1.1 g1.2 g3.1 g3.2 (d := 5) (w := 50) (b := 0) (by decide) (by decide)
  have k1 : (msgN [[4294967292]] 5 50).kind = 1 := by kernel_rfl
  have k2 : (msgN [[0]] 5 50).kind = 0 := by kernel_rfl
  exact h.trans (c_ok (by kernel_rfl) (eqB_f (fun e => by rw [e, k2] at k1; exact absurd k1 (by decide))))
theorem x3 : ev 20 [.pv (.sl 1 [.sl 1 [U 0]]), .pv (.sl 1 [.sl 1 [U 3]]), .pv (.agg [I 5, I 50, I 0])] [] = ok (.tup [Bo false, I 6]) := by
  have h := V_cmp g3.1 g3.2 g4.1 g4.2 (d := 5) (w := 50) (b := 0) (by decide) (by decide)
  exact h.trans (c_no (by kernel_rfl) (by decide))
theorem x4 : ev 20 [.pv (.sl 1 [.sl 1 [U 7]]), .pv (.sl 1 [.sl 1 [U 3]]), .pv (.agg [I 5, I 50, I 0])] [] = ok (.tup [Bo false, I 4]) := by
  have h := V_cmp g5.1 g5.2 g4.1 g4.2 (d := 5) (w := 50) (b := 0) (by decide) (by decide)
  exact h.trans (c_no (by kernel_rfl) (by decide))
theorem x5 : ev 20 [.pv (.sl 1 [.sl 1 [U 4294967298], .sl 1 [U 4294967296, U 5]]), .pv (.sl 1 [.sl 1 [U 8589934596, U 9, U 5, U 0]]), .pv (.agg [I 5, I 50, I 0])] [] = ok (.tup [Bo true, I 0]) := by
  have h := V_cmp g6.1 g6.2 g7.1 g7.2 (d := 5) (w := 50) (b := 0) (by decide) (by decide)
  exact h.trans (c_ok (by kernel_rfl) (eqB_t (by kernel_rfl)))
theorem x6 : ev 39 [.pv (.sl 1 [U 5, U 0]), .pv (.sl 1 [U 5])] [] = ok (Bo true) := by
  have h := V_Data (a := [5, 0]) (b := [5]) (by decide) (by decide)
  exact h.trans (by rw [eqB_t (by kernel_rfl)])
theorem x7 : ev 39 [.pv (.sl 1 [U 5, U 1]), .pv (.sl 1 [U 5])] [] = ok (Bo false) := by
  have h := V_Data (a := [5, 1]) (b := [5]) (by decide) (by decide)
  exact h.trans (by rw [eqB_f (by decide)])
theorem x8 : ev 39 [.pv (.sl 1 []), .pv (.sl 1 [U 0])] [] = ok (Bo true) := by
  have h := V_Data (a := []) (b := [0]) (by decide) (by decide)
  exact h.trans (by rw [eqB_t (by kernel_rfl)])
end Go.Proofs.YthpbjpnbafiipaaDoor.E
set_option linter.unusedVariables false
set_option linter.unusedSimpArgs false
namespace Go.Proofs.YthpbjpnbafiipaaDoor.E
/-! Layer 17: its fixed results. -/
theorem V_awake17 : ev 18 [] [] = ok (Bo true) := by
  rw [capnplaw17_awake_eq, x1, x2, x3, x4, x5, x6, x7, x8]
  rfl
end Go.Proofs.YthpbjpnbafiipaaDoor.E
set_option linter.unusedVariables false
set_option linter.unusedSimpArgs false
namespace Go.Proofs.YthpbjpnbafiipaaDoor.E
/-! Chapter 15's reference; the law EqualMatchesCanonicalForms. -/
noncomputable def canM (l : List (List Int)) (d w : Int) : List Int := if msgE l d w = 0 then canW d.toNat (msgN l d w) else []
theorem msg_small {l : List (List Int)} (hl : Segs l) (hs : Sm l) {d w : Int} (hw : w ≤ 134217728) (h0 : msgE l d w = 0) : Ok d.toNat (msgN l d w) ∧ nodSz d.toNat (msgN l d w) ≤ 134217728 ∧ cstN d.toNat (msgN l d w) ≤ max w 0 := by
  obtain ⟨ho, hc⟩ := msg_ok hl hs (by omega) (show (runT l d w).2.2 = 0 from h0)
  have hr1 := (runT_ok hl hs (d := d) (w := w) (by omega)).1
  unfold Mt at hr1
  have hle := nodSz_le d.toNat ho.vn ho.dp
  have hmc : meaC l d w ≤ max w 0 := by
    unfold meaC
    split <;> omega
  exact ⟨ho, by omega, by omega⟩
theorem V_rCanon {l : List (List Int)} (hl : Segs l) (hs : Sm l) {d w b : Int} (hd : d ≤ 1099511627775) (hw : w ≤ 134217728) : ev 19 [.pv (.sl 1 (sgs l)), .pv (.agg [I d, I w, I b])] [] = ok (.tup [.sl 1 (ws (canM l d w)), I (msgE l d w)]) := by
  rw [capnpref15_Words_eq, V_rMessage hl hs hd (by omega)]
  dsimp only [Nd.x, ↓cl5, callT_ret, callT_pan, onlyPV_v, Option.bind_some, pBool_v, pTup_v, pAgg_v, aggOf_v, pSl_v, pInt_v, pI64, pU64, pU32, pU8, List.getElem?_cons_zero, List.getElem?_cons_succ, cells_v, cells_sl, cells_agg, isCell_v, isCell_sl, cnd_t, cnd_f, tt_and, ff_and, nt_t, nt_f, len1, len3, len5, len8, len10, hlen1, clen1, clen5]
  unfold canM
  by_cases h0 : msgE l d w = 0
  · obtain ⟨ho, hb, _⟩ := msg_small hl hs hw h0
    have h1 := V_rWrite ho hb
    dsimp only [Nd.x] at h1
    rw [h0, show ((0 : Int) != 0) = false from rfl, if_pos rfl]
    dsimp only [↓cl5, callT_ret, callT_pan, onlyPV_v, Option.bind_some, pBool_v, pTup_v, pAgg_v, aggOf_v, pSl_v, pInt_v, pI64, pU64, pU32, pU8, List.getElem?_cons_zero, List.getElem?_cons_succ, cells_v, cells_sl, cells_agg, isCell_v, isCell_sl, cnd_t, cnd_f, tt_and, ff_and, nt_t, nt_f, len1, len3, len5, len8, len10, hlen1, clen1, clen5]
    rw [h1]
    rfl
  · rw [bne_t h0, if_neg h0]
    rfl
theorem wsl (z : Nat) (x : List PV) : (decide ((PV.sl z x).cells.length = 1) && (PV.sl z x).cells.all PV.isCell) = true := rfl
/-- The law EqualMatchesCanonicalForms. -/
theorem law_EqualMatchesCanonicalForms {la lb : List (List Int)} (hla : Segs la) (hlb : Segs lb) (d w b : Int) : ev 5 [.pv (.sl 1 (sgs la)), .pv (.sl 1 (sgs lb)), .pv (.agg [I d, I w, I b])] [] = ok (Bo true) := by
  obtain ⟨ba, ea, ca⟩ := V_Small hla d w b
  obtain ⟨bb, eb, cb⟩ := V_Small hlb d w b
  rw [capnplaw17_EqualMatchesCanonicalForms_eq, V_awake17]
  dsimp only [↓wsl, callT_ret, callT_pan, onlyPV_v, Option.bind_some, pBool_v, pTup_v, pAgg_v, aggOf_v, pSl_v, pInt_v, pI64, pU64, pU32, pU8, List.getElem?_cons_zero, List.getElem?_cons_succ, cells_v, cells_sl, cells_agg, isCell_v, isCell_sl, cnd_t, cnd_f, tt_and, ff_and, nt_t, nt_f, len1, len3, len5, len8, len10, hlen1, clen1, clen5]
  rw [ea]
  dsimp only [↓wsl, callT_ret, callT_pan, onlyPV_v, Option.bind_some, pBool_v, pTup_v, pAgg_v, aggOf_v, pSl_v, pInt_v, pI64, pU64, pU32, pU8, List.getElem?_cons_zero, List.getElem?_cons_succ, cells_v, cells_sl, cells_agg, isCell_v, isCell_sl, cnd_t, cnd_f, tt_and, ff_and, nt_t, nt_f, len1, len3, len5, len8, len10, hlen1, clen1, clen5]
  cases ba with
  | false => rfl
  | true =>
    dsimp only [↓wsl, callT_ret, callT_pan, onlyPV_v, Option.bind_some, pBool_v, pTup_v, pAgg_v, aggOf_v, pSl_v, pInt_v, pI64, pU64, pU32, pU8, List.getElem?_cons_zero, List.getElem?_cons_succ, cells_v, cells_sl, cells_agg, isCell_v, isCell_sl, cnd_t, cnd_f, tt_and, ff_and, nt_t, nt_f, len1, len3, len5, len8, len10, hlen1, clen1, clen5]
    rw [eb]
    dsimp only [↓wsl, callT_ret, callT_pan, onlyPV_v, Option.bind_some, pBool_v, pTup_v, pAgg_v, aggOf_v, pSl_v, pInt_v, pI64, pU64, pU32, pU8, List.getElem?_cons_zero, List.getElem?_cons_succ, cells_v, cells_sl, cells_agg, isCell_v, isCell_sl, cnd_t, cnd_f, tt_and, ff_and, nt_t, nt_f, len1, len3, len5, len8, len10, hlen1, clen1, clen5]
    cases bb with
    | false => rfl
    | true =>
      obtain ⟨hd, hw, _, ha3⟩ := ca rfl
      obtain ⟨_, _, _, hb3⟩ := cb rfl
      have hsa := sm_of ha3
      have hsb := sm_of hb3
      dsimp only [↓wsl, callT_ret, callT_pan, onlyPV_v, Option.bind_some, pBool_v, pTup_v, pAgg_v, aggOf_v, pSl_v, pInt_v, pI64, pU64, pU32, pU8, List.getElem?_cons_zero, List.getElem?_cons_succ, cells_v, cells_sl, cells_agg, isCell_v, isCell_sl, cnd_t, cnd_f, tt_and, ff_and, nt_t, nt_f, len1, len3, len5, len8, len10, hlen1, clen1, clen5]
      rw [V_rCanon hla hsa (by omega) (by omega)]
      dsimp only [↓wsl, callT_ret, callT_pan, onlyPV_v, Option.bind_some, pBool_v, pTup_v, pAgg_v, aggOf_v, pSl_v, pInt_v, pI64, pU64, pU32, pU8, List.getElem?_cons_zero, List.getElem?_cons_succ, cells_v, cells_sl, cells_agg, isCell_v, isCell_sl, cnd_t, cnd_f, tt_and, ff_and, nt_t, nt_f, len1, len3, len5, len8, len10, hlen1, clen1, clen5]
      rw [V_rCanon hlb hsb (by omega) (by omega)]
      dsimp only [↓wsl, callT_ret, callT_pan, onlyPV_v, Option.bind_some, pBool_v, pTup_v, pAgg_v, aggOf_v, pSl_v, pInt_v, pI64, pU64, pU32, pU8, List.getElem?_cons_zero, List.getElem?_cons_succ, cells_v, cells_sl, cells_agg, isCell_v, isCell_sl, cnd_t, cnd_f, tt_and, ff_and, nt_t, nt_f, len1, len3, len5, len8, len10, hlen1, clen1, clen5]
      rw [V_cmp hla hsa hlb hsb (by omega) (by omega)]
      dsimp only [↓wsl, callT_ret, callT_pan, onlyPV_v, Option.bind_some, pBool_v, pTup_v, pAgg_v, aggOf_v, pSl_v, pInt_v, pI64, pU64, pU32, pU8, List.getElem?_cons_zero, List.getElem?_cons_succ, cells_v, cells_sl, cells_agg, isCell_v, isCell_sl, cnd_t, cnd_f, tt_and, ff_and, nt_t, nt_f, len1, len3, len5, len8, len10, hlen1, clen1, clen5]
      by_cases h1 : msgE la d w = 0
      · by_cases h2 : msgE lb d w = 0
        · obtain ⟨oa, na, xa⟩ := msg_small hla hsa (by omega) h1
          obtain ⟨ob, nb, xb⟩ := msg_small hlb hsb (by omega) h2
          have e1 : cE la lb d w = 0 := by unfold cE; rw [if_pos h1, h2]
          have e2 : cB la lb d w = eqB (msgN la d w) (msgN lb d w) := by unfold cB; rw [if_pos e1]
          have e3 : canM la d w = canW d.toNat (msgN la d w) := by unfold canM; rw [if_pos h1]
          have e4 : canM lb d w = canW d.toNat (msgN lb d w) := by unfold canM; rw [if_pos h2]
          obtain ⟨m1, m2, _⟩ := can_msg oa na (d := d) (w := w) rfl xa
          have f1 : cE la [canW d.toNat (msgN la d w)] d w = 0 := by unfold cE; rw [if_pos h1, m1]
          have f2 : cB la [canW d.toNat (msgN la d w)] d w = true := by unfold cB; rw [if_pos f1, m2]; exact eqB_t rfl
          have hc := V_cmp hla hsa (canW_segs oa (by omega)) (canW_sm oa (by omega)) (d := d) (w := w) (b := b) (by omega) (by omega)
          rw [f1, f2] at hc
          have hc' : ev 20 [.pv (.sl 1 (sgs la)), .pv (.sl 1 [.sl 1 (ws (canW d.toNat (msgN la d w)))]), .pv (.agg [I d, I w, I b])] [] = ok (.tup [Bo true, I 0]) := hc
          have la1 := canW_len oa
          have lb1 := canW_len ob
          rw [h1, h2, e1, e2, e3, e4, show ((0 : Int) != 0) = false from rfl]
          dsimp only [↓wsl, callT_ret, callT_pan, onlyPV_v, Option.bind_some, pBool_v, pTup_v, pAgg_v, aggOf_v, pSl_v, pInt_v, pI64, pU64, pU32, pU8, List.getElem?_cons_zero, List.getElem?_cons_succ, cells_v, cells_sl, cells_agg, isCell_v, isCell_sl, cnd_t, cnd_f, tt_and, ff_and, nt_t, nt_f, len1, len3, len5, len8, len10, hlen1, clen1, clen5]
          rw [hc']
          dsimp only [↓wsl, callT_ret, callT_pan, onlyPV_v, Option.bind_some, pBool_v, pTup_v, pAgg_v, aggOf_v, pSl_v, pInt_v, pI64, pU64, pU32, pU8, List.getElem?_cons_zero, List.getElem?_cons_succ, cells_v, cells_sl, cells_agg, isCell_v, isCell_sl, cnd_t, cnd_f, tt_and, ff_and, nt_t, nt_f, len1, len3, len5, len8, len10, hlen1, clen1, clen5]
          rw [show ((0 : Int) != 0) = false from rfl]
          dsimp only [↓wsl, callT_ret, callT_pan, onlyPV_v, Option.bind_some, pBool_v, pTup_v, pAgg_v, aggOf_v, pSl_v, pInt_v, pI64, pU64, pU32, pU8, List.getElem?_cons_zero, List.getElem?_cons_succ, cells_v, cells_sl, cells_agg, isCell_v, isCell_sl, cnd_t, cnd_f, tt_and, ff_and, nt_t, nt_f, len1, len3, len5, len8, len10, hlen1, clen1, clen5]
          rw [V_Same1 (by omega) (by omega), eqB_iff (can_inj oa ob na nb)]
          dsimp only [↓wsl, callT_ret, callT_pan, onlyPV_v, Option.bind_some, pBool_v, pTup_v, pAgg_v, aggOf_v, pSl_v, pInt_v, pI64, pU64, pU32, pU8, List.getElem?_cons_zero, List.getElem?_cons_succ, cells_v, cells_sl, cells_agg, isCell_v, isCell_sl, cnd_t, cnd_f, tt_and, ff_and, nt_t, nt_f, len1, len3, len5, len8, len10, hlen1, clen1, clen5]
          rw [show (eqB (msgN la d w) (msgN lb d w) == eqB (msgN la d w) (msgN lb d w)) = true from by simp]
        · have e1 : cE la lb d w = msgE lb d w := by unfold cE; rw [if_pos h1]
          have e2 : cB la lb d w = false := by unfold cB; rw [if_neg (by rw [e1]; exact h2)]
          rw [h1, e1, e2, bne_t h2, show ((0 : Int) != 0) = false from rfl, show ((0 : Int) == 0) = true from rfl]
          dsimp only [↓wsl, callT_ret, callT_pan, onlyPV_v, Option.bind_some, pBool_v, pTup_v, pAgg_v, aggOf_v, pSl_v, pInt_v, pI64, pU64, pU32, pU8, List.getElem?_cons_zero, List.getElem?_cons_succ, cells_v, cells_sl, cells_agg, isCell_v, isCell_sl, cnd_t, cnd_f, tt_and, ff_and, nt_t, nt_f, len1, len3, len5, len8, len10, hlen1, clen1, clen5]
          rw [show (msgE lb d w == msgE lb d w) = true from by simp]
      · have e1 : cE la lb d w = msgE la d w := by unfold cE; rw [if_neg h1]
        have e2 : cB la lb d w = false := by unfold cB; rw [if_neg (by rw [e1]; exact h1)]
        rw [e1, e2, bne_t h1, beq_eq_false_iff_ne.2 h1]
        dsimp only [↓wsl, callT_ret, callT_pan, onlyPV_v, Option.bind_some, pBool_v, pTup_v, pAgg_v, aggOf_v, pSl_v, pInt_v, pI64, pU64, pU32, pU8, List.getElem?_cons_zero, List.getElem?_cons_succ, cells_v, cells_sl, cells_agg, isCell_v, isCell_sl, cnd_t, cnd_f, tt_and, ff_and, nt_t, nt_f, len1, len3, len5, len8, len10, hlen1, clen1, clen5]
        rw [show (msgE la d w == msgE la d w) = true from by simp]
end Go.Proofs.YthpbjpnbafiipaaDoor.E
