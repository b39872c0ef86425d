/- This text is one of those that prove the law HashMatchesReference of the given program, as its statement says it: true on every input that the statement covers. Its conditions are the statement's own. -/
import Derived.Test.YtfljialckkgacaaGreatDoorZHashMatchesReference1
import Derived.Test.YtfljialckkgacaaGreatDoorZHashMatchesReference2
import Derived.Test.YtfljialckkgacaaGreatDoorZHashMatchesReference3
import Derived.Test.YtfljialckkgacaaGreatDoorZHashMatchesReference4
import Derived.Test.YtfljialckkgacaaGreatDoorZHashMatchesReference5
import Derived.Test.YtfljialckkgacaaGreatDoorZHashMatchesReference6
import Derived.Test.YtfljialckkgacaaGreatDoorZHashMatchesReference7
import Derived.Test.YtfljialckkgacaaGreatDoorZHashMatchesReference8
import Derived.Test.YtfljialckkgacaaGreatDoorZHashMatchesReference9
import Derived.Test.YtfljialckkgacaaGreatDoorZHashMatchesReference10
set_option linter.unusedVariables false
set_option linter.unusedSimpArgs false
open Go.Proofs.YtfljialckkgacaaGreatDoor.E renaming callT_ret → za, callT_pan → zb, onlyPV_v → zc, pBool_v → ze, pTup_v → zf, pAgg_v → zg, aggOf_v → zh, pSl_v → zi, pInt_v → zj, cells_v → zk, cells_sl → zl, cells_agg → zm, isCell_v → zn, isCell_sl → zo, cnd_t → zq, cnd_f → zr, tt_and → zs, ff_and → zt, pI64 → zu, pU64 → zv, pU32 → zx, pU8 → zy, nt_t → zA, nt_f → zC, len1 → zD, len3 → zE, len5 → zF, len8 → zG, len10 → zH, hlen1 → zI, clen1 → zJ, clen5 → zK
open List renaming getElem?_cons_zero → zL
open List renaming getElem?_cons_succ → zM
open Option renaming bind_some → zN
set_option linter.unusedVariables false
set_option linter.unusedSimpArgs false
namespace Go.Proofs.YtfljialckkgacaaGreatDoor.E
/-! A canonical form costs no more than the message. -/
theorem nodSz_le : ∀ (D : Nat) {x : Nd}, VN x → Dp D x → nodSz D x ≤ cstN D x
  | 0, x, hv, hd => by
    have h0 : x.kind = 0 := hd
    rw [nodSz_null hv h0]
    exact Int.le_refl _
  | D + 1, x, hv, hd => by
    by_cases h0 : x.kind = 0
    · rw [nodSz_null hv h0]
      exact cstN_nn (D + 1) hv
    · have hd' := (hd.resolve_left h0).2
      rw [nodSz, cstN, if_neg h0]
      have h1 : objSz x ≤ ownC x := by
        unfold ownC
        split
        · rename_i h
          obtain ⟨hs, _⟩ := vn_shp hv
          rcases hs with hs | hs | hs <;> omega
        · omega
      have h2 : ∀ l : List Nd, (∀ t ∈ l, nodSz D t ≤ cstN D t) → sumL (l.map (nodSz D)) ≤ sumL (l.map (cstN D)) := by
        intro l
        induction l with
        | nil => intro _; exact Int.le_refl _
        | cons t l ih =>
          intro h
          rw [List.map_cons, List.map_cons, sumL_cons, sumL_cons]
          have := h t List.mem_cons_self
          have := ih fun x hx => h x (List.mem_cons_of_mem _ hx)
          omega
      have := h2 (tgt x) fun t ht => nodSz_le D (vn_tgt hv t ht) (hd' t ht)
      omega
theorem kids_cost {C : Nd → Int} {G : Int → Nat → Nd × Int × Int} {Q : Nd → Prop} : ∀ (c i : Nat) (m : Int) (acc : List Nd), (∀ m j, i ≤ j → j < i + c → (G m j).2.2 = 0 → C (G m j).1 ≤ m - (G m j).2.1 ∧ Q (G m j).1) → (kidsF G c i m acc).2.2 = 0 →
    ∃ ys, (kidsF G c i m acc).1 = acc ++ ys ∧ ys.length = c ∧ sumL (ys.map C) ≤ m - (kidsF G c i m acc).2.1 ∧ ∀ y ∈ ys, Q y
  | 0, i, m, acc, h, h0 => ⟨[], by simp [kidsF], rfl, by simp [kidsF, sumL_nil], fun y hy => by cases hy⟩
  | c + 1, i, m, acc, h, h0 => by
    rw [kidsF] at h0 ⊢
    by_cases e : (G m i).2.2 = 0
    · rw [if_pos e] at h0 ⊢
      obtain ⟨ys, k1, k2, k3, k4⟩ := kids_cost c (i + 1) _ _ (fun m j q1 q2 => h m j (by omega) (by omega)) h0
      obtain ⟨g1, g2⟩ := h m i (Nat.le_refl _) (by omega) e
      refine ⟨(G m i).1 :: ys, by rw [k1]; simp, by simp [k2], ?_, fun y hy => ?_⟩
      · rw [List.map_cons, sumL_cons]; omega
      · rcases List.mem_cons.1 hy with rfl | hy
        · exact g2
        · exact k4 y hy
    · rw [if_neg e] at h0
      exact absurd h0 e
theorem sumL_take {c : Nd → Int} : ∀ (l : List Nd) (n : Nat), (∀ x ∈ l, 0 ≤ c x) → sumL ((l.take n).map c) ≤ sumL (l.map c)
  | [], n, _ => by simp
  | x :: l, 0, h => by
    rw [List.take_zero, List.map_nil, sumL_nil]
    exact sumL_nn fun y hy => by
      obtain ⟨t, ht, rfl⟩ := List.mem_map.1 hy
      exact h t ht
  | x :: l, n + 1, h => by
    rw [List.take_succ_cons, List.map_cons, List.map_cons, sumL_cons, sumL_cons]
    have := sumL_take l n fun y hy => h y (List.mem_cons_of_mem _ hy)
    omega
/-- A traversal's answer costs at least what the canonical form of its value costs. -/
def Cst (D : Nat) (F : Int → Int → Int → Nd × Int × Int) : Prop := ∀ m s a, (F m s a).2.2 = 0 → cstN D (trimN (F m s a).1) ≤ m - (F m s a).2.1 ∧ VN (F m s a).1
theorem strct_cst {D : Nat} {F : Int → Int → Int → Nd × Int × Int} (h : Cst D F) (l : List (List Int)) (m : Int) {o : Ob} (hd : 0 ≤ o.data) (hz : (strct F l m o).2.2 = 0) :
    ∃ d ks, (strct F l m o).1 = .mk 1 0 0 d ks ∧ d.length ≤ 8 * o.data.toNat ∧ ks.length = o.ptrs.toNat ∧ sumL ((ks.map trimN).map (cstN D)) ≤ m - (strct F l m o).2.1 ∧ (∀ y ∈ ks, VN y) ∧ ((strct F l m o).2.1 = (strct F l m o).2.1) := by
  unfold strct at hz ⊢
  have hz' : (kidsF (fun m (i : Nat) => F m o.seg (o.at_ + o.data + i)) o.ptrs.toNat 0 m []).2.2 = 0 := hz
  obtain ⟨ys, k1, k2, k3, k4⟩ := kids_cost (C := fun x => cstN D (trimN x)) (Q := VN) o.ptrs.toNat 0 m [] (fun m j _ _ h0 => h m o.seg (o.at_ + o.data + j) h0) hz'
  rw [wrapK_ok0 hz']
  have hcl := cutB_len l o.seg o.at_ o.data
  refine ⟨_, _, rfl, by rw [byt_len]; omega, by rw [k1, List.nil_append, k2], ?_, fun y hy => k4 y (by rw [k1, List.nil_append] at hy; exact hy), rfl⟩
  rw [k1, List.nil_append, List.map_map]
  exact k3
theorem trim_mk1 (d : List Int) (ks : List Nd) : trimN (.mk 1 0 0 d ks) = .mk 1 0 0 (d.take (8 * wordsT d)) ((ks.map trimN).take (ptrsT ks)) := by rw [trimN, if_pos rfl, trimNs_eq]
/-- What an object charges. -/
theorem obj_cst {l : List (List Int)} (hl : Segs l) (hs : Sm l) {s a : Int} (h0 : (fol l s a).1 ≠ 0) (hf : (fol l s a).2.2.2 = 0) (he : (obj l s a).2 = 0) :
    ((obj l s a).1.kind = 1 → (obj l s a).1.data + (obj l s a).1.ptrs ≤ (obj l s a).1.cost) ∧ ((obj l s a).1.kind = 2 → (obj l s a).1.elem ≠ 7 → wordsOf (obj l s a).1.elem (obj l s a).1.n ≤ (obj l s a).1.cost) ∧
    ((obj l s a).1.kind = 2 → (obj l s a).1.elem = 7 → 1 + (obj l s a).1.n * ((obj l s a).1.data + (obj l s a).1.ptrs) ≤ (obj l s a).1.cost ∧ ((obj l s a).1.data + (obj l s a).1.ptrs = 0 → 1 + (obj l s a).1.n ≤ (obj l s a).1.cost)) := by
  have hd := dec_small (fol_word hl s a)
  unfold obj at he ⊢
  rw [if_pos hf, if_neg h0] at he ⊢
  unfold objP at he ⊢
  generalize decI (fol l s a).1 = p at he hd ⊢
  by_cases k0 : p.1 = 0
  · rw [if_pos k0] at he ⊢
    unfold objS at he ⊢
    by_cases hb : inB l (fol l s a).2.1 ((fol l s a).2.2.1 + p.2.1) (p.2.2.1 + p.2.2.2.1)
    · rw [if_pos hb]
      exact ⟨fun _ => by dsimp only; omega, fun h => absurd h (by dsimp only; omega), fun h => absurd h (by dsimp only; omega)⟩
    · rw [if_neg hb] at he; exact bad_no he (by decide)
  · rw [if_neg k0] at he ⊢
    by_cases k1 : p.1 = 1
    · rw [if_pos k1] at he ⊢
      unfold objL at he ⊢
      by_cases h7 : p.2.2.2.2.1 = 7
      · rw [if_pos h7] at he ⊢
        unfold objC at he ⊢
        by_cases hb : inB l (fol l s a).2.1 ((fol l s a).2.2.1 + p.2.1) (p.2.2.2.2.2.1 + 1)
        · rw [if_pos hb] at he ⊢
          split at he
          · rename_i hk
            rw [if_pos hk]
            refine ⟨fun h => absurd h (by dsimp only; omega), fun _ h => absurd rfl h, fun _ _ => ⟨?_, fun h => ?_⟩⟩
            · have := hk.2.1
              have := hk.2.2
              dsimp only
              split <;> omega
            · dsimp only at h ⊢
              rw [if_pos h]
              omega
          · exact bad_no he (by decide)
        · rw [if_neg hb] at he; exact bad_no he (by decide)
      · rw [if_neg h7] at he ⊢
        by_cases hb : inB l (fol l s a).2.1 ((fol l s a).2.2.1 + p.2.1) (wordsOf p.2.2.2.2.1 p.2.2.2.2.2.1)
        · rw [if_pos hb]
          exact ⟨fun h => absurd h (by dsimp only; omega), fun _ _ => by dsimp only; omega, fun _ h => absurd h h7⟩
        · rw [if_neg hb] at he; exact bad_no he (by decide)
    · rw [if_neg k1] at he
      split at he
      · exact bad_no he (by decide)
      · exact bad_no he (by decide)
theorem den_cst {l : List (List Int)} (hl : Segs l) (hs : Sm l) : ∀ D, Cst D (den l D) := by
  intro D
  induction D with
  | zero =>
    intro m s a hz
    unfold den at hz ⊢
    by_cases h1 : (fol l s a).2.2.2 = 0
    · rw [if_pos h1] at hz ⊢
      by_cases h2 : (fol l s a).1 = 0
      · rw [if_pos h2]
        exact ⟨by show 0 ≤ m - m; omega, vn0⟩
      · rw [if_neg h2] at hz; exact absurd hz (show ¬ (7 : Int) = 0 by decide)
    · rw [if_neg h1] at hz; exact absurd hz h1
  | succ D ih =>
    intro m s a hz
    refine ⟨?_, (den_okd hl hs (D + 1) m s a hz).1⟩
    rw [den] at hz ⊢
    dsimp only at hz ⊢
    by_cases h1 : (fol l s a).2.2.2 = 0
    · rw [if_pos h1] at hz ⊢
      by_cases h2 : (fol l s a).1 = 0
      · rw [if_pos h2]
        show cstN (D + 1) (trimN nd0) ≤ m - m
        rw [trimN0, cstN]
        show (if (0 : Int) = 0 then 0 else _) ≤ _
        rw [if_pos rfl]
        omega
      · rw [if_neg h2] at hz ⊢
        unfold denO at hz ⊢
        by_cases h3 : (obj l s a).2 = 0
        · rw [if_pos h3] at hz ⊢
          have ho := obj_ok hl hs h2 h1 h3
          have hi := obj_cst hl hs h2 h1 h3
          generalize (obj l s a).1 = o at hz ho hi ⊢
          by_cases h4 : o.cost > m
          · rw [if_pos h4] at hz; exact absurd hz (show ¬ (8 : Int) = 0 by decide)
          · rw [if_neg h4] at hz ⊢
            obtain ⟨hat, hd, hq, hel, hn, hco, hk, hw, hzz⟩ := ho
            by_cases k1 : o.kind = 1
            · rw [if_pos k1] at hz ⊢
              obtain ⟨d, ks, e1, e2, e3, e4, e5, _⟩ := strct_cst ih l (m - o.cost) hd.1 hz
              rw [e1, trim_mk1, cstN]
              show (if (1 : Int) = 0 then 0 else ownC (.mk 1 0 0 (d.take (8 * wordsT d)) ((ks.map trimN).take (ptrsT ks))) + sumL (((ks.map trimN).take (ptrsT ks)).map (cstN D))) ≤ _
              rw [if_neg (by decide), ownC_mk, if_neg (fun h => absurd h.1 (by decide))]
              have e6 : objSz (.mk 1 0 0 (d.take (8 * wordsT d)) ((ks.map trimN).take (ptrsT ks))) = (((d.take (8 * wordsT d)).length / 8 + ((ks.map trimN).take (ptrsT ks)).length : Nat) : Int) := rfl
              have e7 := sumL_take (c := cstN D) (ks.map trimN) (ptrsT ks) (fun x hx => by
                obtain ⟨y, hy, rfl⟩ := List.mem_map.1 hx
                exact cstN_nn D (vn_trim y (e5 y hy)))
              rw [e6, List.length_take, List.length_take, List.length_map]
              have := hi.1 k1
              omega
            · have k2 : o.kind = 2 := by omega
              rw [if_neg k1] at hz ⊢
              unfold denL at hz ⊢
              by_cases h6 : o.elem < 6
              · rw [if_pos h6]
                show cstN (D + 1) (trimN (.mk 2 o.elem o.n _ [])) ≤ m - (m - o.cost)
                rw [trimN, if_neg (by decide), cstN]
                show (if (2 : Int) = 0 then 0 else ownC (.mk 2 o.elem o.n _ []) + sumL ((tgt (.mk 2 o.elem o.n _ [])).map (cstN D))) ≤ _
                rw [if_neg (by decide), ownC_mk, if_neg (fun h => by omega), tgt_mk, if_neg (fun h => by omega)]
                have e6 : ∀ d, objSz (.mk 2 o.elem o.n d []) = wordsOf o.elem o.n := fun d => by
                  unfold objSz
                  show (if (2 : Int) = 0 then 0 else if (2 : Int) = 1 then _ else if o.elem = 7 then _ else wordsOf o.elem o.n) = _
                  rw [if_neg (by decide), if_neg (by decide), if_neg (by omega)]
                show objSz (.mk 2 o.elem o.n _ []) + 0 + 0 ≤ _
                rw [e6, ← (hw k2 h6).2]
                omega
              · rw [if_neg h6] at hz ⊢
                have hz' : (kidsF (fun m (i : Nat) => if o.elem = 6 then den l D m o.seg (o.at_ + i) else strct (den l D) l m (elt o i)) o.n.toNat 0 (m - o.cost) []).2.2 = 0 := hz
                rw [wrapK_ok0 hz']
                by_cases e6 : o.elem = 6
                · obtain ⟨ys, q1, q2, q3, q4⟩ := kids_cost (C := fun x => cstN D (trimN x)) (Q := VN) o.n.toNat 0 (m - o.cost) [] (fun m j _ _ h0 => by
                    rw [if_pos e6] at h0 ⊢
                    exact ih _ _ _ h0) hz'
                  generalize kidsF (fun m (i : Nat) => if o.elem = 6 then den l D m o.seg (o.at_ + i) else strct (den l D) l m (elt o i)) o.n.toNat 0 (m - o.cost) [] = K at q1 q3 ⊢
                  show cstN (D + 1) (trimN (.mk 2 o.elem o.n [] K.1)) ≤ m - K.2.1
                  rw [q1, List.nil_append, trimN, if_neg (by decide), trimNs_eq, cstN]
                  show (if (2 : Int) = 0 then 0 else ownC (.mk 2 o.elem o.n [] (ys.map trimN)) + sumL ((tgt (.mk 2 o.elem o.n [] (ys.map trimN))).map (cstN D))) ≤ _
                  rw [if_neg (by decide), ownC_mk, if_neg (fun h => by omega), tgt_mk, if_neg (fun h => by omega)]
                  have e7 : objSz (.mk 2 o.elem o.n [] (ys.map trimN)) = wordsOf o.elem o.n := by
                    unfold objSz
                    show (if (2 : Int) = 0 then 0 else if (2 : Int) = 1 then _ else if o.elem = 7 then _ else wordsOf o.elem o.n) = _
                    rw [if_neg (by decide), if_neg (by decide), if_neg (by omega)]
                  have := hi.2.1 k2 (by omega)
                  rw [e7, List.map_map]
                  have q3' : sumL (ys.map (cstN D ∘ trimN)) ≤ m - o.cost - K.2.1 := q3
                  omega
                · have e7 : o.elem = 7 := by omega
                  obtain ⟨ys, q1, q2, q3, q4⟩ := kids_cost (C := fun x => sumL ((trimN x).kids.map (cstN D))) (Q := fun x => (trimN x).data.length / 8 ≤ o.data.toNat ∧ (trimN x).kids.length ≤ o.ptrs.toNat) o.n.toNat 0 (m - o.cost) [] (fun m j _ _ h0 => by
                    rw [if_neg e6] at h0 ⊢
                    obtain ⟨d, ks, g1, g2, g3, g4, g5, _⟩ := strct_cst ih l m (o := elt o j) hd.1 h0
                    have g6 := sumL_take (c := cstN D) (ks.map trimN) (ptrsT ks) (fun x hx => by
                      obtain ⟨y, hy, rfl⟩ := List.mem_map.1 hx
                      exact cstN_nn D (vn_trim y (g5 y hy)))
                    rw [g1, trim_mk1]
                    refine ⟨?_, ?_, ?_⟩
                    · show sumL (((ks.map trimN).take (ptrsT ks)).map (cstN D)) ≤ _
                      omega
                    · show (d.take (8 * wordsT d)).length / 8 ≤ _
                      have g2' : d.length ≤ 8 * o.data.toNat := g2
                      rw [List.length_take]
                      omega
                    · show ((ks.map trimN).take (ptrsT ks)).length ≤ _
                      have g3' : ks.length = o.ptrs.toNat := g3
                      rw [List.length_take, List.length_map]
                      omega) hz'
                  generalize kidsF (fun m (i : Nat) => if o.elem = 6 then den l D m o.seg (o.at_ + i) else strct (den l D) l m (elt o i)) o.n.toNat 0 (m - o.cost) [] = K at q1 q3 ⊢
                  show cstN (D + 1) (trimN (.mk 2 o.elem o.n [] K.1)) ≤ m - K.2.1
                  rw [q1, List.nil_append, trimN, if_neg (by decide), trimNs_eq, cstN]
                  show (if (2 : Int) = 0 then 0 else ownC (.mk 2 o.elem o.n [] (ys.map trimN)) + sumL ((tgt (.mk 2 o.elem o.n [] (ys.map trimN))).map (cstN D))) ≤ _
                  rw [if_neg (by decide), ownC_mk, show tgt (.mk 2 o.elem o.n [] (ys.map trimN)) = (ys.map trimN).flatMap Nd.kids from if_pos ⟨rfl, e7⟩, sumL_flat, List.map_map]
                  have e8 : objSz (.mk 2 o.elem o.n [] (ys.map trimN)) = 1 + o.n * ((uniD (ys.map trimN) + uniP (ys.map trimN) : Nat) : Int) := by
                    unfold objSz
                    show (if (2 : Int) = 0 then 0 else if (2 : Int) = 1 then _ else if o.elem = 7 then 1 + o.n * ((uniD (ys.map trimN) + uniP (ys.map trimN) : Nat) : Int) else _) = _
                    rw [if_neg (by decide), if_neg (by decide), if_pos e7]
                  have u1 : uniD (ys.map trimN) ≤ o.data.toNat := uniD_le fun x hx => by
                    obtain ⟨y, hy, rfl⟩ := List.mem_map.1 hx
                    exact (q4 y hy).1
                  have u2 : uniP (ys.map trimN) ≤ o.ptrs.toNat := uniP_le fun x hx => by
                    obtain ⟨y, hy, rfl⟩ := List.mem_map.1 hx
                    exact (q4 y hy).2
                  have hc7 := hi.2.2 k2 e7
                  have hmul : o.n * ((uniD (ys.map trimN) + uniP (ys.map trimN) : Nat) : Int) ≤ o.n * (o.data + o.ptrs) := Int.mul_le_mul_of_nonneg_left (by omega) hn.1
                  rw [e8]
                  have q3' : sumL (ys.map ((fun k => sumL (k.kids.map (cstN D))) ∘ trimN)) ≤ m - o.cost - K.2.1 := q3
                  split
                  · rename_i hu
                    rw [hu.2.2]
                    have : o.n ≤ o.n * (o.data + o.ptrs) ∨ o.data + o.ptrs = 0 := by
                      by_cases hz0 : o.data + o.ptrs = 0
                      · exact .inr hz0
                      · left
                        have := Int.mul_le_mul_of_nonneg_left (show (1 : Int) ≤ o.data + o.ptrs by omega) hn.1
                        omega
                    rcases this with h | h
                    · simp only [Int.natCast_zero, Int.mul_zero]
                      have := hc7.1
                      omega
                    · have := hc7.2 h
                      simp only [Int.natCast_zero, Int.mul_zero]
                      omega
                  · have := hc7.1
                    omega
        · rw [if_neg h3] at hz; exact absurd hz h3
    · rw [if_neg h1] at hz; exact absurd hz h1
end Go.Proofs.YtfljialckkgacaaGreatDoor.E
set_option linter.unusedVariables false
set_option linter.unusedSimpArgs false
namespace Go.Proofs.YtfljialckkgacaaGreatDoor.E
/-! The program's sizes of canonical forms. -/
def vh (s : Int) : Heap := [[.pv (I s)], [.clo (.func 88) [] [.ptr 0 0, .ptr 1 0]]]
theorem vsame : sameClo (.func 88) [] [.ptr 0 0, .ptr 1 0] (.clo (.func 88) [] [.ptr 0 0, .ptr 1 0]) = true := rfl
theorem hlen2 (a b : List AV) : decide ([a, b].length = 2) = true := rfl
def Vis (D : Nat) (t : Nd) : Prop := ∀ s : Int, 0 ≤ s → s + nodSz D t ≤ 4611686018427387904 → ev 88 [.pv t.x, .ptr 0 0, .ptr 1 0] (vh s) = some (.ret (.pv (.tup [])), vh (s + nodSz D t))
theorem nodSz_nn : ∀ (D : Nat) {x : Nd}, VN x → 0 ≤ nodSz D x
  | 0, x, hv => objSz_nn hv
  | D + 1, x, hv => by
    rw [nodSz]
    have := objSz_nn hv
    have := sumL_nn (l := (tgt x).map (nodSz D)) fun y hy => by
      obtain ⟨t, ht, rfl⟩ := List.mem_map.1 hy
      exact nodSz_nn D (vn_tgt hv t ht)
    omega
theorem drop_sum {f : Nd → Int} {l : List Nd} {i : Nat} (h : i < l.length) : sumL ((l.drop i).map f) = f l[i] + sumL ((l.drop (i + 1)).map f) := by
  rw [List.drop_eq_getElem_cons h, List.map_cons, sumL_cons]
theorem visit_in {D : Nat} {q : List Nd} (hq : q.length ≤ 1073741824) (hv : ∀ t ∈ q, Vis D t) (hn : ∀ t ∈ q, VN t) (ks : List PV) (i1 i2 i7 i8 i9 : Int) (xs10 xs11 : List PV) (c0 c1 c2 c3 c4 : PV) : ∀ (c j : Nat) (s : Int), j + c = q.length → 0 ≤ s → s + sumL ((q.drop j).map (nodSz D)) ≤ 4611686018427387904 →
    canonsize_Node_1_L2 ks i1 i2 (.sl 5 (pvs q)) q.length j (I s) i7 i8 i9 xs10 xs11 c0 c1 c2 c3 c4 = canonsize_Node_1_L0 ks i1 (IntKind.wrap .i64 (i2 + 1)) (I (s + sumL ((q.drop j).map (nodSz D)))) i7 i8 i9 xs10 xs11 := by
  intro c
  induction c with
  | zero =>
    intro j s hj h0 hs
    rw [canonsize_Node_1_L2_eq, decide_eq_false (by omega), List.drop_eq_nil_of_le (by omega)]
    simp [sumL_nil]
  | succ c ih =>
    intro j s hj h0 hs
    have hjl : j < q.length := by omega
    have hV := hv _ (List.getElem_mem hjl) s h0
    have hp := nodSz_nn D (hn _ (List.getElem_mem hjl))
    have hr : 0 ≤ sumL ((q.drop (j + 1)).map (nodSz D)) := sumL_nn fun y hy => by
      obtain ⟨t, ht, rfl⟩ := List.mem_map.1 hy
      exact nodSz_nn D (hn t (List.mem_of_mem_drop ht))
    rw [drop_sum hjl] at hs ⊢
    have hV' := hV (by omega)
    unfold vh at hV'
    dsimp only [Nd.x] at hV'
    rw [canonsize_Node_1_L2_eq, decide_eq_true (show (j : Int) < (q.length : Int) by omega)]
    dsimp only [za, zb, zc, zN, ze, zf, zg, zh, zi, zj, zu, zv, zx, zy, zL, zM, zk, zl, zm, zn, zo, zq, zr, zs, zt, zA, zC, zD, zE, zF, zG, zH, zI, zJ, zK]
    rw [decide_eq_true (show (5 : Nat) = 5 from rfl), decide_eq_true (show 0 ≤ (j : Int) by omega), decide_eq_true (show (j : Int) < ((pvs q).length : Int) by simp; omega)]
    dsimp only [za, zb, zc, zN, ze, zf, zg, zh, zi, zj, zu, zv, zx, zy, zL, zM, zk, zl, zm, zn, zo, zq, zr, zs, zt, zA, zC, zD, zE, zF, zG, zH, zI, zJ, zK]
    rw [Int.toNat_natCast, pvs_get hjl]
    dsimp only [za, zb, zc, zN, ze, zf, zg, zh, zi, zj, zu, zv, zx, zy, zL, zM, zk, zl, zm, zn, zo, zq, zr, zs, zt, zA, zC, zD, zE, zF, zG, zH, zI, zJ, zK]
    rw [nd_five, nd_cells, show (q[j].c.drop 0).take 5 = q[j].c from rfl]
    dsimp only [Nd.c, za, zb, zc, zN, ze, zf, zg, zh, zi, zj, zu, zv, zx, zy, zL, zM, zk, zl, zm, zn, zo, zq, zr, zs, zt, zA, zC, zD, zE, zF, zG, zH, zI, zJ, zK]
    rw [hV']
    dsimp only [za, zb, zc, zN, ze, zf, zg, zh, zi, zj, zu, zv, zx, zy, zL, zM, zk, zl, zm, zn, zo, zq, zr, zs, zt, zA, zC, zD, zE, zF, zG, zH, zI, zJ, zK]
    rw [vsame, hlen2, w64 (x := (j : Int) + 1) (by omega)]
    dsimp only [za, zb, zc, zN, ze, zf, zg, zh, zi, zj, zu, zv, zx, zy, zL, zM, zk, zl, zm, zn, zo, zq, zr, zs, zt, zA, zC, zD, zE, zF, zG, zH, zI, zJ, zK]
    have := ih (j + 1) (s + nodSz D q[j]) (by omega) (by omega) (by omega)
    rw [show s + (nodSz D q[j] + sumL ((q.drop (j + 1)).map (nodSz D))) = s + nodSz D q[j] + sumL ((q.drop (j + 1)).map (nodSz D)) by omega]
    exact this
theorem visit_plain {D : Nat} {ks : List Nd} (hq : ks.length ≤ 1073741824) (hv : ∀ t ∈ ks, Vis D t) (hn : ∀ t ∈ ks, VN t) (i4 i5 i6 : Int) (h7 : i5 ≠ 7) (xs7 xs8 : List PV) : ∀ (c j : Nat) (s : Int), j + c = ks.length → 0 ≤ s → s + sumL ((ks.drop j).map (nodSz D)) ≤ 4611686018427387904 →
    canonsize_Node_1_L0 (pvs ks) ks.length j (I s) i4 i5 i6 xs7 xs8 = some (.ret (.pv (.tup [])), vh (s + sumL ((ks.drop j).map (nodSz D)))) := by
  intro c
  induction c with
  | zero =>
    intro j s hj h0 hs
    rw [canonsize_Node_1_L0_eq, decide_eq_false (by omega), List.drop_eq_nil_of_le (by omega)]
    simp [sumL_nil, vh]
  | succ c ih =>
    intro j s hj h0 hs
    have hjl : j < ks.length := by omega
    have hV := hv _ (List.getElem_mem hjl) s h0
    have hp := nodSz_nn D (hn _ (List.getElem_mem hjl))
    have hr : 0 ≤ sumL ((ks.drop (j + 1)).map (nodSz D)) := sumL_nn fun y hy => by
      obtain ⟨t, ht, rfl⟩ := List.mem_map.1 hy
      exact nodSz_nn D (hn t (List.mem_of_mem_drop ht))
    rw [drop_sum hjl] at hs ⊢
    have hV' := hV (by omega)
    unfold vh at hV'
    dsimp only [Nd.x] at hV'
    rw [canonsize_Node_1_L0_eq, decide_eq_true (show (j : Int) < (ks.length : Int) by omega), decide_eq_true (show 0 ≤ (j : Int) by omega), decide_eq_true (show (j : Int) < ((pvs ks).length : Int) by simp; omega)]
    dsimp only [za, zb, zc, zN, ze, zf, zg, zh, zi, zj, zu, zv, zx, zy, zL, zM, zk, zl, zm, zn, zo, zq, zr, zs, zt, zA, zC, zD, zE, zF, zG, zH, zI, zJ, zK]
    rw [Int.toNat_natCast, pvs_get hjl]
    dsimp only [za, zb, zc, zN, ze, zf, zg, zh, zi, zj, zu, zv, zx, zy, zL, zM, zk, zl, zm, zn, zo, zq, zr, zs, zt, zA, zC, zD, zE, zF, zG, zH, zI, zJ, zK]
    rw [nd_five, nd_cells, show (ks[j].c.drop 0).take 5 = ks[j].c from rfl, show (i5 != 7) = true from by simpa using h7]
    dsimp only [Nd.c, za, zb, zc, zN, ze, zf, zg, zh, zi, zj, zu, zv, zx, zy, zL, zM, zk, zl, zm, zn, zo, zq, zr, zs, zt, zA, zC, zD, zE, zF, zG, zH, zI, zJ, zK]
    rw [hV']
    dsimp only [za, zb, zc, zN, ze, zf, zg, zh, zi, zj, zu, zv, zx, zy, zL, zM, zk, zl, zm, zn, zo, zq, zr, zs, zt, zA, zC, zD, zE, zF, zG, zH, zI, zJ, zK]
    rw [vsame, hlen2, w64 (x := (j : Int) + 1) (by omega)]
    dsimp only [za, zb, zc, zN, ze, zf, zg, zh, zi, zj, zu, zv, zx, zy, zL, zM, zk, zl, zm, zn, zo, zq, zr, zs, zt, zA, zC, zD, zE, zF, zG, zH, zI, zJ, zK]
    have := ih (j + 1) (s + nodSz D ks[j]) (by omega) (by omega) (by omega)
    rw [show s + (nodSz D ks[j] + sumL ((ks.drop (j + 1)).map (nodSz D))) = s + nodSz D ks[j] + sumL ((ks.drop (j + 1)).map (nodSz D)) by omega]
    exact this
theorem visit_comp {D : Nat} {ks : List Nd} (hq : ks.length ≤ 1073741824) (hk : ∀ k ∈ ks, k.kids.length ≤ 1073741824) (hv : ∀ k ∈ ks, ∀ t ∈ k.kids, Vis D t) (hn : ∀ k ∈ ks, ∀ t ∈ k.kids, VN t) (i4 i6 : Int) (xs7 xs8 : List PV) : ∀ (c j : Nat) (s : Int), j + c = ks.length → 0 ≤ s → s + sumL ((ks.drop j).map fun k => sumL (k.kids.map (nodSz D))) ≤ 4611686018427387904 →
    canonsize_Node_1_L0 (pvs ks) ks.length j (I s) i4 7 i6 xs7 xs8 = some (.ret (.pv (.tup [])), vh (s + sumL ((ks.drop j).map fun k => sumL (k.kids.map (nodSz D))))) := by
  intro c
  induction c with
  | zero =>
    intro j s hj h0 hs
    rw [canonsize_Node_1_L0_eq, decide_eq_false (by omega), List.drop_eq_nil_of_le (by omega)]
    simp [sumL_nil, vh]
  | succ c ih =>
    intro j s hj h0 hs
    have hjl : j < ks.length := by omega
    have hmem := List.getElem_mem hjl
    have nn : ∀ k ∈ ks, 0 ≤ sumL (k.kids.map (nodSz D)) := fun k hk => sumL_nn fun y hy => by
      obtain ⟨t, ht, rfl⟩ := List.mem_map.1 hy
      exact nodSz_nn D (hn k hk t ht)
    have hp := nn _ hmem
    have hr : 0 ≤ sumL ((ks.drop (j + 1)).map fun k => sumL (k.kids.map (nodSz D))) := sumL_nn fun y hy => by
      obtain ⟨t, ht, rfl⟩ := List.mem_map.1 hy
      exact nn t (List.mem_of_mem_drop ht)
    rw [drop_sum hjl] at hs ⊢
    have hin := visit_in (hk _ hmem) (hv _ hmem) (hn _ hmem) (pvs ks) ks.length j i4 7 i6 xs7 xs8 (I ks[j].kind) (I ks[j].elem) (I ks[j].n) (.sl 1 (bs ks[j].data)) (.sl 5 (pvs ks[j].kids)) ks[j].kids.length 0 s (by omega) h0 (by rw [List.drop_zero]; omega)
    rw [List.drop_zero, w64 (x := (j : Int) + 1) (by omega)] at hin
    rw [canonsize_Node_1_L0_eq, decide_eq_true (show (j : Int) < (ks.length : Int) by omega), decide_eq_true (show 0 ≤ (j : Int) by omega), decide_eq_true (show (j : Int) < ((pvs ks).length : Int) by simp; omega)]
    dsimp only [za, zb, zc, zN, ze, zf, zg, zh, zi, zj, zu, zv, zx, zy, zL, zM, zk, zl, zm, zn, zo, zq, zr, zs, zt, zA, zC, zD, zE, zF, zG, zH, zI, zJ, zK]
    rw [Int.toNat_natCast, pvs_get hjl]
    dsimp only [za, zb, zc, zN, ze, zf, zg, zh, zi, zj, zu, zv, zx, zy, zL, zM, zk, zl, zm, zn, zo, zq, zr, zs, zt, zA, zC, zD, zE, zF, zG, zH, zI, zJ, zK]
    rw [nd_five, nd_cells, show (ks[j].c.drop 0).take 5 = ks[j].c from rfl, show ((7 : Int) != 7) = false from rfl]
    dsimp only [Nd.c, za, zb, zc, zN, ze, zf, zg, zh, zi, zj, zu, zv, zx, zy, zL, zM, zk, zl, zm, zn, zo, zq, zr, zs, zt, zA, zC, zD, zE, zF, zG, zH, zI, zJ, zK]
    rw [pvs_len]
    refine hin.trans ?_
    have := ih (j + 1) (s + sumL (ks[j].kids.map (nodSz D))) (by omega) (by omega) (by omega)
    rw [show s + (sumL (ks[j].kids.map (nodSz D)) + sumL ((ks.drop (j + 1)).map fun k => sumL (k.kids.map (nodSz D)))) = s + sumL (ks[j].kids.map (nodSz D)) + sumL ((ks.drop (j + 1)).map fun k => sumL (k.kids.map (nodSz D))) by omega]
    exact this
theorem uni_small {x : Nd} (hg : good x) (hv : VN x) : uniD x.kids + uniP x.kids ≤ 4611686018427387904 := by
  obtain ⟨hd, hk, hks⟩ := good_len hg
  have := uniD_le (l := x.kids) (b := 17592186044416) fun y hy => by
    have := (good_len (hks y hy)).1
    omega
  have := uniP_le (l := x.kids) (b := 1073741824) fun y hy => (good_len (hks y hy)).2.1
  omega
theorem visit_ok : ∀ (D : Nat) (x : Nd), good x → VN x → Dp D x → Vis D x
  | D, x, hg, hv, hd => by
    intro s h0 hs
    have ho := objSz_nn hv
    obtain ⟨hgd, hgk, hgs⟩ := good_len hg
    have hob : objSz x ≤ nodSz D x := by
      cases D with
      | zero => exact Int.le_refl _
      | succ D =>
        rw [nodSz]
        have := sumL_nn (l := (tgt x).map (nodSz D)) fun y hy => by
          obtain ⟨t, ht, rfl⟩ := List.mem_map.1 hy
          exact nodSz_nn D (vn_tgt hv t ht)
        omega
    have hO := V_Object13 hg hv (by omega) (uni_small hg hv)
    dsimp only [Nd.x] at hO
    unfold vh
    rw [Nd.x, canonsize_Node_1_eq, hO, pvs_len]
    dsimp only [za, zb, zc, zN, ze, zf, zg, zh, zi, zj, zu, zv, zx, zy, zL, zM, zk, zl, zm, zn, zo, zq, zr, zs, zt, zA, zC, zD, zE, zF, zG, zH, zI, zJ, zK]
    rw [w64 (x := s + objSz x) (by omega)]
    by_cases k0 : x.kind = 0
    · have := vn_null hv k0
      subst this
      have := visit_plain (D := D) (ks := []) (by simp) (fun t h => by cases h) (fun t h => by cases h) 0 0 0 (by decide) (bs []) (pvs []) 0 0 (s + objSz nd0) rfl (by omega) (by simp [sumL_nil]; omega)
      refine this.trans ?_
      rw [nodSz_null hv k0, objSz_null k0]
      simp [sumL_nil, vh]
    · cases D with
      | zero => exact absurd hd k0
      | succ D =>
        have hd' := (hd.resolve_left k0).2
        have hT : ∀ t ∈ tgt x, Vis D t := fun t ht => visit_ok D t (good_tgt hg t ht) (vn_tgt hv t ht) (hd' t ht)
        rw [nodSz] at hs ⊢
        by_cases h7 : x.kind = 2 ∧ x.elem = 7
        · have et : tgt x = x.kids.flatMap Nd.kids := if_pos h7
          rw [et, sumL_flat] at hs ⊢
          rw [et] at hT
          have := visit_comp (D := D) hgk (fun k hk => (good_len (hgs k hk)).2.1) (fun k hk t ht => hT t (List.mem_flatMap.2 ⟨k, hk, ht⟩)) (fun k hk t ht => vn_tgt hv t (by rw [et]; exact List.mem_flatMap.2 ⟨k, hk, ht⟩)) x.kind x.n (bs x.data) (pvs x.kids) x.kids.length 0 (s + objSz x) (by omega) (by omega) (by rw [List.drop_zero]; omega)
          rw [List.drop_zero] at this
          rw [h7.2]
          refine this.trans ?_
          unfold vh
          rw [show s + (objSz x + sumL (x.kids.map fun k => sumL (k.kids.map (nodSz D)))) = s + objSz x + sumL (x.kids.map fun k => sumL (k.kids.map (nodSz D))) by omega]
        · have et : tgt x = x.kids := if_neg h7
          have he7 : x.elem ≠ 7 := fun h => by
            obtain ⟨hs', _⟩ := vn_shp hv
            rcases hs' with h' | h' | h' <;> omega
          rw [et] at hs hT ⊢
          have := visit_plain (D := D) hgk hT (fun t ht => vn_tgt hv t (by rw [et]; exact ht)) x.kind x.elem x.n he7 (bs x.data) (pvs x.kids) x.kids.length 0 (s + objSz x) (by omega) (by omega) (by rw [List.drop_zero]; omega)
          rw [List.drop_zero] at this
          refine this.trans ?_
          unfold vh
          rw [show s + (objSz x + sumL (x.kids.map (nodSz D))) = s + objSz x + sumL (x.kids.map (nodSz D)) by omega]
theorem V_Node13 {D : Nat} {x : Nd} (hg : good x) (hv : VN x) (hd : Dp D x) (hb : nodSz D x ≤ 4611686018427387904) : ev 67 [.pv x.x] [] = ok (I (nodSz D x)) := by
  have h := visit_ok D x hg hv hd 0 (Int.le_refl _) (by omega)
  unfold vh at h
  dsimp only [Nd.x] at h
  rw [Nd.x, canonsize_Node_eq, h]
  dsimp only [za, zb, zc, zN, ze, zf, zg, zh, zi, zj, zu, zv, zx, zy, zL, zM, zk, zl, zm, zn, zo, zq, zr, zs, zt, zA, zC, zD, zE, zF, zG, zH, zI, zJ, zK]
  rw [vsame, hlen2, Int.zero_add]
  rfl
theorem V_Total13 {D : Nat} {x : Nd} (hg : good x) (hv : VN x) (hd : Dp D x) (hb : nodSz D x ≤ 4611686018427387904) : ev 48 [.pv x.x] [] = ok (I (nodSz D x + 1)) := by
  have h := V_Node13 hg hv hd hb
  have hn := nodSz_nn D hv
  dsimp only [Nd.x] at h
  rw [Nd.x, canonsize_Total_eq, h]
  dsimp only [za, zb, zc, zN, ze, zf, zg, zh, zi, zj, zu, zv, zx, zy, zL, zM, zk, zl, zm, zn, zo, zq, zr, zs, zt, zA, zC, zD, zE, zF, zG, zH, zI, zJ, zK]
  rw [w64 (by omega)]
end Go.Proofs.YtfljialckkgacaaGreatDoor.E
set_option linter.unusedVariables false
set_option linter.unusedSimpArgs false
namespace Go.Proofs.YtfljialckkgacaaGreatDoor.E
/-! Bytes as words: the program and the reference. -/
theorem getD_drop (b : List Int) (n k : Nat) : (b.drop n).getD k 0 = b.getD (n + k) 0 := by
  rw [List.getD_eq_getElem?_getD, List.getD_eq_getElem?_getD, List.getElem?_drop]
theorem bs_getD {b : List Int} {i : Nat} (h : i < b.length) : (bs b)[i]? = some (U8 (b.getD i 0)) := by
  rw [bs_get h, List.getD_eq_getElem?_getD, List.getElem?_eq_getElem h]
  rfl
def accU (f : Nat → Nat) : Nat → Nat
  | 0 => 0
  | k + 1 => accU f k + f k * 2 ^ (8 * k)
theorem accU_lt {f : Nat → Nat} (hf : ∀ k, f k < 256) : ∀ k, accU f k < 2 ^ (8 * k)
  | 0 => by show 0 < 1; decide
  | k + 1 => by
    have := accU_lt hf k
    have h1 := hf k
    have : f k * 2 ^ (8 * k) ≤ 255 * 2 ^ (8 * k) := Nat.mul_le_mul_right _ (by omega)
    rw [accU, show 8 * (k + 1) = 8 * k + 8 by omega, Nat.pow_add]
    omega
theorem or_step {a x i : Nat} (ha : a < 2 ^ i) (hx : x < 256) (hi : i + 8 ≤ 64) : IntKind.wrap .u64 (BitVec.ofInt 64 (a : Int) ||| BitVec.ofInt 64 (IntKind.wrap .u64 (IntKind.wrap .u64 (x : Int) * 2 ^ (min (i : Int).toNat 64)))).toNat = ((a + x * 2 ^ i : Nat) : Int) := by
  have hk : 2 ^ i * 2 ^ 8 ≤ 2 ^ 64 := by rw [← Nat.pow_add]; exact Nat.pow_le_pow_right (by decide) hi
  have hi0 : 0 < 2 ^ i := Nat.pow_pos (by decide)
  have hx2 : x * 2 ^ i ≤ 255 * 2 ^ i := Nat.mul_le_mul_right _ (by omega)
  have e : IntKind.wrap .u64 (IntKind.wrap .u64 (x : Int) * 2 ^ (min (i : Int).toNat 64)) = ((x * 2 ^ i : Nat) : Int) := by
    rw [wu_nat (by omega), Int.toNat_natCast, Nat.min_eq_left (by omega), show (2 : Int) ^ i = ((2 ^ i : Nat) : Int) by push_cast; rfl, ← Int.natCast_mul]
    exact wu_nat (by omega)
  rw [e]
  have e3 : (BitVec.ofInt 64 (a : Int) ||| BitVec.ofInt 64 ((x * 2 ^ i : Nat) : Int)).toNat = a + x * 2 ^ i := by
    rw [BitVec.toNat_or, ofInt_toNat (by omega), ofInt_toNat (by omega), Nat.or_comm, Nat.mul_comm, ← Nat.two_pow_add_eq_or_of_lt ha]
    omega
  rw [e3, wu_nat (by omega)]
def byteN (b : List Int) (i : Nat) : Nat := (b.getD i 0).toNat
theorem byteN_eq {b : List Int} (hb : ∀ x ∈ b, Byte x) (i : Nat) : ((byteN b i : Nat) : Int) = b.getD i 0 ∧ byteN b i < 256 := by
  have := getD_byte hb i
  unfold byteN
  omega
theorem accU_8 (f : Nat → Nat) : accU f 8 = 0 + f 0 * 1 + f 1 * 256 + f 2 * 65536 + f 3 * 16777216 + f 4 * 4294967296 + f 5 * 1099511627776 + f 6 * 281474976710656 + f 7 * 72057594037927936 := rfl
theorem accU_w8i {b : List Int} (hb : ∀ x ∈ b, Byte x) (n : Nat) : ((accU (fun k => byteN b (n + k)) 8 : Nat) : Int) = w8i (b.drop n) := by
  unfold w8i
  simp only [getD_drop]
  rw [← (byteN_eq hb (n + 0)).1, ← (byteN_eq hb (n + 1)).1, ← (byteN_eq hb (n + 2)).1, ← (byteN_eq hb (n + 3)).1, ← (byteN_eq hb (n + 4)).1, ← (byteN_eq hb (n + 5)).1, ← (byteN_eq hb (n + 6)).1, ← (byteN_eq hb (n + 7)).1]
  rw [accU_8]
  omega
theorem get_loop {b : List Int} (hb : ∀ x ∈ b, Byte x) {i : Nat} (hi : 8 * i + 8 ≤ b.length) (hl : b.length ≤ 17592186044416) : ∀ (c k : Nat), k + c = 8 → word_Get_L0 (bs b) i ((accU (fun k => byteN b (8 * i + k)) k : Nat) : Int) k = ok (.tup [U (w8i (b.drop (8 * i))), Bo true]) := by
  intro c
  induction c with
  | zero =>
    intro k hk
    have : k = 8 := by omega
    subst this
    rw [word_Get_L0_eq, decide_eq_false (by decide), accU_w8i hb]
    rfl
  | succ c ih =>
    intro k hk
    have hx := byteN_eq hb (8 * i + k)
    rw [word_Get_L0_eq, decide_eq_true (show (k : Int) < 8 by omega), w64 (x := 8 * (i : Int)) (by omega), w64 (x := 8 * (i : Int) + k) (by omega), decide_eq_true (show 0 ≤ 8 * (i : Int) + k by omega), decide_eq_true (show 8 * (i : Int) + k < ((bs b).length : Int) by simp; omega)]
    dsimp only [za, zb, zc, zN, ze, zf, zg, zh, zi, zj, zu, zv, zx, zy, zL, zM, zk, zl, zm, zn, zo, zq, zr, zs, zt, zA, zC, zD, zE, zF, zG, zH, zI, zJ, zK]
    rw [show (8 * (i : Int) + k).toNat = 8 * i + k by omega, bs_getD (by omega), ← hx.1]
    dsimp only [za, zb, zc, zN, ze, zf, zg, zh, zi, zj, zu, zv, zx, zy, zL, zM, zk, zl, zm, zn, zo, zq, zr, zs, zt, zA, zC, zD, zE, zF, zG, zH, zI, zJ, zK]
    rw [w64 (x := 8 * (k : Int)) (by omega), show (8 * (k : Int)) = ((8 * k : Nat) : Int) by push_cast; rfl, wu_nat (by omega), or_step (accU_lt (fun j => (byteN_eq hb (8 * i + j)).2) k) hx.2 (by omega), w64 (x := (k : Int) + 1) (by omega), show okBin .shl ((8 * k : Nat) : Int) = true from by unfold okBin; exact decide_eq_true (by omega)]
    exact ih (k + 1) (by omega)
theorem V_Get {b : List Int} (hb : ∀ x ∈ b, Byte x) {i : Nat} (hi : 8 * i + 8 ≤ b.length) (hl : b.length ≤ 17592186044416) : ev 135 [.pv (.sl 1 (bs b)), .pv (I (i : Int))] [] = ok (.tup [U (w8i (b.drop (8 * i))), Bo true]) := by
  rw [word_Get_eq, bs_len, Int.tdiv_eq_ediv_of_nonneg (by omega), w64 (x := (b.length : Int) / 8) (by omega), decide_eq_false (show ¬ (i : Int) < 0 by omega), decide_eq_false (show ¬ (i : Int) ≥ (b.length : Int) / 8 by omega)]
  exact get_loop hb hi hl 8 0 rfl
def accD (f : Nat → Nat) : Nat → Nat
  | 0 => 0
  | k + 1 => accD f k * 256 + f (7 - k)
theorem accD_lt {f : Nat → Nat} (hf : ∀ k, f k < 256) : ∀ k, accD f k < 256 ^ k
  | 0 => by show 0 < 1; decide
  | k + 1 => by
    have := accD_lt hf k
    have h1 := hf (7 - k)
    rw [accD, Nat.pow_succ]
    omega
theorem accD_8 (f : Nat → Nat) : accD f 8 = (((((((0 * 256 + f 7) * 256 + f 6) * 256 + f 5) * 256 + f 4) * 256 + f 3) * 256 + f 2) * 256 + f 1) * 256 + f 0 := rfl
theorem accD_w8i {b : List Int} (hb : ∀ x ∈ b, Byte x) (n : Nat) : ((accD (fun k => byteN b (n + k)) 8 : Nat) : Int) = w8i (b.drop n) := by
  unfold w8i
  simp only [getD_drop]
  rw [← (byteN_eq hb (n + 0)).1, ← (byteN_eq hb (n + 1)).1, ← (byteN_eq hb (n + 2)).1, ← (byteN_eq hb (n + 3)).1, ← (byteN_eq hb (n + 4)).1, ← (byteN_eq hb (n + 5)).1, ← (byteN_eq hb (n + 6)).1, ← (byteN_eq hb (n + 7)).1]
  rw [accD_8]
  omega
theorem rget_loop {b : List Int} (hb : ∀ x ∈ b, Byte x) {i : Nat} (hi : 8 * i + 8 ≤ b.length) (hl : b.length ≤ 17592186044416) : ∀ (c k : Nat), k + c = 8 → capnpref01_Get_L0 (bs b) i ((accD (fun k => byteN b (8 * i + k)) k : Nat) : Int) (7 - k) = ok (.tup [U (w8i (b.drop (8 * i))), Bo true]) := by
  intro c
  induction c with
  | zero =>
    intro k hk
    have : k = 8 := by omega
    subst this
    rw [capnpref01_Get_L0_eq, decide_eq_false (by decide), accD_w8i hb]
    rfl
  | succ c ih =>
    intro k hk
    have hx := byteN_eq hb (8 * i + (7 - k))
    have ha := accD_lt (f := fun k => byteN b (8 * i + k)) (fun j => (byteN_eq hb (8 * i + j)).2) (k + 1)
    have hp : 256 ^ (k + 1) ≤ 256 ^ 8 := Nat.pow_le_pow_right (by decide) (by omega)
    rw [accD] at ha
    have hq2 : accD (fun k => byteN b (8 * i + k)) k * 256 + byteN b (8 * i + (7 - k)) < 2 ^ 64 := Nat.lt_of_lt_of_le ha (Nat.le_trans hp (by decide))
    have hq : accD (fun k => byteN b (8 * i + k)) k * 256 < 2 ^ 64 := Nat.lt_of_le_of_lt (Nat.le_add_right _ _) hq2
    rw [capnpref01_Get_L0_eq, decide_eq_true (show (7 : Int) - k ≥ 0 by omega), w64 (x := 8 * (i : Int)) (by omega), w64 (x := 8 * (i : Int) + (7 - k)) (by omega), decide_eq_true (show 0 ≤ 8 * (i : Int) + (7 - k) by omega), decide_eq_true (show 8 * (i : Int) + (7 - k) < ((bs b).length : Int) by simp; omega)]
    dsimp only [za, zb, zc, zN, ze, zf, zg, zh, zi, zj, zu, zv, zx, zy, zL, zM, zk, zl, zm, zn, zo, zq, zr, zs, zt, zA, zC, zD, zE, zF, zG, zH, zI, zJ, zK]
    rw [show (8 * (i : Int) + (7 - k)).toNat = 8 * i + (7 - k) by omega, bs_getD (by omega), ← hx.1]
    dsimp only [za, zb, zc, zN, ze, zf, zg, zh, zi, zj, zu, zv, zx, zy, zL, zM, zk, zl, zm, zn, zo, zq, zr, zs, zt, zA, zC, zD, zE, zF, zG, zH, zI, zJ, zK]
    rw [wu_nat (n := byteN b (8 * i + (7 - k))) (by omega), show ((accD (fun k => byteN b (8 * i + k)) k : Nat) : Int) * 256 = ((accD (fun k => byteN b (8 * i + k)) k * 256 : Nat) : Int) by rw [Int.natCast_mul]; rfl, wu_nat (n := accD (fun k => byteN b (8 * i + k)) k * 256) hq, ← Int.natCast_add, wu_nat hq2, w64 (x := (7 : Int) - k - 1) (by omega)]
    have := ih (k + 1) (by omega)
    rw [show (7 : Int) - ((k + 1 : Nat) : Int) = 7 - k - 1 by omega] at this
    exact this
theorem V_rGet {b : List Int} (hb : ∀ x ∈ b, Byte x) {i : Nat} (hi : 8 * i + 8 ≤ b.length) (hl : b.length ≤ 17592186044416) : ev 138 [.pv (.sl 1 (bs b)), .pv (I (i : Int))] [] = ok (.tup [U (w8i (b.drop (8 * i))), Bo true]) := by
  rw [capnpref01_Get_eq, bs_len, Int.tdiv_eq_ediv_of_nonneg (by omega), w64 (x := (b.length : Int) / 8) (by omega), w64 (x := (b.length : Int) / 8 - 1) (by omega), decide_eq_false (show ¬ (i : Int) < 0 by omega), decide_eq_false (show ¬ (i : Int) > (b.length : Int) / 8 - 1 by omega)]
  exact rget_loop hb hi hl 8 0 rfl
theorem wrdN_get : ∀ (n i : Nat) (b : List Int), i < n → (wrdN n b)[i]? = some (w8i (b.drop (8 * i)))
  | 0, i, b, h => by omega
  | n + 1, 0, b, h => by simp [wrdN]
  | n + 1, i + 1, b, h => by
    rw [wrdN, zM, wrdN_get n i (b.drop 8) (by omega), List.drop_drop]
    congr 3
    omega
theorem wrdN_snoc {n i : Nat} (b : List Int) (h : i < n) : (wrdN n b).take (i + 1) = (wrdN n b).take i ++ [w8i (b.drop (8 * i))] := by
  have hl : i < (wrdN n b).length := by rw [wrdN_len]; exact h
  rw [List.take_succ_eq_append_getElem hl]
  have := wrdN_get n i b h
  rw [List.getElem?_eq_getElem hl] at this
  rw [Option.some.inj this]
theorem w8i_pad (b : List Int) (z : Nat) : w8i (b ++ List.replicate z 0) = w8i b := by
  have h : ∀ k, (b ++ List.replicate z 0).getD k 0 = b.getD k 0 := fun k => by
    rw [List.getD_eq_getElem?_getD, List.getD_eq_getElem?_getD]
    by_cases h1 : k < b.length
    · rw [List.getElem?_append_left h1]
    · rw [List.getElem?_append_right (by omega), List.getElem?_replicate, List.getElem?_eq_none (by omega)]
      split <;> rfl
  unfold w8i
  simp only [h]
theorem wrdN_pad : ∀ (n : Nat) (b : List Int) (z : Nat), wrdN n (b ++ List.replicate z 0) = wrdN n b
  | 0, b, z => rfl
  | n + 1, b, z => by
    rw [wrdN, wrdN, w8i_pad, List.drop_append, List.drop_replicate, wrdN_pad n]
theorem words_loop {b : List Int} (hb : ∀ x ∈ b, Byte x) (hl : b.length ≤ 1099511627776) {n : Nat} (hn : 8 * n = b.length) : ∀ (c i : Nat), i + c = n → word_Words_L0 (bs b) (ws ((wrdN n b).take i)) n i = ok (.tup [.sl 1 (ws (wrdN n b)), Bo true]) := by
  intro c
  induction c with
  | zero =>
    intro i hi
    rw [word_Words_L0_eq, decide_eq_false (by omega), List.take_of_length_le (by rw [wrdN_len]; omega)]
    rfl
  | succ c ih =>
    intro i hi
    rw [word_Words_L0_eq, decide_eq_true (show (i : Int) < (n : Int) by omega), V_Get hb (by omega) (by omega)]
    dsimp only [za, zb, zc, zN, ze, zf, zg, zh, zi, zj, zu, zv, zx, zy, zL, zM, zk, zl, zm, zn, zo, zq, zr, zs, zt, zA, zC, zD, zE, zF, zG, zH, zI, zJ, zK]
    rw [roomy_ok (by rw [ws_len, List.length_take]; omega) (by rw [ws_len, List.length_take]; omega), w64 (x := (i : Int) + 1) (by omega), ws_snoc, ← wrdN_snoc b (by omega)]
    exact ih (i + 1) (by omega)
theorem V_Words8 {b : List Int} (hb : ∀ x ∈ b, Byte x) (hl : b.length ≤ 1099511627776) {n : Nat} (hn : 8 * n = b.length) : ev 117 [.pv (.sl 1 (bs b))] [] = ok (.tup [.sl 1 (ws (wrdN n b)), Bo true]) := by
  rw [word_Words_eq, bs_len, Int.tdiv_eq_ediv_of_nonneg (by omega), Int.tmod_eq_emod_of_nonneg (by omega), show (b.length : Int) / 8 = n by omega, w64 (by omega), show ((b.length : Int) % 8 != 0) = false from by simp; omega, decide_eq_true (show 0 ≤ (n : Int) by omega), decide_eq_true (show (n : Int) ≤ 140737488355328 by omega), Int.toNat_natCast, roomy_ok (by omega) (by omega)]
  have := words_loop hb hl hn n 0 (by omega)
  rw [List.take_zero] at this
  exact this
theorem rwords_loop8 {b : List Int} (hb : ∀ x ∈ b, Byte x) (hl : b.length ≤ 1099511627776) {n : Nat} (hn : 8 * n = b.length) : ∀ (c i : Nat), i + c = n → capnpref01_Words_L0 (bs b) (ws ((wrdN n b).take i)) i = some (.ret (.tup 0 (.slu 48 1 (ws (wrdN n b))) [.v .nilIface, Bo true]), []) := by
  intro c
  induction c with
  | zero =>
    intro i hi
    rw [capnpref01_Words_L0_eq, bs_len, Int.tdiv_eq_ediv_of_nonneg (by omega), show (b.length : Int) / 8 = n by omega, w64 (x := (n : Int)) (by omega), decide_eq_false (by omega), List.take_of_length_le (by rw [wrdN_len]; omega)]
    rfl
  | succ c ih =>
    intro i hi
    rw [capnpref01_Words_L0_eq, bs_len, Int.tdiv_eq_ediv_of_nonneg (by omega), show (b.length : Int) / 8 = n by omega, w64 (x := (n : Int)) (by omega), decide_eq_true (show (i : Int) < (n : Int) by omega), V_rGet hb (by omega) (by omega)]
    dsimp only [za, zb, zc, zN, ze, zf, zg, zh, zi, zj, zu, zv, zx, zy, zL, zM, zk, zl, zm, zn, zo, zq, zr, zs, zt, zA, zC, zD, zE, zF, zG, zH, zI, zJ, zK]
    rw [roomy_ok (by rw [ws_len, List.length_take]; omega) (by rw [ws_len, List.length_take]; omega), w64 (x := (i : Int) + 1) (by omega), ws_snoc, ← wrdN_snoc b (by omega)]
    exact ih (i + 1) (by omega)
theorem V_rWords8 {b : List Int} (hb : ∀ x ∈ b, Byte x) (hl : b.length ≤ 1099511627776) {n : Nat} (hn : 8 * n = b.length) : ev 120 [.pv (.sl 1 (bs b))] [] = some (.ret (.tup 0 (.slu 48 1 (ws (wrdN n b))) [.v .nilIface, Bo true]), []) := by
  rw [capnpref01_Words_eq, bs_len, Int.tmod_eq_emod_of_nonneg (by omega), show ((b.length : Int) % 8 != 0) = false from by simp; omega]
  have := rwords_loop8 hb hl hn n 0 (by omega)
  rw [List.take_zero] at this
  exact this
theorem bs_pad (b : List Int) (z : Nat) : bs (b ++ List.replicate z 0) = bs b ++ List.replicate z (U8 0) := by simp [bs]
theorem byte_pad {b : List Int} (hb : ∀ x ∈ b, Byte x) (z : Nat) : ∀ x ∈ b ++ List.replicate z 0, Byte x := fun x hx => by
  rcases List.mem_append.1 hx with h | h
  · exact hb x h
  · rw [(List.mem_replicate.1 h).2]; exact ⟨by decide, by decide⟩
theorem padded_loop {b : List Int} (hb : ∀ x ∈ b, Byte x) {n : Nat} (hn : n ≤ 137438953472) (h8 : b.length ≤ 8 * n) : ∀ (c z : Nat), b.length + z + c = 8 * n → capnpref14_padded_L0 n (bs (b ++ List.replicate z 0)) = some (.ret (.slu 48 1 (ws (wrdN n b))), []) := by
  intro c
  induction c with
  | zero =>
    intro z hz
    rw [capnpref14_padded_L0_eq, w64 (by omega), decide_eq_false (by rw [bs_len, List.length_append, List.length_replicate]; omega), V_rWords8 (byte_pad hb z) (by rw [List.length_append, List.length_replicate]; omega) (n := n) (by rw [List.length_append, List.length_replicate]; omega), wrdN_pad]
    dsimp only [za, zb, zc, zN, ze, zf, zg, zh, zi, zj, zu, zv, zx, zy, zL, zM, zk, zl, zm, zn, zo, zq, zr, zs, zt, zA, zC, zD, zE, zF, zG, zH, zI, zJ, zK]
    rw [show pTupO 0 2 (.tup 0 (.slu 48 1 (ws (wrdN n b))) [.v .nilIface, Bo true]) = some (.slu 48 1 (ws (wrdN n b)), [.v .nilIface, Bo true]) from rfl]
    dsimp only [za, zb, zc, zN, ze, zf, zg, zh, zi, zj, zu, zv, zx, zy, zL, zM, zk, zl, zm, zn, zo, zq, zr, zs, zt, zA, zC, zD, zE, zF, zG, zH, zI, zJ, zK]
    rw [pSlu_v]
    rfl
  | succ c ih =>
    intro z hz
    rw [capnpref14_padded_L0_eq, w64 (by omega), decide_eq_true (show ((bs (b ++ List.replicate z 0)).length : Int) < 8 * (n : Int) by rw [bs_len, List.length_append, List.length_replicate]; omega), roomy_ok (by rw [bs_len, List.length_append, List.length_replicate]; omega) (by rw [bs_len, List.length_append, List.length_replicate]; omega)]
    have := ih (z + 1) (by omega)
    rw [List.replicate_succ', ← List.append_assoc] at this
    have e : bs (b ++ List.replicate z 0 ++ [0]) = bs (b ++ List.replicate z 0) ++ [U8 0] := by simp [bs]
    rw [e] at this
    exact this
theorem V_padded {b : List Int} (hb : ∀ x ∈ b, Byte x) {n : Nat} (hn : n ≤ 137438953472) (h8 : b.length ≤ 8 * n) : ev 100 [.pv (.sl 1 (bs b)), .pv (I (n : Int))] [] = some (.ret (.slu 48 1 (ws (wrdN n b))), []) := by
  rw [capnpref14_padded_eq, bs_len, roomy_ok (by omega) (by omega)]
  have := padded_loop hb hn h8 (8 * n - b.length) 0 (by omega)
  rw [List.replicate_zero, List.append_nil] at this
  exact this
/-- The writer's heap. -/
def wh (W : List Int) : Heap := [[.slu 48 1 (ws W)]]
theorem ws_app (a b : List Int) : ws (a ++ b) = ws a ++ ws b := by simp [ws]
theorem ws_rep (n : Nat) : ws (List.replicate n 0) = List.replicate n (U 0) := by simp [ws]
theorem V_wbytes {W b : List Int} (hb : ∀ x ∈ b, Byte x) {n : Nat} (hn : n ≤ 137438953472) (h8 : b.length ≤ 8 * n) (hW : W.length ≤ 137438953472) : ev 96 [.ptr 0 0, .pv (.sl 1 (bs b)), .pv (I (n : Int))] (wh W) = some (.ret (.pv (.tup [])), wh (W ++ wrdN n b)) := by
  unfold wh
  rw [canonwrite_writer_bytes_eq, w64 (x := 8 * (n : Int)) (by omega), decide_eq_true (show 0 ≤ 8 * (n : Int) by omega), decide_eq_true (show 8 * (n : Int) ≤ 8 * (n : Int) by omega), decide_eq_true (show 8 * (n : Int) ≤ 140737488355328 by omega), show (8 * (n : Int)).toNat = 8 * n by omega, roomy_ok (by omega) (by omega), List.length_replicate, List.drop_replicate, bs_len, List.take_of_length_le (show (bs b).length ≤ 8 * n by rw [bs_len]; exact h8)]
  have := V_Words8 (byte_pad hb (8 * n - b.length)) (by rw [List.length_append, List.length_replicate]; omega) (n := n) (by rw [List.length_append, List.length_replicate]; omega)
  rw [bs_pad, wrdN_pad] at this
  dsimp only [za, zb, zc, zN, ze, zf, zg, zh, zi, zj, zu, zv, zx, zy, zL, zM, zk, zl, zm, zn, zo, zq, zr, zs, zt, zA, zC, zD, zE, zF, zG, zH, zI, zJ, zK]
  rw [this]
  dsimp only [za, zb, zc, zN, ze, zf, zg, zh, zi, zj, zu, zv, zx, zy, zL, zM, zk, zl, zm, zn, zo, zq, zr, zs, zt, zA, zC, zD, zE, zF, zG, zH, zI, zJ, zK]
  rw [ws_len, ws_len, wrdN_len, roomy_ok (by omega) (by omega), ws_app]
  rfl
theorem V_wzeros {W : List Int} {n : Nat} (hn : n ≤ 137438953472) (hW : W.length ≤ 137438953472) : ev 95 [.ptr 0 0, .pv (I (n : Int))] (wh W) = some (.ret (.pv (I (W.length : Int))), wh (W ++ List.replicate n 0)) := by
  unfold wh
  rw [canonwrite_writer_zeros_eq, decide_eq_true (show 0 ≤ (n : Int) by omega), decide_eq_true (show (n : Int) ≤ 140737488355328 by omega), Int.toNat_natCast, ws_len, List.length_replicate, roomy_ok (by omega) (by omega), ws_app, ws_rep]
  rfl
end Go.Proofs.YtfljialckkgacaaGreatDoor.E
set_option linter.unusedVariables false
set_option linter.unusedSimpArgs false
namespace Go.Proofs.YtfljialckkgacaaGreatDoor.E
/-! Placing: pure. -/
def placeP (B : Nd → List Int) (a : Nat) (t : Nd) (W : List Int) : List Int := if t.kind = 0 then W else W.set a (ptrI t ((W.length : Int) - a - 1)) ++ B t
def runP (B : Nd → List Int) : List (Nat × Nd) → List Int → List Int
  | [], W => W
  | (a, t) :: r, W => runP B r (placeP B a t W)
def prsS (i : Nat) : List Nd → List (Nat × Nd)
  | [] => []
  | t :: r => (i, t) :: prsS (i + 1) r
def prsC (a s i : Nat) : List Nd → List (Nat × Nd)
  | [] => []
  | k :: r => prsS (i + a) k.kids ++ prsC a s (i + s) r
def els (a b : Nat) (l : List Nd) : List Int := l.flatMap fun k => wrdN a k.data ++ List.replicate b 0
theorem runP_app (B : Nd → List Int) : ∀ (l m : List (Nat × Nd)) (W : List Int), runP B (l ++ m) W = runP B m (runP B l W)
  | [], m, W => rfl
  | (a, t) :: l, m, W => runP_app B l m _
theorem ptrI_null {t : Nd} (h : t.kind = 0) (o : Int) : ptrI t o = 0 := by unfold ptrI; rw [if_pos h]
theorem runS {B : Nd → List Int} (hB : ∀ t : Nd, t.kind = 0 → B t = []) : ∀ (q : List Nd) (X Y : List Int) (i n : Nat), i = X.length → n = X.length + q.length + Y.length → runP B (prsS i q) (X ++ (List.replicate q.length 0 ++ Y)) = X ++ (ptrW B i n q ++ (Y ++ q.flatMap B))
  | [], X, Y, i, n, hi, hn => by simp [runP, prsS, ptrW]
  | t :: r, X, Y, i, n, hi, hn => by
    rw [prsS, runP, ptrW, List.flatMap_cons, List.length_cons, List.replicate_succ]
    rw [List.length_cons] at hn
    have e : placeP B i t (X ++ (0 :: List.replicate r.length 0 ++ Y)) = (X ++ [ptrI t ((n : Int) - i - 1)]) ++ (List.replicate r.length 0 ++ (Y ++ B t)) := by
      unfold placeP
      by_cases h0 : t.kind = 0
      · rw [if_pos h0, ptrI_null h0, hB t h0]
        simp
      · rw [if_neg h0]
        have hl : (X ++ (0 :: List.replicate r.length 0 ++ Y)).length = n := by simp; omega
        rw [hl, hi, List.set_append_right _ _ (Nat.le_refl _), Nat.sub_self]
        simp
    rw [e, runS hB r (X ++ [ptrI t ((n : Int) - i - 1)]) (Y ++ B t) (i + 1) (n + (B t).length) (by simp [hi]) (by simp; omega)]
    simp only [List.append_assoc, List.singleton_append, List.cons_append, List.nil_append]
theorem els_cons (a b : Nat) (k : Nd) (l : List Nd) : els a b (k :: l) = wrdN a k.data ++ (List.replicate b 0 ++ els a b l) := by simp [els]
theorem els_len (a b : Nat) : ∀ l : List Nd, (els a b l).length = l.length * (a + b)
  | [] => by simp [els]
  | k :: l => by rw [els_cons, List.length_append, List.length_append, wrdN_len, List.length_replicate, els_len a b l, List.length_cons, Nat.add_mul]; omega
theorem runC {B : Nd → List Int} (hB : ∀ t : Nd, t.kind = 0 → B t = []) (a b : Nat) : ∀ (ks : List Nd) (X Y : List Int) (i n : Nat), i = X.length → n = X.length + ks.length * (a + b) + Y.length → (∀ k ∈ ks, k.kids.length ≤ b) → runP B (prsC a (a + b) i ks) (X ++ (els a b ks ++ Y)) = X ++ (asmC B a b i n ks ++ (Y ++ ks.flatMap fun k => k.kids.flatMap B))
  | [], X, Y, i, n, hi, hn, _ => by simp [runP, prsC, asmC, els]
  | k :: r, X, Y, i, n, hi, hn, hk => by
    have hb := hk k List.mem_cons_self
    rw [List.length_cons, Nat.add_mul, Nat.one_mul] at hn
    rw [prsC, runP_app, asmC, List.flatMap_cons, els_cons]
    have e1 : X ++ (wrdN a k.data ++ (List.replicate b 0 ++ els a b r) ++ Y) = (X ++ wrdN a k.data) ++ (List.replicate k.kids.length 0 ++ (List.replicate (b - k.kids.length) 0 ++ (els a b r ++ Y))) := by
      have : List.replicate b (0 : Int) = List.replicate k.kids.length 0 ++ List.replicate (b - k.kids.length) 0 := by rw [List.replicate_append_replicate]; congr 1; omega
      rw [this]
      simp only [List.append_assoc]
    rw [e1, runS hB k.kids (X ++ wrdN a k.data) (List.replicate (b - k.kids.length) 0 ++ (els a b r ++ Y)) (i + a) n (by simp [hi]) (by simp [els_len]; omega)]
    have e2 : X ++ wrdN a k.data ++ (ptrW B (i + a) n k.kids ++ (List.replicate (b - k.kids.length) 0 ++ (els a b r ++ Y) ++ k.kids.flatMap B)) = (X ++ (wrdN a k.data ++ (ptrW B (i + a) n k.kids ++ List.replicate (b - k.kids.length) 0))) ++ (els a b r ++ (Y ++ k.kids.flatMap B)) := by
      simp only [List.append_assoc]
    have r2 := runC hB a b r (X ++ (wrdN a k.data ++ (ptrW B (i + a) n k.kids ++ List.replicate (b - k.kids.length) 0))) (Y ++ k.kids.flatMap B) (i + (a + b)) (n + blen B k.kids) (by simp [hi]; omega) (by unfold blen; simp; omega) (fun x hx => hk x (List.mem_cons_of_mem _ hx))
    rw [e2, r2]
    simp only [List.append_assoc]
/-- Positions count from anywhere. -/
theorem ptrW_shift (B : Nd → List Int) (s : Nat) : ∀ (l : List Nd) (i n : Nat), ptrW B (i + s) (n + s) l = ptrW B i n l
  | [], i, n => rfl
  | t :: r, i, n => by
    rw [ptrW, ptrW]
    have e := ptrW_shift B s r (i + 1) (n + (B t).length)
    rw [show i + 1 + s = i + s + 1 by omega, show n + (B t).length + s = n + s + (B t).length by omega] at e
    rw [e]
    congr 2
    omega
theorem asmC_shift (B : Nd → List Int) (a b s : Nat) : ∀ (l : List Nd) (i n : Nat), asmC B a b (i + s) (n + s) l = asmC B a b i n l
  | [], i, n => rfl
  | k :: r, i, n => by
    rw [asmC, asmC]
    have e := asmC_shift B a b s r (i + (a + b)) (n + blen B k.kids)
    rw [show i + (a + b) + s = i + s + (a + b) by omega, show n + blen B k.kids + s = n + s + blen B k.kids by omega] at e
    rw [e]
    have e2 := ptrW_shift B s k.kids (i + a) n
    rw [show i + a + s = i + s + a by omega] at e2
    rw [e2]
/-- An object's words with null pointers, its pointers and what they refer to. -/
def shW (x : Nd) : List Int :=
  if x.kind = 1 then wrdN (x.data.length / 8) x.data ++ List.replicate x.kids.length 0
  else if x.elem = 7 then encS x.n (uniD x.kids) (uniP x.kids) :: els (uniD x.kids) (uniP x.kids) x.kids
  else if x.elem = 6 then List.replicate x.kids.length 0
  else wrdN (wordsOf x.elem x.n).toNat x.data
def prs (x : Nd) (s : Nat) : List (Nat × Nd) :=
  if x.kind = 1 then prsS (s + x.data.length / 8) x.kids
  else if x.elem = 7 then prsC (uniD x.kids) (uniD x.kids + uniP x.kids) (s + 1) x.kids
  else prsS s x.kids
theorem shW_len {B : Nd → List Int} {x : Nd} (hv : VN x) (h0 : x.kind ≠ 0) : (shW x).length = (obW B x).length := by
  obtain ⟨hs, _⟩ := vn_shp hv
  unfold shW obW
  by_cases h1 : x.kind = 1
  · rw [if_pos h1, if_pos h1]; simp
  · rw [if_neg h1, if_neg h1]
    by_cases h7 : x.elem = 7
    · rw [if_pos h7, if_pos h7, List.length_cons, List.length_cons, els_len, asmC_len _ _ _ _ _ _ (fun k hk => uniP_mem hk)]
    · rw [if_neg h7, if_neg h7]
      by_cases h6 : x.elem = 6
      · rw [if_pos h6, if_pos h6]; simp
      · rw [if_neg h6, if_neg h6]
/-- Placing what an object refers to completes it. -/
theorem runObj {B : Nd → List Int} (hB : ∀ t : Nd, t.kind = 0 → B t = []) {x : Nd} (hv : VN x) (h0 : x.kind ≠ 0) (W : List Int) : runP B (prs x W.length) (W ++ shW x) = W ++ (obW B x ++ (tgt x).flatMap B) := by
  obtain ⟨hs, _⟩ := vn_shp hv
  unfold prs shW obW
  by_cases h1 : x.kind = 1
  · rw [if_pos h1, if_pos h1, if_pos h1]
    have et : tgt x = x.kids := if_neg (fun h => by rw [h1] at h; exact absurd h.1 (by decide))
    have r := runS hB x.kids (W ++ wrdN (x.data.length / 8) x.data) [] (W.length + x.data.length / 8) (W.length + (x.data.length / 8 + x.kids.length)) (by simp) (by simp; omega)
    rw [List.append_nil] at r
    rw [← List.append_assoc, r, et, List.nil_append]
    have e := ptrW_shift B W.length x.kids (x.data.length / 8) (x.data.length / 8 + x.kids.length)
    rw [Nat.add_comm _ W.length, Nat.add_comm _ W.length] at e
    rw [e]
    simp only [List.append_assoc]
  · rw [if_neg h1, if_neg h1, if_neg h1]
    by_cases h7 : x.elem = 7
    · rw [if_pos h7, if_pos h7, if_pos h7]
      have hk2 : x.kind = 2 := by rcases hs with h | h | h <;> omega
      have et : tgt x = x.kids.flatMap Nd.kids := if_pos ⟨hk2, h7⟩
      have r := runC hB (uniD x.kids) (uniP x.kids) x.kids (W ++ [encS x.n (uniD x.kids) (uniP x.kids)]) [] (W.length + 1) (W.length + (1 + x.kids.length * uni x)) (by simp) (by unfold uni; simp; omega) (fun k hk => uniP_mem hk)
      rw [List.append_nil] at r
      rw [et, flat_flat]
      have e1 : W ++ encS x.n (uniD x.kids) (uniP x.kids) :: els (uniD x.kids) (uniP x.kids) x.kids = W ++ [encS x.n (uniD x.kids) (uniP x.kids)] ++ els (uniD x.kids) (uniP x.kids) x.kids := by simp
      rw [e1, r, List.nil_append]
      have e := asmC_shift B (uniD x.kids) (uniP x.kids) W.length x.kids 1 (1 + x.kids.length * uni x)
      rw [Nat.add_comm _ W.length, Nat.add_comm _ W.length] at e
      rw [e]
      simp
    · rw [if_neg h7, if_neg h7, if_neg h7]
      have et : tgt x = x.kids := if_neg (fun h => h7 h.2)
      rw [et]
      by_cases h6 : x.elem = 6
      · rw [if_pos h6, if_pos h6]
        have r := runS hB x.kids W [] W.length (W.length + x.kids.length) rfl (by simp)
        rw [List.append_nil] at r
        rw [r, List.nil_append]
        have e := ptrW_shift B W.length x.kids 0 x.kids.length
        rw [Nat.zero_add, Nat.add_comm] at e
        rw [e]
      · rw [if_neg h6, if_neg h6]
        have hk : x.kids = [] := by
          rcases hs with h | h | h
          · omega
          · omega
          · exact List.length_eq_zero_iff.1 (h.2.2.2.2 (by omega)).1
        rw [hk]
        simp [prsS, runP]
theorem body_null (D : Nat) (t : Nd) (h : t.kind = 0) : body D t = [] := by
  cases D with
  | zero => rfl
  | succ D => rw [body, if_pos h]
/-- What placing a node comes to. -/
theorem placeP_step {D : Nat} {x : Nd} (hv : VN x) (h0 : x.kind ≠ 0) {a : Nat} {W : List Int} (ha : a < W.length) : placeP (body (D + 1)) a x W = runP (body D) (prs x W.length) ((W ++ shW x).set a (ptrI x ((W.length : Int) - a - 1))) := by
  unfold placeP
  rw [if_neg h0, List.set_append_left _ _ ha]
  have r := runObj (body_null D) hv h0 (W.set a (ptrI x ((W.length : Int) - a - 1)))
  rw [List.length_set] at r
  rw [r, body, if_neg h0]
end Go.Proofs.YtfljialckkgacaaGreatDoor.E
set_option linter.unusedVariables false
set_option linter.unusedSimpArgs false
namespace Go.Proofs.YtfljialckkgacaaGreatDoor.E
/-! The program's canonical writer. -/
def Pt0 (off : Int) (d q : Nat) : PV := .agg [I 0, I off, I d, I q, I 0, I 0, Bo false, I 0, U32 0, U32 0]
def Pt1 (off e c : Int) : PV := .agg [I 1, I off, I 0, I 0, I e, I c, Bo false, I 0, U32 0, U32 0]
theorem V_wstruct {W d : List Int} {ks : List Nd} (hb : ∀ x ∈ d, Byte x) (h8 : d.length % 8 = 0) (hd : d.length ≤ 524280) (hk : ks.length ≤ 65535) (hW : W.length ≤ 268435456) (e n : Int) : ev 76 [.ptr 0 0, .pv (.agg [I 1, I e, I n, .sl 1 (bs d), .sl 5 (pvs ks)])] (wh W) =
    some (.ret (.pv (.tup [Pt0 0 (d.length / 8) ks.length, .sl 1 [I ((W.length + d.length / 8 : Nat) : Int)]])), wh (W ++ (wrdN (d.length / 8) d ++ List.replicate ks.length 0))) := by
  have h1 := V_wbytes (W := W) hb (n := d.length / 8) (by omega) (by omega) (by omega)
  have h2 := V_wzeros (W := W ++ wrdN (d.length / 8) d) (n := ks.length) (by omega) (by simp; omega)
  unfold wh at h1 h2 ⊢
  rw [canonwrite_writer_structure_eq, bs_len, pvs_len, Int.tdiv_eq_ediv_of_nonneg (by omega), show (d.length : Int) / 8 = ((d.length / 8 : Nat) : Int) by omega, w64 (by omega), h1]
  dsimp only [za, zb, zc, zN, ze, zf, zg, zh, zi, zj, zu, zv, zx, zy, zL, zM, zk, zl, zm, zn, zo, zq, zr, zs, zt, zA, zC, zD, zE, zF, zG, zH, zI, zJ, zK]
  rw [pSlu_v]
  dsimp only [za, zb, zc, zN, ze, zf, zg, zh, zi, zj, zu, zv, zx, zy, zL, zM, zk, zl, zm, zn, zo, zq, zr, zs, zt, zA, zC, zD, zE, zF, zG, zH, zI, zJ, zK]
  rw [h2]
  dsimp only [za, zb, zc, zN, ze, zf, zg, zh, zi, zj, zu, zv, zx, zy, zL, zM, zk, zl, zm, zn, zo, zq, zr, zs, zt, zA, zC, zD, zE, zF, zG, zH, zI, zJ, zK]
  rw [List.length_append, wrdN_len, List.append_assoc]
  rfl
theorem V_wlist6 {W : List Int} {ks : List Nd} {n : Nat} (hn : n ≤ 268435456) (hW : W.length ≤ 268435456) (d : List PV) : ev 75 [.ptr 0 0, .pv (.agg [I 2, I 6, I (n : Int), .sl 1 d, .sl 5 (pvs ks)])] (wh W) =
    some (.ret (.pv (.tup [Pt1 0 6 n, .sl 1 [I (W.length : Int)]])), wh (W ++ List.replicate n 0)) := by
  have h2 := V_wzeros (W := W) (n := n) (by omega) (by omega)
  unfold wh at h2 ⊢
  rw [canonwrite_writer_list_eq, show ((6 : Int) == 6) = true from rfl, h2]
  rfl
theorem V_wlist {W d : List Int} {ks : List Nd} {e n : Int} (he : 0 ≤ e ∧ e < 6) (hn : 0 ≤ n ∧ n ≤ 536870911) (hb : ∀ x ∈ d, Byte x) (hl : (d.length : Int) = bytesN e n) (hw : wordsOf e n ≤ 268435456) (hW : W.length ≤ 268435456) (hO : ev 89 [.pv (.agg [I 2, I e, I n, .sl 1 (bs d), .sl 5 (pvs ks)])] [] = ok (I (wordsOf e n))) :
    ev 75 [.ptr 0 0, .pv (.agg [I 2, I e, I n, .sl 1 (bs d), .sl 5 (pvs ks)])] (wh W) =
    some (.ret (.pv (.tup [Pt1 0 e n, .sl 1 []])), wh (W ++ wrdN (wordsOf e n).toNat d)) := by
  have hr := wordsOf_range (e := e) hn
  have hbw := bytes_words he hn
  have h1 := V_wbytes (W := W) hb (n := (wordsOf e n).toNat) (by omega) (by omega) (by omega)
  rw [show (((wordsOf e n).toNat : Nat) : Int) = wordsOf e n by omega] at h1
  unfold wh at h1 ⊢
  rw [canonwrite_writer_list_eq, beq_eq_false_iff_ne.2 (show e ≠ 6 by omega), hO]
  dsimp only [za, zb, zc, zN, ze, zf, zg, zh, zi, zj, zu, zv, zx, zy, zL, zM, zk, zl, zm, zn, zo, zq, zr, zs, zt, zA, zC, zD, zE, zF, zG, zH, zI, zJ, zK]
  rw [h1]
  rfl
theorem comp_loop {W0 : List Int} {ks : List Nd} {a b : Nat} (ha : a ≤ 65535) (hb : b ≤ 65535) (hk : ks.length ≤ 536870911) (hs : ∀ k ∈ ks, (∀ x ∈ k.data, Byte x) ∧ k.data.length ≤ 8 * a) (hl : W0.length + ks.length * (a + b) ≤ 268435456) (i7 i8 i9 : Int) (xs10 xs11 : List PV) (i12 i13 i14 i15 i16 i17 : Int) (b18 : Bool) (i19 i20 i21 : Int) : ∀ (c i : Nat), i + c = ks.length →
    canonwrite_writer_composite_L0 (I a) (I b) (((List.range i).map fun j => I ((W0.length + j * (a + b) + a : Nat) : Int))) (pvs ks) ks.length i (ws (W0 ++ els a b (ks.take i))) i7 i8 i9 xs10 xs11 i12 i13 i14 i15 i16 i17 b18 i19 i20 i21 =
      some (.ret (.pv (.tup [Pt1 0 i8 (IntKind.wrap .i64 (i9 * ((a + b : Nat) : Int))), .sl 1 ((List.range ks.length).map fun j => I ((W0.length + j * (a + b) + a : Nat) : Int))])), wh (W0 ++ els a b ks)) := by
  intro c
  induction c with
  | zero =>
    intro i hi
    rw [canonwrite_writer_composite_L0_eq, decide_eq_false (by omega), List.take_of_length_le (by omega), show i = ks.length by omega]
    dsimp only [za, zb, zc, zN, ze, zf, zg, zh, zi, zj, zu, zv, zx, zy, zL, zM, zk, zl, zm, zn, zo, zq, zr, zs, zt, zA, zC, zD, zE, zF, zG, zH, zI, zJ, zK]
    rw [w64 (x := (a : Int) + b) (by omega), show (a : Int) + b = ((a + b : Nat) : Int) by push_cast; rfl]
    rfl
  | succ c ih =>
    intro i hi
    have hil : i < ks.length := by omega
    obtain ⟨s1, s2⟩ := hs _ (List.getElem_mem hil)
    have hmul : i * (a + b) + (a + b) ≤ ks.length * (a + b) := by
      have := Nat.mul_le_mul_right (a + b) (show i + 1 ≤ ks.length by omega)
      rw [Nat.add_mul, Nat.one_mul] at this
      exact this
    have hel : (els a b (ks.take i)).length = i * (a + b) := by rw [els_len, List.length_take, Nat.min_eq_left (by omega)]
    have h1 := V_wbytes (W := W0 ++ els a b (ks.take i)) s1 (n := a) (by omega) s2 (by rw [List.length_append, hel]; omega)
    have h2 := V_wzeros (W := W0 ++ els a b (ks.take i) ++ wrdN a ks[i].data) (n := b) (by omega) (by rw [List.length_append, List.length_append, hel, wrdN_len]; omega)
    unfold wh at h1 h2
    rw [canonwrite_writer_composite_L0_eq, decide_eq_true (show (i : Int) < (ks.length : Int) by omega), decide_eq_true (show 0 ≤ (i : Int) by omega), decide_eq_true (show (i : Int) < ((pvs ks).length : Int) by simp; omega)]
    dsimp only [za, zb, zc, zN, ze, zf, zg, zh, zi, zj, zu, zv, zx, zy, zL, zM, zk, zl, zm, zn, zo, zq, zr, zs, zt, zA, zC, zD, zE, zF, zG, zH, zI, zJ, zK]
    rw [Int.toNat_natCast, pvs_get hil]
    dsimp only [za, zb, zc, zN, ze, zf, zg, zh, zi, zj, zu, zv, zx, zy, zL, zM, zk, zl, zm, zn, zo, zq, zr, zs, zt, zA, zC, zD, zE, zF, zG, zH, zI, zJ, zK]
    rw [nd_five, nd_cells, show (ks[i].c.drop 0).take 5 = ks[i].c from rfl]
    dsimp only [Nd.c, za, zb, zc, zN, ze, zf, zg, zh, zi, zj, zu, zv, zx, zy, zL, zM, zk, zl, zm, zn, zo, zq, zr, zs, zt, zA, zC, zD, zE, zF, zG, zH, zI, zJ, zK]
    rw [h1]
    dsimp only [za, zb, zc, zN, ze, zf, zg, zh, zi, zj, zu, zv, zx, zy, zL, zM, zk, zl, zm, zn, zo, zq, zr, zs, zt, zA, zC, zD, zE, zF, zG, zH, zI, zJ, zK]
    rw [pSlu_v]
    dsimp only [za, zb, zc, zN, ze, zf, zg, zh, zi, zj, zu, zv, zx, zy, zL, zM, zk, zl, zm, zn, zo, zq, zr, zs, zt, zA, zC, zD, zE, zF, zG, zH, zI, zJ, zK]
    rw [h2]
    dsimp only [za, zb, zc, zN, ze, zf, zg, zh, zi, zj, zu, zv, zx, zy, zL, zM, zk, zl, zm, zn, zo, zq, zr, zs, zt, zA, zC, zD, zE, zF, zG, zH, zI, zJ, zK]
    rw [pSlu_v]
    dsimp only [za, zb, zc, zN, ze, zf, zg, zh, zi, zj, zu, zv, zx, zy, zL, zM, zk, zl, zm, zn, zo, zq, zr, zs, zt, zA, zC, zD, zE, zF, zG, zH, zI, zJ, zK]
    rw [roomy_ok (by simp; omega) (by simp; omega), w64 (x := (i : Int) + 1) (by omega)]
    have e1 : (List.range i).map (fun j => I ((W0.length + j * (a + b) + a : Nat) : Int)) ++ [I ((W0 ++ els a b (ks.take i) ++ wrdN a ks[i].data).length : Int)] = (List.range (i + 1)).map fun j => I ((W0.length + j * (a + b) + a : Nat) : Int) := by
      rw [List.range_succ, List.map_append, List.map_singleton, List.length_append, List.length_append, hel, wrdN_len]
    have e2 : W0 ++ els a b (ks.take i) ++ wrdN a ks[i].data ++ List.replicate b 0 = W0 ++ els a b (ks.take (i + 1)) := by
      rw [take_snoc hil]
      unfold els
      rw [List.flatMap_append, List.flatMap_singleton]
      simp only [List.append_assoc]
    have := ih (i + 1) (by omega)
    rw [← e1, ← e2] at this
    exact this
theorem V_wcomp {W : List Int} {ks : List Nd} {n : Int} (hn : 0 ≤ n ∧ n ≤ 536870911) (hk : (ks.length : Int) = n) (hs : ∀ k ∈ ks, (∀ x ∈ k.data, Byte x) ∧ k.data.length % 8 = 0 ∧ k.data.length ≤ 524280 ∧ k.kids.length ≤ 65535) (hl : W.length + 1 + ks.length * (uniD ks + uniP ks) ≤ 268435456) :
    ev 77 [.ptr 0 0, .pv (.agg [I 2, I 7, I n, .sl 1 [], .sl 5 (pvs ks)])] (wh W) =
    some (.ret (.pv (.tup [Pt1 0 7 (n * ((uniD ks + uniP ks : Nat) : Int)), .sl 1 ((List.range ks.length).map fun j => I ((W.length + 1 + j * (uniD ks + uniP ks) + uniD ks : Nat) : Int))])), wh (W ++ (encS n (uniD ks) (uniP ks) :: els (uniD ks) (uniP ks) ks))) := by
  have hud : uniD ks ≤ 65535 := uniD_le fun x hx => by have := (hs x hx).2.2.1; omega
  have huq : uniP ks ≤ 65535 := uniP_le fun x hx => (hs x hx).2.2.2
  have hU := V_Uniform (x := .mk 2 7 n [] ks) (by show ks.length ≤ _; omega) (fun y hy => by have := (hs y hy).2.2.1; omega)
  have hE := V_Encode0 (off := n) (d := uniD ks) (q := uniP ks) (by omega) hud huq
  have hu : ev 97 [.pv (.agg [I 2, I 7, I n, .sl 1 [], .sl 5 (pvs ks)])] [] = ok (.tup [I (uniD ks : Nat), I (uniP ks : Nat)]) := hU
  have hL := comp_loop (W0 := W ++ [encS n (uniD ks) (uniP ks)]) (ks := ks) hud huq (by omega) (fun k hk => ⟨(hs k hk).1, by have := uniD_mem hk; have := (hs k hk).2.1; omega⟩) (by rw [List.length_append, List.length_singleton]; omega) 2 7 n [] (pvs ks) 0 0 0 0 0 0 false 0 0 0 ks.length 0 (by omega)
  unfold wh at hL ⊢
  rw [canonwrite_writer_composite_eq, hu]
  dsimp only [za, zb, zc, zN, ze, zf, zg, zh, zi, zj, zu, zv, zx, zy, zL, zM, zk, zl, zm, zn, zo, zq, zr, zs, zt, zA, zC, zD, zE, zF, zG, zH, zI, zJ, zK]
  rw [hE]
  dsimp only [za, zb, zc, zN, ze, zf, zg, zh, zi, zj, zu, zv, zx, zy, zL, zM, zk, zl, zm, zn, zo, zq, zr, zs, zt, zA, zC, zD, zE, zF, zG, zH, zI, zJ, zK]
  rw [ws_len, roomy_ok (by omega) (by omega), pvs_len, ws_snoc]
  have hL' := hL
  rw [List.take_zero, show els (uniD ks) (uniP ks) [] = [] from rfl, List.append_nil] at hL'
  refine Eq.trans (show _ = _ from hL') ?_
  have e1 : W ++ [encS n (uniD ks) (uniP ks)] ++ els (uniD ks) (uniP ks) ks = W ++ (encS n (uniD ks) (uniP ks) :: els (uniD ks) (uniP ks) ks) := by simp
  have hnu : n * ((uniD ks + uniP ks : Nat) : Int) = ((ks.length * (uniD ks + uniP ks) : Nat) : Int) := by rw [← hk]; push_cast; rfl
  rw [e1, List.length_append, List.length_singleton, w64 (by rw [hnu]; omega)]
end Go.Proofs.YtfljialckkgacaaGreatDoor.E
set_option linter.unusedVariables false
set_option linter.unusedSimpArgs false
namespace Go.Proofs.YtfljialckkgacaaGreatDoor.E
/-! The program writes the canonical form. -/
theorem body_len' {D : Nat} {x : Nd} (h : Ok D x) : ((body D x).length : Int) = nodSz D x := body_len D h.vn h.dp
theorem placeP_len {D : Nat} {t : Nd} (h : Ok D t) (a : Nat) (W : List Int) : ((placeP (body D) a t W).length : Int) = W.length + nodSz D t := by
  unfold placeP
  split
  · rename_i h0
    rw [nodSz_null h.vn h0, Int.add_zero]
  · rw [List.length_append, List.length_set, ← body_len' h]
    push_cast
    rfl
theorem runP_len {D : Nat} : ∀ (l : List (Nat × Nd)) (W : List Int), (∀ p ∈ l, Ok D p.2) → ((runP (body D) l W).length : Int) = W.length + sumL (l.map fun p => nodSz D p.2)
  | [], W, _ => by simp [runP, sumL_nil]
  | (a, t) :: r, W, h => by
    rw [runP, runP_len r _ (fun p hp => h p (List.mem_cons_of_mem _ hp)), placeP_len (h (a, t) List.mem_cons_self), List.map_cons, sumL_cons]
    dsimp only
    omega
theorem prsS_mem : ∀ (q : List Nd) (i : Nat) (p : Nat × Nd), p ∈ prsS i q → p.2 ∈ q
  | [], i, p, h => by cases h
  | t :: r, i, p, h => by
    rw [prsS] at h
    rcases List.mem_cons.1 h with rfl | h
    · exact List.mem_cons_self
    · exact List.mem_cons_of_mem _ (prsS_mem r _ p h)
theorem prsS_sum (f : Nd → Int) : ∀ (q : List Nd) (i : Nat), sumL ((prsS i q).map fun p => f p.2) = sumL (q.map f)
  | [], i => rfl
  | t :: r, i => by rw [prsS, List.map_cons, List.map_cons, sumL_cons, sumL_cons, prsS_sum f r]
theorem ws_set (L : List Int) (i : Nat) (w : Int) : (ws L).set i (U w) = ws (L.set i w) := by simp [ws, List.map_set]
/-- A node placed by the program. -/
def Plc (D : Nat) (t : Nd) : Prop := ∀ (W : List Int) (a : Nat), a < W.length → (W.length : Int) + nodSz D t ≤ 268435456 → ev 54 [.ptr 0 0, .pv (I (a : Int)), .pv t.x] (wh W) = some (.ret (.pv (.tup [])), wh (placeP (body D) a t W))
theorem plc_null {D : Nat} {t : Nd} (h : t.kind = 0) : Plc D t := fun W a ha hl => by
  unfold wh placeP
  rw [Nd.x, canonwrite_writer_place_eq, beq_iff_eq.2 h, if_pos h]
  rfl
section
variable {D : Nat} {q : List Nd} (hq : q.length ≤ 268435456) (hP : ∀ t ∈ q, Plc D t) (hO : ∀ t ∈ q, Ok D t) (xs0 : List PV) (p2 : PV) (i3 i4 i9 i10 i11 : Int) (xs12 xs13 : List PV) (p14 : PV) (i15 : Int) (p16 p17 p18 p19 p20 p21 p22 p23 : PV) {f : Nat}
include hq hP hO
theorem L3_ok : ∀ (c j : Nat) (W : List Int), j + c = q.length → f + q.length ≤ W.length → (W.length : Int) + sumL ((q.drop j).map (nodSz D)) ≤ 268435456 →
    canonwrite_writer_place_L3 xs0 (I (f : Int)) p2 i3 i4 (.sl 5 (pvs q)) q.length j (ws W) i9 i10 i11 xs12 xs13 p14 i15 p16 p17 p18 p19 p20 p21 p22 p23 = canonwrite_writer_place_L1 xs0 p2 i3 (IntKind.wrap .i64 (i4 + 1)) (ws (runP (body D) (prsS (f + j) (q.drop j)) W)) i9 i10 i11 xs12 xs13 p14 i15 p16 p17 p18 p19 p20 p21 p22 p23 := by
  intro c
  induction c with
  | zero =>
    intro j W hj hf hl
    rw [canonwrite_writer_place_L3_eq, decide_eq_false (by omega), List.drop_eq_nil_of_le (by omega)]
    rfl
  | succ c ih =>
    intro j W hj hf hl
    have hjl : j < q.length := by omega
    have ho := hO _ (List.getElem_mem hjl)
    rw [drop_sum hjl] at hl
    have hnn := nodSz_nn D ho.vn
    have hr : 0 ≤ sumL ((q.drop (j + 1)).map (nodSz D)) := sumL_nn fun y hy => by
      obtain ⟨t, ht, rfl⟩ := List.mem_map.1 hy
      exact nodSz_nn D (hO t (List.mem_of_mem_drop ht)).vn
    have h1 := hP _ (List.getElem_mem hjl) W (f + j) (by omega) (by omega)
    have hlen := placeP_len ho (f + j) W
    unfold wh at h1
    dsimp only [Nd.x] at h1
    rw [canonwrite_writer_place_L3_eq, decide_eq_true (show (j : Int) < (q.length : Int) by omega)]
    dsimp only [za, zb, zc, zN, ze, zf, zg, zh, zi, zj, zu, zv, zx, zy, zL, zM, zk, zl, zm, zn, zo, zq, zr, zs, zt, zA, zC, zD, zE, zF, zG, zH, zI, zJ, zK]
    rw [decide_eq_true (show (5 : Nat) = 5 from rfl), decide_eq_true (show 0 ≤ (j : Int) by omega), decide_eq_true (show (j : Int) < ((pvs q).length : Int) by simp; omega)]
    dsimp only [za, zb, zc, zN, ze, zf, zg, zh, zi, zj, zu, zv, zx, zy, zL, zM, zk, zl, zm, zn, zo, zq, zr, zs, zt, zA, zC, zD, zE, zF, zG, zH, zI, zJ, zK]
    rw [Int.toNat_natCast, pvs_get hjl]
    dsimp only [za, zb, zc, zN, ze, zf, zg, zh, zi, zj, zu, zv, zx, zy, zL, zM, zk, zl, zm, zn, zo, zq, zr, zs, zt, zA, zC, zD, zE, zF, zG, zH, zI, zJ, zK]
    rw [nd_five, nd_cells, show (q[j].c.drop 0).take 5 = q[j].c from rfl]
    dsimp only [Nd.c, za, zb, zc, zN, ze, zf, zg, zh, zi, zj, zu, zv, zx, zy, zL, zM, zk, zl, zm, zn, zo, zq, zr, zs, zt, zA, zC, zD, zE, zF, zG, zH, zI, zJ, zK]
    rw [w64 (x := (f : Int) + j) (by omega), show (f : Int) + j = ((f + j : Nat) : Int) by push_cast; rfl, h1]
    dsimp only [za, zb, zc, zN, ze, zf, zg, zh, zi, zj, zu, zv, zx, zy, zL, zM, zk, zl, zm, zn, zo, zq, zr, zs, zt, zA, zC, zD, zE, zF, zG, zH, zI, zJ, zK]
    rw [pSlu_v, w64 (x := (j : Int) + 1) (by omega)]
    dsimp only [za, zb, zc, zN, ze, zf, zg, zh, zi, zj, zu, zv, zx, zy, zL, zM, zk, zl, zm, zn, zo, zq, zr, zs, zt, zA, zC, zD, zE, zF, zG, zH, zI, zJ, zK]
    have := ih (j + 1) (placeP (body D) (f + j) q[j] W) (by omega) (by omega) (by omega)
    rw [List.drop_eq_getElem_cons hjl, prsS, runP]
    exact this
theorem L3v_ok : ∀ (c j : Nat) (W : List Int), j + c = q.length → f + q.length ≤ W.length → (W.length : Int) + sumL ((q.drop j).map (nodSz D)) ≤ 268435456 →
    canonwrite_writer_place_L3v1 xs0 (I (f : Int)) p2 i3 i4 (.sl 5 (pvs q)) q.length j (ws W) i9 i10 i11 xs12 xs13 p14 i15 p16 p17 p18 p19 p20 p21 p22 p23 = canonwrite_writer_place_L1v1 xs0 p2 i3 (IntKind.wrap .i64 (i4 + 1)) (ws (runP (body D) (prsS (f + j) (q.drop j)) W)) i9 i10 i11 xs12 xs13 p14 i15 p16 p17 p18 p19 p20 p21 p22 p23 := by
  intro c
  induction c with
  | zero =>
    intro j W hj hf hl
    rw [canonwrite_writer_place_L3v1_eq, decide_eq_false (by omega), List.drop_eq_nil_of_le (by omega)]
    rfl
  | succ c ih =>
    intro j W hj hf hl
    have hjl : j < q.length := by omega
    have ho := hO _ (List.getElem_mem hjl)
    rw [drop_sum hjl] at hl
    have hnn := nodSz_nn D ho.vn
    have hr : 0 ≤ sumL ((q.drop (j + 1)).map (nodSz D)) := sumL_nn fun y hy => by
      obtain ⟨t, ht, rfl⟩ := List.mem_map.1 hy
      exact nodSz_nn D (hO t (List.mem_of_mem_drop ht)).vn
    have h1 := hP _ (List.getElem_mem hjl) W (f + j) (by omega) (by omega)
    have hlen := placeP_len ho (f + j) W
    unfold wh at h1
    dsimp only [Nd.x] at h1
    rw [canonwrite_writer_place_L3v1_eq, decide_eq_true (show (j : Int) < (q.length : Int) by omega)]
    dsimp only [za, zb, zc, zN, ze, zf, zg, zh, zi, zj, zu, zv, zx, zy, zL, zM, zk, zl, zm, zn, zo, zq, zr, zs, zt, zA, zC, zD, zE, zF, zG, zH, zI, zJ, zK]
    rw [decide_eq_true (show (5 : Nat) = 5 from rfl), decide_eq_true (show 0 ≤ (j : Int) by omega), decide_eq_true (show (j : Int) < ((pvs q).length : Int) by simp; omega)]
    dsimp only [za, zb, zc, zN, ze, zf, zg, zh, zi, zj, zu, zv, zx, zy, zL, zM, zk, zl, zm, zn, zo, zq, zr, zs, zt, zA, zC, zD, zE, zF, zG, zH, zI, zJ, zK]
    rw [Int.toNat_natCast, pvs_get hjl]
    dsimp only [za, zb, zc, zN, ze, zf, zg, zh, zi, zj, zu, zv, zx, zy, zL, zM, zk, zl, zm, zn, zo, zq, zr, zs, zt, zA, zC, zD, zE, zF, zG, zH, zI, zJ, zK]
    rw [nd_five, nd_cells, show (q[j].c.drop 0).take 5 = q[j].c from rfl]
    dsimp only [Nd.c, za, zb, zc, zN, ze, zf, zg, zh, zi, zj, zu, zv, zx, zy, zL, zM, zk, zl, zm, zn, zo, zq, zr, zs, zt, zA, zC, zD, zE, zF, zG, zH, zI, zJ, zK]
    rw [w64 (x := (f : Int) + j) (by omega), show (f : Int) + j = ((f + j : Nat) : Int) by push_cast; rfl, h1]
    dsimp only [za, zb, zc, zN, ze, zf, zg, zh, zi, zj, zu, zv, zx, zy, zL, zM, zk, zl, zm, zn, zo, zq, zr, zs, zt, zA, zC, zD, zE, zF, zG, zH, zI, zJ, zK]
    rw [pSlu_v, w64 (x := (j : Int) + 1) (by omega)]
    dsimp only [za, zb, zc, zN, ze, zf, zg, zh, zi, zj, zu, zv, zx, zy, zL, zM, zk, zl, zm, zn, zo, zq, zr, zs, zt, zA, zC, zD, zE, zF, zG, zH, zI, zJ, zK]
    have := ih (j + 1) (placeP (body D) (f + j) q[j] W) (by omega) (by omega) (by omega)
    rw [List.drop_eq_getElem_cons hjl, prsS, runP]
    exact this
end
/-- One owner. -/
theorem L1_one {D : Nat} {x : Nd} (hq : x.kids.length ≤ 268435456) (hP : ∀ t ∈ x.kids, Plc D t) (hO : ∀ t ∈ x.kids, Ok D t) (i9 i10 i11 : Int) (xs12 xs13 : List PV) (p14 : PV) (i15 : Int) (p16 p17 p18 p19 p20 p21 p22 p23 : PV) {f : Nat} {W : List Int} (hf : f + x.kids.length ≤ W.length) (hl : (W.length : Int) + sumL (x.kids.map (nodSz D)) ≤ 268435456) :
    canonwrite_writer_place_L1 [.agg [I x.kind, I x.elem, I x.n, .sl 1 (bs x.data), .sl 5 (pvs x.kids)]] (.sl 1 [I (f : Int)]) 1 0 (ws W) i9 i10 i11 xs12 xs13 p14 i15 p16 p17 p18 p19 p20 p21 p22 p23 = some (.ret (.pv (.tup [])), wh (runP (body D) (prsS f x.kids) W)) := by
  have h := L3_ok hq hP hO [.agg [I x.kind, I x.elem, I x.n, .sl 1 (bs x.data), .sl 5 (pvs x.kids)]] (.sl 1 [I (f : Int)]) 1 0 i9 i10 i11 xs12 xs13 p14 i15 p16 p17 p18 p19 p20 p21 p22 p23 (f := f) x.kids.length 0 W (by omega) hf (by rw [List.drop_zero]; exact hl)
  rw [canonwrite_writer_place_L1_eq, decide_eq_true (show (0 : Int) < 1 by decide)]
  dsimp only [za, zb, zc, zN, ze, zf, zg, zh, zi, zj, zu, zv, zx, zy, zL, zM, zk, zl, zm, zn, zo, zq, zr, zs, zt, zA, zC, zD, zE, zF, zG, zH, zI, zJ, zK]
  rw [decide_eq_true (show (1 : Nat) = 1 from rfl), decide_eq_true (show (0 : Int) ≤ 0 by decide), decide_eq_true (show (0 : Int) < (([I (f : Int)] : List PV).length : Int) by simp), decide_eq_true (show (0 : Int) < (([.agg [I x.kind, I x.elem, I x.n, .sl 1 (bs x.data), .sl 5 (pvs x.kids)]] : List PV).length : Int) by simp), show (0 : Int).toNat = 0 from rfl]
  dsimp only [za, zb, zc, zN, ze, zf, zg, zh, zi, zj, zu, zv, zx, zy, zL, zM, zk, zl, zm, zn, zo, zq, zr, zs, zt, zA, zC, zD, zE, zF, zG, zH, zI, zJ, zK]
  rw [pvs_len]
  refine (show _ = _ from h).trans ?_
  rw [canonwrite_writer_place_L1_eq, show IntKind.wrap .i64 (0 + 1) = 1 from rfl, decide_eq_false (by decide), List.drop_zero, Nat.add_zero]
  rfl
/-- The owners of a composite list. -/
theorem L1_comp {D : Nat} {ks : List Nd} {a b s : Nat} (hq : ks.length ≤ 536870911) (hk : ∀ k ∈ ks, k.kids.length ≤ b) (hP : ∀ k ∈ ks, ∀ t ∈ k.kids, Plc D t) (hO : ∀ k ∈ ks, ∀ t ∈ k.kids, Ok D t) (i9 i10 i11 : Int) (xs12 xs13 : List PV) (p14 : PV) (i15 : Int) (p16 p17 p18 p19 p20 p21 p22 p23 : PV) (hb : b ≤ 65535) : ∀ (c i : Nat) (W : List Int), i + c = ks.length → s + ks.length * (a + b) ≤ W.length → (W.length : Int) + sumL ((ks.drop i).map fun k => sumL (k.kids.map (nodSz D))) ≤ 268435456 →
    canonwrite_writer_place_L1v1 (pvs ks) (.sl 1 ((List.range ks.length).map fun j => I ((s + j * (a + b) + a : Nat) : Int))) ks.length i (ws W) i9 i10 i11 xs12 xs13 p14 i15 p16 p17 p18 p19 p20 p21 p22 p23 = some (.ret (.pv (.tup [])), wh (runP (body D) (prsC a (a + b) (s + i * (a + b)) (ks.drop i)) W)) := by
  intro c
  induction c with
  | zero =>
    intro i W hi hs hl
    rw [canonwrite_writer_place_L1v1_eq, decide_eq_false (by omega), List.drop_eq_nil_of_le (by omega)]
    rfl
  | succ c ih =>
    intro i W hi hs hl
    have hil : i < ks.length := by omega
    have hmem := List.getElem_mem hil
    have hmul : i * (a + b) + (a + b) ≤ ks.length * (a + b) := by
      have := Nat.mul_le_mul_right (a + b) (show i + 1 ≤ ks.length by omega)
      rw [Nat.add_mul, Nat.one_mul] at this
      exact this
    have nn : ∀ k ∈ ks, 0 ≤ sumL (k.kids.map (nodSz D)) := fun k hk => sumL_nn fun y hy => by
      obtain ⟨t, ht, rfl⟩ := List.mem_map.1 hy
      exact nodSz_nn D (hO k hk t ht).vn
    rw [drop_sum hil] at hl
    have hr : 0 ≤ sumL ((ks.drop (i + 1)).map fun k => sumL (k.kids.map (nodSz D))) := sumL_nn fun y hy => by
      obtain ⟨t, ht, rfl⟩ := List.mem_map.1 hy
      exact nn t (List.mem_of_mem_drop ht)
    have hkb := hk _ hmem
    have h := L3v_ok (q := ks[i].kids) (by omega) (hP _ hmem) (hO _ hmem) (pvs ks) (.sl 1 ((List.range ks.length).map fun j => I ((s + j * (a + b) + a : Nat) : Int))) ks.length i i9 i10 i11 xs12 xs13 p14 i15 p16 p17 p18 p19 p20 p21 p22 p23 (f := s + i * (a + b) + a) ks[i].kids.length 0 W (by omega) (by omega) (by rw [List.drop_zero]; omega)
    rw [canonwrite_writer_place_L1v1_eq, decide_eq_true (show (i : Int) < (ks.length : Int) by omega)]
    dsimp only [za, zb, zc, zN, ze, zf, zg, zh, zi, zj, zu, zv, zx, zy, zL, zM, zk, zl, zm, zn, zo, zq, zr, zs, zt, zA, zC, zD, zE, zF, zG, zH, zI, zJ, zK]
    rw [decide_eq_true (show (1 : Nat) = 1 from rfl), decide_eq_true (show (0 : Int) ≤ i by omega), decide_eq_true (show (i : Int) < (((List.range ks.length).map fun j => I ((s + j * (a + b) + a : Nat) : Int)).length : Int) by simp; omega), decide_eq_true (show (i : Int) < ((pvs ks).length : Int) by simp; omega), Int.toNat_natCast, List.getElem?_map, List.getElem?_range hil, pvs_get hil]
    dsimp only [Option.map_some, za, zb, zc, zN, ze, zf, zg, zh, zi, zj, zu, zv, zx, zy, zL, zM, zk, zl, zm, zn, zo, zq, zr, zs, zt, zA, zC, zD, zE, zF, zG, zH, zI, zJ, zK]
    rw [nd_cells]
    dsimp only [Nd.c, za, zb, zc, zN, ze, zf, zg, zh, zi, zj, zu, zv, zx, zy, zL, zM, zk, zl, zm, zn, zo, zq, zr, zs, zt, zA, zC, zD, zE, zF, zG, zH, zI, zJ, zK]
    rw [pvs_len]
    refine (show _ = _ from h).trans ?_
    rw [w64 (x := (i : Int) + 1) (by omega), List.drop_zero, Nat.add_zero]
    have hsum := prsS_sum (nodSz D) ks[i].kids (s + i * (a + b) + a)
    have hlen := runP_len (prsS (s + i * (a + b) + a) ks[i].kids) W (fun p hp => hO _ hmem p.2 (prsS_mem _ _ p hp))
    rw [hsum] at hlen
    have h0 := nn _ hmem
    have := ih (i + 1) (runP (body D) (prsS (s + i * (a + b) + a) ks[i].kids) W) (by omega) (by omega) (by omega)
    rw [show s + (i + 1) * (a + b) = s + i * (a + b) + (a + b) by rw [Nat.add_mul, Nat.one_mul]; omega] at this
    refine (show _ = _ from this).trans ?_
    rw [List.drop_eq_getElem_cons hil, prsC, runP_app]
theorem eqz0 (o d q : Int) : eqCells [false, false, false, false, false, false, true, false, false, false] [I 0, I o, I d, I q, I 0, I 0, Bo false, I 0, U32 0, U32 0] [I 0, I o, I 0, I 0, I 0, I 0, Bo false, I 0, U32 0, U32 0] = some ((d == 0) && (q == 0)) := by
  simp [eqCells]
theorem eqz1 (o e c : Int) : eqCells [false, false, false, false, false, false, true, false, false, false] [I 1, I o, I 0, I 0, I e, I c, Bo false, I 0, U32 0, U32 0] [I 0, I o, I 0, I 0, I 0, I 0, Bo false, I 0, U32 0, U32 0] = some false := by
  simp [eqCells]
theorem put_ok {L : List Int} {a : Nat} (ha : a < L.length) (w : Int) : ∃ y, (ws L)[a]? = some (U y) := ⟨L[a], ws_get ha⟩
theorem sum_tgt_nn {D : Nat} {x : Nd} (h : Ok (D + 1) x) (h0 : x.kind ≠ 0) : 0 ≤ sumL ((tgt x).map (nodSz D)) := sumL_nn fun y hy => by
  obtain ⟨t, ht, rfl⟩ := List.mem_map.1 hy
  exact nodSz_nn D (ok_tgt h h0 t ht).vn
theorem place_ok : ∀ (D : Nat) (x : Nd), Ok D x → Plc D x
  | 0, x, h => plc_null h.dp
  | D + 1, x, h => by
    by_cases h0 : x.kind = 0
    · exact plc_null h0
    · intro W a ha hl
      have hT := ok_tgt h h0
      have hP : ∀ t ∈ tgt x, Plc D t := fun t ht => place_ok D t (hT t ht)
      have hsn := sum_tgt_nn h h0
      have hon := objSz_nn h.vn
      rw [nodSz] at hl
      rw [placeP_step h.vn h0 ha]
      have hsl := shW_len (B := body D) h.vn h0
      have hol := obW_len (body D) h.vn h0
      have hWl : (W ++ shW x).length = W.length + (obW (body D) x).length := by rw [List.length_append, hsl]
      obtain ⟨hs, hkk⟩ := vn_shp h.vn
      have hal : a < (W ++ shW x).length := by omega
      obtain ⟨y0, hy0⟩ := put_ok hal 0
      rcases hs with hs | hs | hs
      · exact absurd hs.1 h0
      · obtain ⟨d, ks, rfl, g1, g2, g3, g4, g5, g6⟩ := st_parts h.vn h.tr h.gd hs.1
        have et : tgt (.mk 1 0 0 d ks) = ks := rfl
        rw [et] at hT hP hl hsn
        have ew : shW (.mk 1 0 0 d ks) = wrdN (d.length / 8) d ++ List.replicate ks.length 0 := rfl
        have ep : prs (.mk 1 0 0 d ks) W.length = prsS (W.length + d.length / 8) ks := rfl
        have eo : objSz (.mk 1 0 0 d ks) = ((d.length / 8 + ks.length : Nat) : Int) := rfl
        rw [ew] at hal hWl hy0 ⊢
        rw [eo] at hol hl
        rw [ep]
        have hst := V_wstruct (W := W) g3 g4 g5 g6 (by omega) 0 0 (ks := ks)
        have hloop : ∀ (w : Int) (p14 : PV) (i15 : Int) (p16 p17 p18 p19 p20 p21 p22 p23 : PV), canonwrite_writer_place_L1 [.agg [I 1, I 0, I 0, .sl 1 (bs d), .sl 5 (pvs ks)]] (.sl 1 [I ((W.length + d.length / 8 : Nat) : Int)]) 1 0 (ws ((W ++ (wrdN (d.length / 8) d ++ List.replicate ks.length 0)).set a w)) 1 0 0 (bs d) (pvs ks) p14 i15 p16 p17 p18 p19 p20 p21 p22 p23 = some (.ret (.pv (.tup [])), wh (runP (body D) (prsS (W.length + d.length / 8) ks) ((W ++ (wrdN (d.length / 8) d ++ List.replicate ks.length 0)).set a w))) := fun w p14 i15 p16 p17 p18 p19 p20 p21 p22 p23 =>
          L1_one (x := .mk 1 0 0 d ks) (by show ks.length ≤ _; omega) hP hT 1 0 0 (bs d) (pvs ks) p14 i15 p16 p17 p18 p19 p20 p21 p22 p23 (by rw [List.length_set, hWl]; show _ + ks.length ≤ _; omega) (by rw [List.length_set, hWl]; show _ + sumL (ks.map (nodSz D)) ≤ _; push_cast; omega)
        unfold wh at hst hloop ⊢
        show ev 54 [.ptr 0 0, .pv (I (a : Int)), .pv (.agg [I 1, I 0, I 0, .sl 1 (bs d), .sl 5 (pvs ks)])] _ = _
        rw [canonwrite_writer_place_eq, show ((1 : Int) == 0) = false from rfl, show ((1 : Int) == 1) = true from rfl, hst]
        dsimp only [Pt0, za, zb, zc, zN, ze, zf, zg, zh, zi, zj, zu, zv, zx, zy, zL, zM, zk, zl, zm, zn, zo, zq, zr, zs, zt, zA, zC, zD, zE, zF, zG, zH, zI, zJ, zK]
        rw [pSlu_v, ws_len, w64 (x := (W.length : Int) - a) (by omega), w64 (x := (W.length : Int) - a - 1) (by omega), eqz0]
        dsimp only [za, zb, zc, zN, ze, zf, zg, zh, zi, zj, zu, zv, zx, zy, zL, zM, zk, zl, zm, zn, zo, zq, zr, zs, zt, zA, zC, zD, zE, zF, zG, zH, zI, zJ, zK]
        by_cases hz : d.length / 8 = 0 ∧ ks.length = 0
        · have hE := V_Encode0 (off := -1) (d := d.length / 8) (q := ks.length) (by decide) (by omega) g6
          have e1 : ptrI (.mk 1 0 0 d ks) ((W.length : Int) - a - 1) = encS (-1) (d.length / 8) ks.length := by
            show (if (1 : Int) = 0 then 0 else if (1 : Int) = 1 then (if d.length / 8 = 0 ∧ ks.length = 0 then encS (-1) 0 0 else _) else _) = _
            rw [if_neg (by decide), if_pos rfl, if_pos hz, hz.1, hz.2]
          rw [e1, show (((d.length / 8 : Nat) : Int) == 0) = true from by simp [hz.1], show ((ks.length : Int) == 0) = true from by simp [hz.2]]
          dsimp only [za, zb, zc, zN, ze, zf, zg, zh, zi, zj, zu, zv, zx, zy, zL, zM, zk, zl, zm, zn, zo, zq, zr, zs, zt, zA, zC, zD, zE, zF, zG, zH, zI, zJ, zK]
          rw [hE]
          dsimp only [za, zb, zc, zN, ze, zf, zg, zh, zi, zj, zu, zv, zx, zy, zL, zM, zk, zl, zm, zn, zo, zq, zr, zs, zt, zA, zC, zD, zE, zF, zG, zH, zI, zJ, zK]
          rw [decide_eq_true (show 0 ≤ (a : Int) by omega), decide_eq_true (show (a : Int) < ((ws (W ++ (wrdN (d.length / 8) d ++ List.replicate ks.length 0))).length : Int) by rw [ws_len]; omega), Int.toNat_natCast, hy0]
          dsimp only [setCells, List.length_cons, List.length_nil, za, zb, zc, zN, ze, zf, zg, zh, zi, zj, zu, zv, zx, zy, zL, zM, zk, zl, zm, zn, zo, zq, zr, zs, zt, zA, zC, zD, zE, zF, zG, zH, zI, zJ, zK]
          rw [ws_set]
          exact hloop _ _ _ _ _ _ _ _ _ _ _
        · have hE := V_Encode0 (off := (W.length : Int) - a - 1) (d := d.length / 8) (q := ks.length) (by omega) (by omega) g6
          have e1 : ptrI (.mk 1 0 0 d ks) ((W.length : Int) - a - 1) = encS ((W.length : Int) - a - 1) (d.length / 8) ks.length := by
            show (if (1 : Int) = 0 then 0 else if (1 : Int) = 1 then (if d.length / 8 = 0 ∧ ks.length = 0 then _ else encS ((W.length : Int) - a - 1) (d.length / 8) ks.length) else _) = _
            rw [if_neg (by decide), if_pos rfl, if_neg hz]
          have e2 : ((((d.length / 8 : Nat) : Int) == 0) && ((ks.length : Int) == 0)) = false := by
            rw [Bool.and_eq_false_iff]
            by_cases h1 : d.length / 8 = 0
            · right; exact beq_eq_false_iff_ne.2 (fun h2 => hz ⟨h1, by omega⟩)
            · left; exact beq_eq_false_iff_ne.2 (fun h2 => h1 (by omega))
          rw [e1, e2]
          dsimp only [za, zb, zc, zN, ze, zf, zg, zh, zi, zj, zu, zv, zx, zy, zL, zM, zk, zl, zm, zn, zo, zq, zr, zs, zt, zA, zC, zD, zE, zF, zG, zH, zI, zJ, zK]
          rw [hE]
          dsimp only [za, zb, zc, zN, ze, zf, zg, zh, zi, zj, zu, zv, zx, zy, zL, zM, zk, zl, zm, zn, zo, zq, zr, zs, zt, zA, zC, zD, zE, zF, zG, zH, zI, zJ, zK]
          rw [decide_eq_true (show 0 ≤ (a : Int) by omega), decide_eq_true (show (a : Int) < ((ws (W ++ (wrdN (d.length / 8) d ++ List.replicate ks.length 0))).length : Int) by rw [ws_len]; omega), Int.toNat_natCast, hy0]
          dsimp only [setCells, List.length_cons, List.length_nil, za, zb, zc, zN, ze, zf, zg, zh, zi, zj, zu, zv, zx, zy, zL, zM, zk, zl, zm, zn, zo, zq, zr, zs, zt, zA, zC, zD, zE, zF, zG, zH, zI, zJ, zK]
          rw [ws_set]
          exact hloop _ _ _ _ _ _ _ _ _ _ _
      · cases x with
        | mk k e n d ks =>
          obtain ⟨k2, hn, he, h6, hl6⟩ := hs
          have k2' : k = 2 := k2
          subst k2'
          have hn' : 0 ≤ n ∧ n ≤ 536870911 := hn
          have he' : 0 ≤ e ∧ e ≤ 7 := he
          have hg := h.gd
          rw [good] at hg
          by_cases e7 : e = 7
          · subst e7
            obtain ⟨a1, a2⟩ := h6 (show (6 : Int) ≤ 7 by decide)
            obtain rfl : d = [] := List.length_eq_zero_iff.1 a1
            have a2' : (ks.length : Int) = n := a2
            have hst : ∀ k ∈ ks, k.kind = 1 := by
              cases h.vn with
              | mk v1 v2 v3 => exact v2 rfl rfl
            have htr : ∀ k ∈ ks, TrN k := by
              cases h.tr with
              | mk t1 t2 => exact t2
            have hparts : ∀ k ∈ ks, (∀ x ∈ k.data, Byte x) ∧ k.data.length % 8 = 0 ∧ k.data.length ≤ 524280 ∧ k.kids.length ≤ 65535 := fun k hk => by
              obtain ⟨d, q, rfl, g1, g2, g3, g4, g5, g6⟩ := st_parts (hkk k hk) (htr k hk) (goods_iff.1 hg.2 k hk) (hst k hk)
              exact ⟨g3, g4, g5, g6⟩
            have et : tgt (.mk 2 7 n [] ks) = ks.flatMap Nd.kids := rfl
            rw [et] at hT hP hl hsn
            rw [sumL_flat] at hl hsn
            have ew : shW (.mk 2 7 n [] ks) = encS n (uniD ks) (uniP ks) :: els (uniD ks) (uniP ks) ks := rfl
            have ep : prs (.mk 2 7 n [] ks) W.length = prsC (uniD ks) (uniD ks + uniP ks) (W.length + 1) ks := rfl
            have eo : objSz (.mk 2 7 n [] ks) = 1 + n * ((uniD ks + uniP ks : Nat) : Int) := rfl
            have hnu : n * ((uniD ks + uniP ks : Nat) : Int) = ((ks.length * (uniD ks + uniP ks) : Nat) : Int) := by rw [← a2']; push_cast; rfl
            rw [eo, hnu] at hol hl
            rw [ew] at hal hWl hy0 ⊢
            rw [ep]
            have hud : uniD ks ≤ 65535 := uniD_le fun x hx => by have := (hparts x hx).2.2.1; omega
            have huq : uniP ks ≤ 65535 := uniP_le fun x hx => (hparts x hx).2.2.2
            have hkl2 : ks.length ≤ 536870911 := by omega
            have hst' := V_wcomp (W := W) (n := n) (ks := ks) hn' a2' hparts (by omega)
            have hE := V_Encode1 (off := (W.length : Int) - a - 1) (e := 7) (c := ((ks.length * (uniD ks + uniP ks) : Nat) : Int)) (by omega) (by decide) (by omega)
            have e1 : ptrI (.mk 2 7 n [] ks) ((W.length : Int) - a - 1) = encL ((W.length : Int) - a - 1) 7 ((ks.length * (uniD ks + uniP ks) : Nat) : Int) := by rw [← hnu]; rfl
            have hloop : ∀ (w : Int) (p14 : PV) (i15 : Int) (p16 p17 p18 p19 p20 p21 p22 p23 : PV), canonwrite_writer_place_L1v1 (pvs ks) (.sl 1 ((List.range ks.length).map fun j => I ((W.length + 1 + j * (uniD ks + uniP ks) + uniD ks : Nat) : Int))) ks.length 0 (ws ((W ++ (encS n (uniD ks) (uniP ks) :: els (uniD ks) (uniP ks) ks)).set a w)) 2 7 n [] (pvs ks) p14 i15 p16 p17 p18 p19 p20 p21 p22 p23 = some (.ret (.pv (.tup [])), wh (runP (body D) (prsC (uniD ks) (uniD ks + uniP ks) (W.length + 1) ks) ((W ++ (encS n (uniD ks) (uniP ks) :: els (uniD ks) (uniP ks) ks)).set a w))) := fun w p14 i15 p16 p17 p18 p19 p20 p21 p22 p23 => by
              have := L1_comp (D := D) (ks := ks) (a := uniD ks) (b := uniP ks) (s := W.length + 1) hkl2 (fun k hk => uniP_mem hk) (fun k hk t ht => hP t (List.mem_flatMap.2 ⟨k, hk, ht⟩)) (fun k hk t ht => hT t (List.mem_flatMap.2 ⟨k, hk, ht⟩)) 2 7 n [] (pvs ks) p14 i15 p16 p17 p18 p19 p20 p21 p22 p23 huq ks.length 0 ((W ++ (encS n (uniD ks) (uniP ks) :: els (uniD ks) (uniP ks) ks)).set a w) (by omega) (by rw [List.length_set, hWl]; omega) (by rw [List.length_set, hWl, List.drop_zero]; push_cast; omega)
              rw [List.drop_zero, Nat.zero_mul, Nat.add_zero] at this
              exact this
            unfold wh at hst' hloop ⊢
            show ev 54 [.ptr 0 0, .pv (I (a : Int)), .pv (.agg [I 2, I 7, I n, .sl 1 [], .sl 5 (pvs ks)])] _ = _
            rw [canonwrite_writer_place_eq, show ((2 : Int) == 0) = false from rfl, show ((2 : Int) == 1) = false from rfl, show ((7 : Int) == 7) = true from rfl, hst']
            dsimp only [Pt1, za, zb, zc, zN, ze, zf, zg, zh, zi, zj, zu, zv, zx, zy, zL, zM, zk, zl, zm, zn, zo, zq, zr, zs, zt, zA, zC, zD, zE, zF, zG, zH, zI, zJ, zK]
            rw [pSlu_v, ws_len, w64 (x := (W.length : Int) - a) (by omega), w64 (x := (W.length : Int) - a - 1) (by omega), eqz1]
            dsimp only [za, zb, zc, zN, ze, zf, zg, zh, zi, zj, zu, zv, zx, zy, zL, zM, zk, zl, zm, zn, zo, zq, zr, zs, zt, zA, zC, zD, zE, zF, zG, zH, zI, zJ, zK]
            rw [e1, hnu, hE]
            dsimp only [za, zb, zc, zN, ze, zf, zg, zh, zi, zj, zu, zv, zx, zy, zL, zM, zk, zl, zm, zn, zo, zq, zr, zs, zt, zA, zC, zD, zE, zF, zG, zH, zI, zJ, zK]
            rw [decide_eq_true (show 0 ≤ (a : Int) by omega), decide_eq_true (show (a : Int) < ((ws (W ++ (encS n (uniD ks) (uniP ks) :: els (uniD ks) (uniP ks) ks))).length : Int) by rw [ws_len]; omega), Int.toNat_natCast, hy0]
            dsimp only [setCells, List.length_cons, List.length_nil, za, zb, zc, zN, ze, zf, zg, zh, zi, zj, zu, zv, zx, zy, zL, zM, zk, zl, zm, zn, zo, zq, zr, zs, zt, zA, zC, zD, zE, zF, zG, zH, zI, zJ, zK]
            rw [ws_set, List.length_map, List.length_range]
            exact hloop _ _ _ _ _ _ _ _ _ _ _
          · have et : tgt (.mk 2 e n d ks) = ks := by
              show (if (2 : Int) = 2 ∧ e = 7 then _ else ks) = _
              rw [if_neg (fun h => e7 h.2)]
            have eo : objSz (.mk 2 e n d ks) = wordsOf e n := by
              unfold objSz
              show (if (2 : Int) = 0 then 0 else if (2 : Int) = 1 then _ else if e = 7 then _ else wordsOf e n) = _
              rw [if_neg (by decide), if_neg (by decide), if_neg e7]
            rw [et] at hT hP hl hsn
            have ep : prs (.mk 2 e n d ks) W.length = prsS W.length ks := by
              show (if (2 : Int) = 1 then _ else if e = 7 then _ else prsS W.length ks) = _
              rw [if_neg (by decide), if_neg e7]
            have e1 : ptrI (.mk 2 e n d ks) ((W.length : Int) - a - 1) = encL ((W.length : Int) - a - 1) e n := by
              show (if (2 : Int) = 0 then 0 else if (2 : Int) = 1 then _ else if e = 7 then _ else encL ((W.length : Int) - a - 1) e n) = _
              rw [if_neg (by decide), if_neg (by decide), if_neg e7]
            have hE := V_Encode1 (off := (W.length : Int) - a - 1) (e := e) (c := n) (by omega) he' hn'
            rw [ep, e1]
            rw [eo] at hol hl
            by_cases e6 : e = 6
            · subst e6
              obtain ⟨a1, a2⟩ := h6 (show (6 : Int) ≤ 6 by decide)
              obtain rfl : d = [] := List.length_eq_zero_iff.1 a1
              have a2' : (ks.length : Int) = n := a2
              have hw6 : wordsOf 6 n = n := by unfold wordsOf bitsOf; simp; omega
              rw [hw6] at hol hl
              have ew : shW (.mk 2 6 n [] ks) = List.replicate ks.length 0 := rfl
              rw [ew] at hal hWl hy0 ⊢
              have hst' := V_wlist6 (W := W) (ks := ks) (n := ks.length) (by omega) (by omega) (bs [])
              rw [a2'] at hst'
              have hloop : ∀ (w : Int) (p14 : PV) (i15 : Int) (p16 p17 p18 p19 p20 p21 p22 p23 : PV), canonwrite_writer_place_L1 [.agg [I 2, I 6, I n, .sl 1 (bs []), .sl 5 (pvs ks)]] (.sl 1 [I (W.length : Int)]) 1 0 (ws ((W ++ List.replicate ks.length 0).set a w)) 2 6 n (bs []) (pvs ks) p14 i15 p16 p17 p18 p19 p20 p21 p22 p23 = some (.ret (.pv (.tup [])), wh (runP (body D) (prsS W.length ks) ((W ++ List.replicate ks.length 0).set a w))) := fun w p14 i15 p16 p17 p18 p19 p20 p21 p22 p23 =>
                L1_one (x := .mk 2 6 n [] ks) (by show ks.length ≤ _; omega) hP hT 2 6 n (bs []) (pvs ks) p14 i15 p16 p17 p18 p19 p20 p21 p22 p23 (by rw [List.length_set, hWl]; show _ + ks.length ≤ _; omega) (by rw [List.length_set, hWl]; show _ + sumL (ks.map (nodSz D)) ≤ _; push_cast; omega)
              unfold wh at hst' hloop ⊢
              show ev 54 [.ptr 0 0, .pv (I (a : Int)), .pv (.agg [I 2, I 6, I n, .sl 1 (bs []), .sl 5 (pvs ks)])] _ = _
              rw [canonwrite_writer_place_eq, show ((2 : Int) == 0) = false from rfl, show ((2 : Int) == 1) = false from rfl, show ((6 : Int) == 7) = false from rfl, hst']
              dsimp only [Pt1, za, zb, zc, zN, ze, zf, zg, zh, zi, zj, zu, zv, zx, zy, zL, zM, zk, zl, zm, zn, zo, zq, zr, zs, zt, zA, zC, zD, zE, zF, zG, zH, zI, zJ, zK]
              rw [pSlu_v, ws_len, w64 (x := (W.length : Int) - a) (by omega), w64 (x := (W.length : Int) - a - 1) (by omega), eqz1]
              dsimp only [za, zb, zc, zN, ze, zf, zg, zh, zi, zj, zu, zv, zx, zy, zL, zM, zk, zl, zm, zn, zo, zq, zr, zs, zt, zA, zC, zD, zE, zF, zG, zH, zI, zJ, zK]
              rw [hE]
              dsimp only [za, zb, zc, zN, ze, zf, zg, zh, zi, zj, zu, zv, zx, zy, zL, zM, zk, zl, zm, zn, zo, zq, zr, zs, zt, zA, zC, zD, zE, zF, zG, zH, zI, zJ, zK]
              rw [decide_eq_true (show 0 ≤ (a : Int) by omega), decide_eq_true (show (a : Int) < ((ws (W ++ List.replicate ks.length 0)).length : Int) by rw [ws_len]; omega), Int.toNat_natCast, hy0]
              dsimp only [setCells, List.length_cons, List.length_nil, za, zb, zc, zN, ze, zf, zg, zh, zi, zj, zu, zv, zx, zy, zL, zM, zk, zl, zm, zn, zo, zq, zr, zs, zt, zA, zC, zD, zE, zF, zG, zH, zI, zJ, zK]
              rw [ws_set]
              exact hloop _ _ _ _ _ _ _ _ _ _ _
            · obtain ⟨b1, b2, b3⟩ := hl6 (show e < 6 by omega)
              obtain rfl : ks = [] := List.length_eq_zero_iff.1 b1
              have b2' : (d.length : Int) = bytesN e n := b2
              have hwr := wordsOf_range (e := e) hn'
              have ew : shW (.mk 2 e n d []) = wrdN (wordsOf e n).toNat d := by
                show (if (2 : Int) = 1 then _ else if e = 7 then _ else if e = 6 then _ else wrdN (wordsOf e n).toNat d) = _
                rw [if_neg (by decide), if_neg e7, if_neg e6]
              rw [ew] at hal hWl hy0 ⊢
              have hO := V_Object13 h.gd h.vn (by rw [eo]; omega) (by show 0 + 0 ≤ _; decide)
              rw [eo] at hO
              have hst' := V_wlist (W := W) (ks := []) ⟨he'.1, by omega⟩ hn' hg.1.2.1 b2' (by simp only [List.map_nil, sumL_nil] at hl; omega) (by omega) hO
              unfold wh at hst' ⊢
              show ev 54 [.ptr 0 0, .pv (I (a : Int)), .pv (.agg [I 2, I e, I n, .sl 1 (bs d), .sl 5 (pvs [])])] _ = _
              rw [canonwrite_writer_place_eq, show ((2 : Int) == 0) = false from rfl, show ((2 : Int) == 1) = false from rfl, beq_eq_false_iff_ne.2 e7, hst']
              dsimp only [Pt1, za, zb, zc, zN, ze, zf, zg, zh, zi, zj, zu, zv, zx, zy, zL, zM, zk, zl, zm, zn, zo, zq, zr, zs, zt, zA, zC, zD, zE, zF, zG, zH, zI, zJ, zK]
              rw [pSlu_v, ws_len, w64 (x := (W.length : Int) - a) (by omega), w64 (x := (W.length : Int) - a - 1) (by omega), eqz1]
              dsimp only [za, zb, zc, zN, ze, zf, zg, zh, zi, zj, zu, zv, zx, zy, zL, zM, zk, zl, zm, zn, zo, zq, zr, zs, zt, zA, zC, zD, zE, zF, zG, zH, zI, zJ, zK]
              rw [hE]
              dsimp only [za, zb, zc, zN, ze, zf, zg, zh, zi, zj, zu, zv, zx, zy, zL, zM, zk, zl, zm, zn, zo, zq, zr, zs, zt, zA, zC, zD, zE, zF, zG, zH, zI, zJ, zK]
              rw [decide_eq_true (show 0 ≤ (a : Int) by omega), decide_eq_true (show (a : Int) < ((ws (W ++ wrdN (wordsOf e n).toNat d)).length : Int) by rw [ws_len]; omega), Int.toNat_natCast, hy0]
              dsimp only [setCells, List.length_cons, List.length_nil, za, zb, zc, zN, ze, zf, zg, zh, zi, zj, zu, zv, zx, zy, zL, zM, zk, zl, zm, zn, zo, zq, zr, zs, zt, zA, zC, zD, zE, zF, zG, zH, zI, zJ, zK]
              rw [ws_set, canonwrite_writer_place_L1_eq, decide_eq_false (by decide)]
              rfl
theorem unit_ok (D : Nat) (x : Nd) : placeP (body D) 0 x [0] = canW D x := by
  unfold placeP canW
  by_cases h0 : x.kind = 0
  · rw [if_pos h0, ptrI_null h0, body_null D x h0]
  · rw [if_neg h0]
    rfl
theorem V_Write {D : Nat} {x : Nd} (h : Ok D x) (hb : nodSz D x ≤ 134217728) : ev 33 [.pv x.x] [] = some (.ret (.slu 48 1 (ws (canW D x))), []) := by
  have h1 := V_Total13 h.gd h.vn h.dp (by omega)
  have hn := nodSz_nn D h.vn
  have h2 := place_ok D x h [0] 0 (by decide) (by simp; omega)
  rw [unit_ok] at h2
  unfold wh at h2
  dsimp only [Nd.x] at h1 h2
  rw [Nd.x, canonwrite_Write_eq, h1]
  dsimp only [za, zb, zc, zN, ze, zf, zg, zh, zi, zj, zu, zv, zx, zy, zL, zM, zk, zl, zm, zn, zo, zq, zr, zs, zt, zA, zC, zD, zE, zF, zG, zH, zI, zJ, zK]
  rw [decide_eq_true (show 1 ≤ nodSz D x + 1 by omega), decide_eq_true (show nodSz D x + 1 ≤ 140737488355328 by omega), roomy_ok (by omega) (by omega)]
  dsimp only [za, zb, zc, zN, ze, zf, zg, zh, zi, zj, zu, zv, zx, zy, zL, zM, zk, zl, zm, zn, zo, zq, zr, zs, zt, zA, zC, zD, zE, zF, zG, zH, zI, zJ, zK]
  rw [show ev 54 [.ptr 0 0, .pv (I 0), .pv (.agg [I x.kind, I x.elem, I x.n, .sl 1 (bs x.data), .sl 5 (pvs x.kids)])] [[.slu 48 1 [U 0]]] = _ from h2]
  dsimp only [za, zb, zc, zN, ze, zf, zg, zh, zi, zj, zu, zv, zx, zy, zL, zM, zk, zl, zm, zn, zo, zq, zr, zs, zt, zA, zC, zD, zE, zF, zG, zH, zI, zJ, zK]
  rw [pSlu_v]
  rfl
end Go.Proofs.YtfljialckkgacaaGreatDoor.E
set_option linter.unusedVariables false
set_option linter.unusedSimpArgs false
namespace Go.Proofs.YtfljialckkgacaaGreatDoor.E
/-! The reference's canonical writer: what an object looks like. -/
theorem rUni_loop {l : List Nd} (hl : l.length ≤ 1073741824) (hd : ∀ x ∈ l, x.data.length ≤ 17592186044416) (a b c : Int) (x : List PV) : ∀ (c0 i : Nat), i + c0 = l.length → capnpref11_Uniform_L0 (uniD (l.take i) : Nat) (uniP (l.take i) : Nat) i a b c x (pvs l) = ok (.tup [I (uniD l : Nat), I (uniP l : Nat)]) := by
  intro c0
  induction c0 with
  | zero =>
    intro i hi
    rw [capnpref11_Uniform_L0_eq, decide_eq_false (by simp; omega), List.take_of_length_le (by omega)]
    rfl
  | succ c0 ih =>
    intro i hi
    have hil : i < l.length := by omega
    have hdi := hd _ (List.getElem_mem hil)
    have e1 : uniD (l.take (i + 1)) = max (uniD (l.take i)) (l[i].data.length / 8) := by rw [take_snoc hil, uniD_snoc]
    have e2 : uniP (l.take (i + 1)) = max (uniP (l.take i)) l[i].kids.length := by rw [take_snoc hil, uniP_snoc]
    have hih := ih (i + 1) (by omega)
    rw [capnpref11_Uniform_L0_eq, decide_eq_true (show (i : Int) < ((pvs l).length : Int) by simp; omega), decide_eq_true (show 0 ≤ (i : Int) by omega)]
    dsimp only [za, zb, zc, zN, ze, zf, zg, zh, zi, zj, zu, zv, zx, zy, zL, zM, zk, zl, zm, zn, zo, zq, zr, zs, zt, zA, zC, zD, zE, zF, zG, zH, zI, zJ, zK]
    rw [Int.toNat_natCast, pvs_get hil]
    dsimp only [za, zb, zc, zN, ze, zf, zg, zh, zi, zj, zu, zv, zx, zy, zL, zM, zk, zl, zm, zn, zo, zq, zr, zs, zt, zA, zC, zD, zE, zF, zG, zH, zI, zJ, zK]
    rw [nd_cells]
    dsimp only [Nd.c, za, zb, zc, zN, ze, zf, zg, zh, zi, zj, zu, zv, zx, zy, zL, zM, zk, zl, zm, zn, zo, zq, zr, zs, zt, zA, zC, zD, zE, zF, zG, zH, zI, zJ, zK]
    rw [bs_len, pvs_len, Int.tdiv_eq_ediv_of_nonneg (by omega), w64 (x := (l[i].data.length : Int) / 8) (by omega), w64 (x := (i : Int) + 1) (by omega)]
    by_cases g1 : (l[i].data.length : Int) / 8 > ((uniD (l.take i) : Nat) : Int)
    · have f1 : (l[i].data.length : Int) / 8 = ((uniD (l.take (i + 1)) : Nat) : Int) := by omega
      rw [decide_eq_true g1]
      by_cases g2 : (l[i].kids.length : Int) > ((uniP (l.take i) : Nat) : Int)
      · have f2 : (l[i].kids.length : Int) = ((uniP (l.take (i + 1)) : Nat) : Int) := by omega
        rw [decide_eq_true g2, f1, f2]
        exact hih
      · have f2 : ((uniP (l.take i) : Nat) : Int) = ((uniP (l.take (i + 1)) : Nat) : Int) := by omega
        rw [decide_eq_false g2, f1, f2]
        exact hih
    · have f1 : ((uniD (l.take i) : Nat) : Int) = ((uniD (l.take (i + 1)) : Nat) : Int) := by omega
      rw [decide_eq_false g1]
      by_cases g2 : (l[i].kids.length : Int) > ((uniP (l.take i) : Nat) : Int)
      · have f2 : (l[i].kids.length : Int) = ((uniP (l.take (i + 1)) : Nat) : Int) := by omega
        rw [decide_eq_true g2, f1, f2]
        exact hih
      · have f2 : ((uniP (l.take i) : Nat) : Int) = ((uniP (l.take (i + 1)) : Nat) : Int) := by omega
        rw [decide_eq_false g2, f1, f2]
        exact hih
theorem V_rUniform {x : Nd} (hl : x.kids.length ≤ 1073741824) (hd : ∀ y ∈ x.kids, y.data.length ≤ 17592186044416) : ev 65 [.pv x.x] [] = ok (.tup [I (uniD x.kids : Nat), I (uniP x.kids : Nat)]) := by
  rw [Nd.x, capnpref11_Uniform_eq]
  exact rUni_loop hl hd x.kind x.elem x.n (bs x.data) x.kids.length 0 (by omega)
theorem V_rObj13 {x : Nd} (hg : good x) (hv : VN x) (hb : objSz x ≤ 4611686018427387904) (hu : uniD x.kids + uniP x.kids ≤ 4611686018427387904) : ev 43 [.pv x.x] [] = ok (I (objSz x)) := by
  obtain ⟨hd, hk, hks⟩ := good_len hg
  obtain ⟨hs, _⟩ := vn_shp hv
  have hun := V_rUniform hk (fun y hy => (good_len (hks y hy)).1)
  rw [Nd.x] at hun ⊢
  rw [capnpref13_Object_eq, bs_len, pvs_len]
  unfold objSz at hb ⊢
  rcases hs with hs | hs | hs
  · rw [beq_iff_eq.2 hs.1, if_pos hs.1]; rfl
  · rw [beq_eq_false_iff_ne.2 (show x.kind ≠ 0 by omega), beq_iff_eq.2 hs.1, if_neg (by omega), if_pos hs.1]
    dsimp only [za, zb, zc, zN, ze, zf, zg, zh, zi, zj, zu, zv, zx, zy, zL, zM, zk, zl, zm, zn, zo, zq, zr, zs, zt, zA, zC, zD, zE, zF, zG, zH, zI, zJ, zK]
    rw [Int.tdiv_eq_ediv_of_nonneg (by omega), w64 (x := (x.data.length : Int) / 8) (by omega), w64 (by omega)]
    rw [show (x.data.length : Int) / 8 + (x.kids.length : Int) = ((x.data.length / 8 + x.kids.length : Nat) : Int) by omega]
  · rw [if_neg (by omega), if_neg (by omega)] at hb ⊢
    rw [beq_eq_false_iff_ne.2 (show x.kind ≠ 0 by omega), beq_eq_false_iff_ne.2 (show x.kind ≠ 1 by omega)]
    dsimp only [za, zb, zc, zN, ze, zf, zg, zh, zi, zj, zu, zv, zx, zy, zL, zM, zk, zl, zm, zn, zo, zq, zr, zs, zt, zA, zC, zD, zE, zF, zG, zH, zI, zJ, zK]
    by_cases h7 : x.elem = 7
    · rw [if_pos h7] at hb ⊢
      rw [beq_iff_eq.2 h7]
      dsimp only [za, zb, zc, zN, ze, zf, zg, zh, zi, zj, zu, zv, zx, zy, zL, zM, zk, zl, zm, zn, zo, zq, zr, zs, zt, zA, zC, zD, zE, zF, zG, zH, zI, zJ, zK]
      rw [hun]
      have hm := Int.mul_nonneg hs.2.1.1 (Int.natCast_nonneg (uniD x.kids + uniP x.kids))
      dsimp only [za, zb, zc, zN, ze, zf, zg, zh, zi, zj, zu, zv, zx, zy, zL, zM, zk, zl, zm, zn, zo, zq, zr, zs, zt, zA, zC, zD, zE, zF, zG, zH, zI, zJ, zK]
      rw [w64 (x := ((uniD x.kids : Nat) : Int) + ((uniP x.kids : Nat) : Int)) (by omega), show ((uniD x.kids : Nat) : Int) + ((uniP x.kids : Nat) : Int) = ((uniD x.kids + uniP x.kids : Nat) : Int) by push_cast; rfl, w64 (x := x.n * ((uniD x.kids + uniP x.kids : Nat) : Int)) (by omega), w64 (by omega)]
    · rw [if_neg h7]
      rw [beq_eq_false_iff_ne.2 h7, V_rWords hs.2.1]
      rfl
theorem rtargets_loop {l : List Nd} (hl : l.length ≤ 1073741824) (a b c : Int) (x : List PV) : ∀ (c0 i : Nat), i + c0 = l.length → (l.flatMap Nd.kids).length ≤ 1073741824 → capnpref14_Targets_L0 (pvs ((l.take i).flatMap Nd.kids)) i a b c x (pvs l) = ok (.sl 5 (pvs (l.flatMap Nd.kids))) := by
  intro c0
  induction c0 with
  | zero =>
    intro i hi hf
    rw [capnpref14_Targets_L0_eq, decide_eq_false (by simp; omega), List.take_of_length_le (by omega)]
    rfl
  | succ c0 ih =>
    intro i hi hf
    have hil : i < l.length := by omega
    rw [capnpref14_Targets_L0_eq, decide_eq_true (show (i : Int) < ((pvs l).length : Int) by simp; omega), decide_eq_true (show 0 ≤ (i : Int) by omega)]
    dsimp only [za, zb, zc, zN, ze, zf, zg, zh, zi, zj, zu, zv, zx, zy, zL, zM, zk, zl, zm, zn, zo, zq, zr, zs, zt, zA, zC, zD, zE, zF, zG, zH, zI, zJ, zK]
    rw [Int.toNat_natCast, pvs_get hil]
    dsimp only [za, zb, zc, zN, ze, zf, zg, zh, zi, zj, zu, zv, zx, zy, zL, zM, zk, zl, zm, zn, zo, zq, zr, zs, zt, zA, zC, zD, zE, zF, zG, zH, zI, zJ, zK]
    rw [nd_cells]
    dsimp only [Nd.c, za, zb, zc, zN, ze, zf, zg, zh, zi, zj, zu, zv, zx, zy, zL, zM, zk, zl, zm, zn, zo, zq, zr, zs, zt, zA, zC, zD, zE, zF, zG, zH, zI, zJ, zK]
    have hnext : pvs ((l.take i).flatMap Nd.kids) ++ pvs l[i].kids = pvs ((l.take (i + 1)).flatMap Nd.kids) := by
      rw [take_snoc hil, List.flatMap_append, pvs_app]
      simp
    have hlen : ((l.take (i + 1)).flatMap Nd.kids).length ≤ (l.flatMap Nd.kids).length := by
      conv => rhs; rw [← List.take_append_drop (i + 1) l, List.flatMap_append, List.length_append]
      omega
    have hadd : (pvs ((l.take i).flatMap Nd.kids)).length + (pvs l[i].kids).length = ((l.take (i + 1)).flatMap Nd.kids).length := by
      rw [← List.length_append, hnext, pvs_len]
    rw [hadd, roomy_ok (by omega) (by omega), hnext, w64 (x := (i : Int) + 1) (by omega)]
    exact ih (i + 1) (by omega) hf
theorem V_rTargets {x : Nd} (hg : good x) (hf : (tgt x).length ≤ 1073741824) : ev 81 [.pv x.x] [] = ok (.sl 5 (pvs (tgt x))) := by
  cases x with
  | mk k e n d ks =>
    rw [good] at hg
    obtain ⟨⟨hd, hb, hk, h8⟩, hks⟩ := hg
    rw [tgt_mk] at hf ⊢
    rw [Nd.x]
    dsimp only [Nd.kind, Nd.elem, Nd.n, Nd.data, Nd.kids]
    rw [capnpref14_Targets_eq]
    by_cases k2 : k = 2
    · by_cases e7 : e = 7
      · rw [if_pos ⟨k2, e7⟩] at hf ⊢
        rw [show (k != 2) = false from by simpa using k2, show (e != 7) = false from by simpa using e7]
        exact rtargets_loop hk k e n (bs d) ks.length 0 (by omega) hf
      · rw [if_neg (fun h => e7 h.2), show (k != 2) = false from by simpa using k2, show (e != 7) = true from by simpa using e7]
        rfl
    · rw [if_neg (fun h => k2 h.1), show (k != 2) = true from by simpa using k2]
      rfl
/-- Indices of pointers. -/
def ix (P : List (Nat × Nd)) : List PV := P.map fun p => I (p.1 : Int)
theorem ix_app (a b : List (Nat × Nd)) : ix (a ++ b) = ix a ++ ix b := by simp [ix]
@[simp] theorem ix_len (a : List (Nat × Nd)) : (ix a).length = a.length := by simp [ix]
theorem prsS_app : ∀ (a b : List Nd) (i : Nat), prsS i (a ++ b) = prsS i a ++ prsS (i + a.length) b
  | [], b, i => by simp [prsS]
  | x :: a, b, i => by
    rw [List.cons_append, prsS, prsS, prsS_app a b (i + 1), List.length_cons, List.cons_append, show i + 1 + a.length = i + (a.length + 1) by omega]
theorem prsC_app (u s : Nat) : ∀ (a b : List Nd) (i : Nat), prsC u s i (a ++ b) = prsC u s i a ++ prsC u s (i + a.length * s) b
  | [], b, i => by simp [prsC]
  | x :: a, b, i => by
    rw [List.cons_append, prsC, prsC, prsC_app u s a b (i + s), List.length_cons, List.append_assoc, show i + s + a.length * s = i + (a.length + 1) * s by rw [Nat.add_mul, Nat.one_mul]; omega]
@[simp] theorem prsS_len : ∀ (q : List Nd) (i : Nat), (prsS i q).length = q.length
  | [], i => rfl
  | t :: r, i => by rw [prsS, List.length_cons, List.length_cons, prsS_len r]
theorem wrdN_nil : ∀ n : Nat, wrdN n [] = List.replicate n 0
  | 0 => rfl
  | n + 1 => by
    have := wrdN_nil n
    rw [wrdN, List.replicate_succ]
    simp only [List.drop_nil, this]
    rfl
section
variable (i3 i4 i5 : Int) (xs6 xs7 : List PV) (i8 i9 i10 i11 i12 i13 : Int) (b14 : Bool) (i15 i16 i17 i18 i19 i20 i22 i23 : Int) (b24 : Bool) (i25 i26 i27 : Int)
theorem sh0_loop {q : List Nd} {W : List Int} (hq : q.length ≤ 268435456) (hW : W.length ≤ 268435456) : ∀ (c j : Nat), j + c = q.length →
    capnpref14_Shallow_L0 (ix (prsS W.length (q.take j))) (ws (W ++ List.replicate j 0)) j i3 i4 i5 xs6 xs7 i8 i9 i10 i11 i12 i13 b14 i15 i16 i17 i18 i19 i20 q.length i22 i23 b24 i25 i26 i27 =
      ok (.tup [.sl 1 (ws (W ++ List.replicate q.length 0)), .agg [I i18, I i19, I i20, I (q.length : Int), I i22, I i23, Bo b24, I i25, U32 i26, U32 i27], .sl 1 (ix (prsS W.length q))]) := by
  intro c
  induction c with
  | zero =>
    intro j hj
    rw [capnpref14_Shallow_L0_eq, decide_eq_false (by omega), List.take_of_length_le (by omega), show j = q.length by omega]
    rfl
  | succ c ih =>
    intro j hj
    have hjl : j < q.length := by omega
    rw [capnpref14_Shallow_L0_eq, decide_eq_true (show (j : Int) < (q.length : Int) by omega)]
    dsimp only [za, zb, zc, zN, ze, zf, zg, zh, zi, zj, zu, zv, zx, zy, zL, zM, zk, zl, zm, zn, zo, zq, zr, zs, zt, zA, zC, zD, zE, zF, zG, zH, zI, zJ, zK]
    rw [roomy_ok (by simp; omega) (by simp; omega), roomy_ok (by simp; omega) (by simp; omega), w64 (x := (j : Int) + 1) (by omega), ws_snoc]
    dsimp only [za, zb, zc, zN, ze, zf, zg, zh, zi, zj, zu, zv, zx, zy, zL, zM, zk, zl, zm, zn, zo, zq, zr, zs, zt, zA, zC, zD, zE, zF, zG, zH, zI, zJ, zK]
    have e1 : ix (prsS W.length (q.take j)) ++ [I ((ws (W ++ List.replicate j 0)).length : Int)] = ix (prsS W.length (q.take (j + 1))) := by
      rw [take_snoc hjl, prsS_app, ix_app, ws_len, List.length_append, List.length_replicate, List.length_take, Nat.min_eq_left (by omega)]
      rfl
    have e2 : W ++ List.replicate j 0 ++ [0] = W ++ List.replicate (j + 1) (0 : Int) := by rw [List.replicate_succ', List.append_assoc]
    rw [e1, e2]
    exact ih (j + 1) (by omega)
theorem sh2_loop {q : List Nd} {W : List Int} {i21 : Int} (hq : q.length ≤ 1073741824) : ∀ (c j : Nat), j + c = q.length →
    capnpref14_Shallow_L2 (ix (prsS 0 (q.take j))) (ws W) j i3 i4 i5 xs6 (pvs q) i8 i9 i10 i11 i12 i13 b14 i15 i16 i17 i18 i19 i20 i21 i22 i23 b24 i25 i26 i27 =
      ok (.tup [.sl 1 (ws W), .agg [I i18, I i19, I i20, I i21, I i22, I i23, Bo b24, I i25, U32 i26, U32 i27], .sl 1 (ix (prsS 0 q))]) := by
  intro c
  induction c with
  | zero =>
    intro j hj
    rw [capnpref14_Shallow_L2_eq, decide_eq_false (by simp; omega), List.take_of_length_le (by omega)]
    rfl
  | succ c ih =>
    intro j hj
    have hjl : j < q.length := by omega
    rw [capnpref14_Shallow_L2_eq, decide_eq_true (show (j : Int) < ((pvs q).length : Int) by simp; omega)]
    dsimp only [za, zb, zc, zN, ze, zf, zg, zh, zi, zj, zu, zv, zx, zy, zL, zM, zk, zl, zm, zn, zo, zq, zr, zs, zt, zA, zC, zD, zE, zF, zG, zH, zI, zJ, zK]
    rw [roomy_ok (by simp; omega) (by simp; omega), w64 (x := (j : Int) + 1) (by omega)]
    dsimp only [za, zb, zc, zN, ze, zf, zg, zh, zi, zj, zu, zv, zx, zy, zL, zM, zk, zl, zm, zn, zo, zq, zr, zs, zt, zA, zC, zD, zE, zF, zG, zH, zI, zJ, zK]
    have e1 : ix (prsS 0 (q.take j)) ++ [I (j : Int)] = ix (prsS 0 (q.take (j + 1))) := by
      rw [take_snoc hjl, prsS_app, ix_app, List.length_take, Nat.min_eq_left (by omega), Nat.zero_add]
      rfl
    rw [e1]
    exact ih (j + 1) (by omega)
end
section
variable (i5 i6 i7 : Int) (xs8 : List PV) (i10 i11 i12 i13 i14 i15 : Int) (b16 : Bool) (i17 i18 i19 i20 i21 i22 i23 i24 i25 : Int) (b26 : Bool) (i27 i28 i29 : Int)
theorem sh6_loop {ks : List Nd} {A : List (Nat × Nd)} {W : List Int} {a b i : Nat} (hil : i < ks.length) (hik : ks.length ≤ 1073741824) (hb : ks[i].kids.length ≤ b) (hb2 : b ≤ 65535) (hA : A.length ≤ 1073741824) (hW : W.length ≤ 1073741824) : ∀ (c j : Nat), j + c = b →
    capnpref14_Shallow_L6 (ix (A ++ prsS W.length (ks[i].kids.take j))) (I (a : Int)) (I (b : Int)) (ws (W ++ List.replicate j 0)) i j i5 i6 i7 xs8 (pvs ks) i10 i11 i12 i13 i14 i15 b16 i17 i18 i19 i20 i21 i22 i23 i24 i25 b26 i27 i28 i29 =
    capnpref14_Shallow_L4 (ix (A ++ prsS W.length ks[i].kids)) (I (a : Int)) (I (b : Int)) (ws (W ++ List.replicate b 0)) ((i + 1 : Nat) : Int) i5 i6 i7 xs8 (pvs ks) i10 i11 i12 i13 i14 i15 b16 i17 i18 i19 i20 i21 i22 i23 i24 i25 b26 i27 i28 i29 := by
  intro c
  induction c with
  | zero =>
    intro j hj
    rw [capnpref14_Shallow_L6_eq]
    dsimp only [za, zb, zc, zN, ze, zf, zg, zh, zi, zj, zu, zv, zx, zy, zL, zM, zk, zl, zm, zn, zo, zq, zr, zs, zt, zA, zC, zD, zE, zF, zG, zH, zI, zJ, zK]
    rw [decide_eq_false (by omega), List.take_of_length_le (by omega), show j = b by omega, w64 (x := (i : Int) + 1) (by omega)]
    rfl
  | succ c ih =>
    intro j hj
    rw [capnpref14_Shallow_L6_eq]
    dsimp only [za, zb, zc, zN, ze, zf, zg, zh, zi, zj, zu, zv, zx, zy, zL, zM, zk, zl, zm, zn, zo, zq, zr, zs, zt, zA, zC, zD, zE, zF, zG, zH, zI, zJ, zK]
    rw [decide_eq_true (show (j : Int) < (b : Int) by omega), decide_eq_true (show 0 ≤ (i : Int) by omega), decide_eq_true (show (i : Int) < ((pvs ks).length : Int) by simp; omega)]
    dsimp only [za, zb, zc, zN, ze, zf, zg, zh, zi, zj, zu, zv, zx, zy, zL, zM, zk, zl, zm, zn, zo, zq, zr, zs, zt, zA, zC, zD, zE, zF, zG, zH, zI, zJ, zK]
    rw [Int.toNat_natCast, pvs_get hil]
    dsimp only [za, zb, zc, zN, ze, zf, zg, zh, zi, zj, zu, zv, zx, zy, zL, zM, zk, zl, zm, zn, zo, zq, zr, zs, zt, zA, zC, zD, zE, zF, zG, zH, zI, zJ, zK]
    rw [nd_cells]
    dsimp only [Nd.c, za, zb, zc, zN, ze, zf, zg, zh, zi, zj, zu, zv, zx, zy, zL, zM, zk, zl, zm, zn, zo, zq, zr, zs, zt, zA, zC, zD, zE, zF, zG, zH, zI, zJ, zK]
    have e2 : W ++ List.replicate j 0 ++ [0] = W ++ List.replicate (j + 1) (0 : Int) := by rw [List.replicate_succ', List.append_assoc]
    have hr : roomy ((ws (W ++ List.replicate j 0)).length + 1) 8 = true := roomy_ok (by simp; omega) (by simp; omega)
    rw [pvs_len, w64 (x := (j : Int) + 1) (by omega), ws_snoc, e2, hr]
    have := ih (j + 1) (by omega)
    by_cases g : j < ks[i].kids.length
    · rw [decide_eq_true (show (j : Int) < (ks[i].kids.length : Int) by omega), roomy_ok (by simp; omega) (by simp; omega)]
      dsimp only [za, zb, zc, zN, ze, zf, zg, zh, zi, zj, zu, zv, zx, zy, zL, zM, zk, zl, zm, zn, zo, zq, zr, zs, zt, zA, zC, zD, zE, zF, zG, zH, zI, zJ, zK]
      have e1 : ix (A ++ prsS W.length (ks[i].kids.take j)) ++ [I ((ws (W ++ List.replicate j 0)).length : Int)] = ix (A ++ prsS W.length (ks[i].kids.take (j + 1))) := by
        rw [take_snoc g, prsS_app, ← List.append_assoc, ix_app (A ++ _), ws_len, List.length_append, List.length_replicate, List.length_take, Nat.min_eq_left (by omega)]
        rfl
      rw [e1]
      exact this
    · rw [decide_eq_false (show ¬ (j : Int) < (ks[i].kids.length : Int) by omega), List.take_of_length_le (by omega)]
      rw [List.take_of_length_le (by omega)] at this
      exact this
theorem sh4_loop {ks : List Nd} {w0 : Int} {a b : Nat} (hk : ks.length ≤ 536870911) (ha : a ≤ 65535) (hb2 : b ≤ 65535) (hs : ∀ k ∈ ks, (∀ x ∈ k.data, Byte x) ∧ k.data.length ≤ 8 * a ∧ k.kids.length ≤ b) (hl : ks.length * (a + b) ≤ 536870912) (hA : ∀ i, (prsC a (a + b) 1 (ks.take i)).length ≤ 1073741824) : ∀ (c i : Nat), i + c = ks.length →
    capnpref14_Shallow_L4 (ix (prsC a (a + b) 1 (ks.take i))) (I (a : Int)) (I (b : Int)) (ws (w0 :: els a b (ks.take i))) i i5 i6 i7 xs8 (pvs ks) i10 i11 i12 i13 i14 i15 b16 i17 i18 i19 i20 i21 i22 i23 i24 i25 b26 i27 i28 i29 =
      ok (.tup [.sl 1 (ws (w0 :: els a b ks)), .agg [I i20, I i21, I i22, I i23, I i24, I ((ks.length * (a + b) : Nat) : Int), Bo b26, I i27, U32 i28, U32 i29], .sl 1 (ix (prsC a (a + b) 1 ks))]) := by
  intro c
  induction c with
  | zero =>
    intro i hi
    rw [capnpref14_Shallow_L4_eq, decide_eq_false (by simp; omega), List.take_of_length_le (by omega), ws_len, List.length_cons, els_len, w64 (by omega), show ((ks.length * (a + b) + 1 : Nat) : Int) - 1 = ((ks.length * (a + b) : Nat) : Int) by omega]
    rfl
  | succ c ih =>
    intro i hi
    have hil : i < ks.length := by omega
    obtain ⟨s1, s2, s3⟩ := hs _ (List.getElem_mem hil)
    have hmul : i * (a + b) + (a + b) ≤ ks.length * (a + b) := by
      have := Nat.mul_le_mul_right (a + b) (show i + 1 ≤ ks.length by omega)
      rw [Nat.add_mul, Nat.one_mul] at this
      exact this
    have hel : (els a b (ks.take i)).length = i * (a + b) := by rw [els_len, List.length_take, Nat.min_eq_left (by omega)]
    have hp := V_padded s1 (n := a) (by omega) s2
    have hWl : (w0 :: els a b (ks.take i) ++ wrdN a ks[i].data).length = 1 + i * (a + b) + a := by
      rw [List.length_append, List.length_cons, hel, wrdN_len]; omega
    have h6 := sh6_loop i5 i6 i7 xs8 i10 i11 i12 i13 i14 i15 b16 i17 i18 i19 i20 i21 i22 i23 i24 i25 b26 i27 i28 i29 (a := a) (A := prsC a (a + b) 1 (ks.take i)) (W := w0 :: els a b (ks.take i) ++ wrdN a ks[i].data) hil (by omega) s3 hb2 (hA i) (by rw [hWl]; omega) b 0 (by omega)
    rw [List.take_zero, List.replicate_zero, List.append_nil, show prsS _ ([] : List Nd) = [] from rfl, List.append_nil, hWl] at h6
    rw [capnpref14_Shallow_L4_eq, decide_eq_true (show (i : Int) < ((pvs ks).length : Int) by simp; omega), decide_eq_true (show 0 ≤ (i : Int) by omega)]
    dsimp only [za, zb, zc, zN, ze, zf, zg, zh, zi, zj, zu, zv, zx, zy, zL, zM, zk, zl, zm, zn, zo, zq, zr, zs, zt, zA, zC, zD, zE, zF, zG, zH, zI, zJ, zK]
    rw [Int.toNat_natCast, pvs_get hil]
    dsimp only [za, zb, zc, zN, ze, zf, zg, zh, zi, zj, zu, zv, zx, zy, zL, zM, zk, zl, zm, zn, zo, zq, zr, zs, zt, zA, zC, zD, zE, zF, zG, zH, zI, zJ, zK]
    rw [nd_cells]
    dsimp only [Nd.c, za, zb, zc, zN, ze, zf, zg, zh, zi, zj, zu, zv, zx, zy, zL, zM, zk, zl, zm, zn, zo, zq, zr, zs, zt, zA, zC, zD, zE, zF, zG, zH, zI, zJ, zK]
    rw [hp]
    dsimp only [za, zb, zc, zN, ze, zf, zg, zh, zi, zj, zu, zv, zx, zy, zL, zM, zk, zl, zm, zn, zo, zq, zr, zs, zt, zA, zC, zD, zE, zF, zG, zH, zI, zJ, zK]
    rw [pSlu_v]
    dsimp only [za, zb, zc, zN, ze, zf, zg, zh, zi, zj, zu, zv, zx, zy, zL, zM, zk, zl, zm, zn, zo, zq, zr, zs, zt, zA, zC, zD, zE, zF, zG, zH, zI, zJ, zK]
    rw [← ws_app, ws_len, ws_len, roomy_ok (by rw [List.length_cons, hel, wrdN_len]; omega) (by rw [List.length_cons, hel, wrdN_len]; omega)]
    refine (show _ = _ from h6).trans ?_
    have e1 : prsC a (a + b) 1 (ks.take i) ++ prsS (1 + i * (a + b) + a) ks[i].kids = prsC a (a + b) 1 (ks.take (i + 1)) := by
      rw [take_snoc hil, prsC_app, List.length_take, Nat.min_eq_left (by omega), prsC, prsC, List.append_nil]
    have e2 : w0 :: els a b (ks.take i) ++ wrdN a ks[i].data ++ List.replicate b 0 = w0 :: els a b (ks.take (i + 1)) := by
      rw [take_snoc hil]
      unfold els
      rw [List.flatMap_append, List.flatMap_singleton]
      simp only [List.append_assoc, List.cons_append]
    rw [e1, e2]
    exact ih (i + 1) (by omega)
end
end Go.Proofs.YtfljialckkgacaaGreatDoor.E
set_option linter.unusedVariables false
set_option linter.unusedSimpArgs false
namespace Go.Proofs.YtfljialckkgacaaGreatDoor.E
/-! The reference writes the canonical form. -/
def ptP (x : Nd) : PV := if x.kind = 1 then Pt0 0 (x.data.length / 8) x.kids.length else if x.elem = 7 then Pt1 0 7 ((x.kids.length * (uniD x.kids + uniP x.kids) : Nat) : Int) else Pt1 0 x.elem x.n
theorem prsS_lt : ∀ (q : List Nd) (i : Nat), ∀ p ∈ prsS i q, p.1 < i + q.length
  | [], i, p, h => by cases h
  | t :: r, i, p, h => by
    rw [prsS] at h
    rw [List.length_cons]
    rcases List.mem_cons.1 h with rfl | h
    · show i < _; omega
    · have := prsS_lt r (i + 1) p h; omega
theorem prsC_lt {u s : Nat} : ∀ (ks : List Nd) (i : Nat), (∀ k ∈ ks, u + k.kids.length ≤ s) → ∀ p ∈ prsC u s i ks, p.1 < i + ks.length * s
  | [], i, hk, p, h => by cases h
  | k :: r, i, hk, p, h => by
    rw [prsC] at h
    rw [List.length_cons, Nat.add_mul, Nat.one_mul]
    have hb := hk k List.mem_cons_self
    rcases List.mem_append.1 h with h | h
    · have := prsS_lt k.kids (i + u) p h; omega
    · have := prsC_lt r (i + s) (fun x hx => hk x (List.mem_cons_of_mem _ hx)) p h; omega
theorem prsS_snd : ∀ (q : List Nd) (i : Nat), (prsS i q).map Prod.snd = q
  | [], i => rfl
  | t :: r, i => by rw [prsS, List.map_cons, prsS_snd r]
theorem prsC_snd (u s : Nat) : ∀ (ks : List Nd) (i : Nat), (prsC u s i ks).map Prod.snd = ks.flatMap Nd.kids
  | [], i => rfl
  | k :: r, i => by rw [prsC, List.map_append, prsS_snd, prsC_snd u s r, List.flatMap_cons]
def sh (s : Nat) (p : Nat × Nd) : Nat × Nd := (s + p.1, p.2)
theorem prsS_sh (s : Nat) : ∀ (q : List Nd) (i : Nat), (prsS i q).map (sh s) = prsS (s + i) q
  | [], i => rfl
  | t :: r, i => by rw [prsS, prsS, List.map_cons, prsS_sh s r, Nat.add_assoc]; rfl
theorem prsC_sh (u z s : Nat) : ∀ (ks : List Nd) (i : Nat), (prsC u z i ks).map (sh s) = prsC u z (s + i) ks
  | [], i => rfl
  | k :: r, i => by rw [prsC, prsC, List.map_append, prsS_sh, prsC_sh u z s r, Nat.add_assoc, Nat.add_assoc]
theorem prs_sh (x : Nd) (s : Nat) : (prs x 0).map (sh s) = prs x s := by
  unfold prs
  split
  · rw [prsS_sh, Nat.zero_add]
  · split
    · rw [prsC_sh, Nat.zero_add]
    · rw [prsS_sh, Nat.add_zero]
theorem prs_snd {x : Nd} (hv : VN x) (h0 : x.kind ≠ 0) : (prs x 0).map Prod.snd = tgt x := by
  obtain ⟨hs, _⟩ := vn_shp hv
  unfold prs tgt
  rcases hs with hs | hs | hs
  · exact absurd hs.1 h0
  · rw [if_pos hs.1, if_neg (by omega), prsS_snd]
  · rw [if_neg (by omega)]
    by_cases h7 : x.elem = 7
    · rw [if_pos h7, if_pos ⟨hs.1, h7⟩, prsC_snd]
    · rw [if_neg h7, if_neg (fun h => h7 h.2), prsS_snd]
theorem prs_lt {x : Nd} (hv : VN x) (h0 : x.kind ≠ 0) : ∀ p ∈ prs x 0, p.1 < (shW x).length := by
  obtain ⟨hs, _⟩ := vn_shp hv
  intro p hp
  unfold prs at hp
  unfold shW
  rcases hs with hs | hs | hs
  · exact absurd hs.1 h0
  · rw [if_pos hs.1] at hp ⊢
    have := prsS_lt _ _ p hp
    simp; omega
  · rw [if_neg (by omega)] at hp ⊢
    by_cases h7 : x.elem = 7
    · rw [if_pos h7] at hp ⊢
      have := prsC_lt x.kids _ (fun k hk => Nat.add_le_add_left (uniP_mem hk) _) p hp
      rw [List.length_cons, els_len]; omega
    · rw [if_neg h7] at hp ⊢
      have hl := prsS_lt _ _ p hp
      by_cases h6 : x.elem = 6
      · rw [if_pos h6]; simp; omega
      · exfalso
        have : x.kids.length = 0 := (hs.2.2.2.2 (by omega)).1
        omega
/-- What the reference tells of an object. -/
theorem V_Shallow {D : Nat} {x : Nd} (h : Ok D x) (h0 : x.kind ≠ 0) (hb : objSz x ≤ 268435456) (hf : (tgt x).length ≤ 1073741824) : ev 79 [.pv x.x] [] = ok (.tup [.sl 1 (ws (shW x)), ptP x, .sl 1 (ix (prs x 0))]) := by
  obtain ⟨hs, hkk⟩ := vn_shp h.vn
  rcases hs with hs | hs | hs
  · exact absurd hs.1 h0
  · obtain ⟨d, ks, rfl, g1, g2, g3, g4, g5, g6⟩ := st_parts h.vn h.tr h.gd hs.1
    have hp := V_padded g3 (n := d.length / 8) (by omega) (by omega)
    have h1 := sh0_loop 1 0 0 (bs d) (pvs ks) 0 0 0 0 0 0 false 0 0 0 0 0 ((d.length / 8 : Nat) : Int) 0 0 false 0 0 0 (q := ks) (W := wrdN (d.length / 8) d) (by omega) (by rw [wrdN_len]; omega) ks.length 0 (by omega)
    rw [List.take_zero, List.replicate_zero, List.append_nil, wrdN_len] at h1
    rw [Nd.x]
    dsimp only [Nd.kind, Nd.elem, Nd.n, Nd.data, Nd.kids]
    rw [capnpref14_Shallow_eq, show ((1 : Int) == 1) = true from rfl, bs_len, pvs_len, Int.tdiv_eq_ediv_of_nonneg (by omega), show (d.length : Int) / 8 = ((d.length / 8 : Nat) : Int) by omega, w64 (by omega), hp]
    dsimp only [za, zb, zc, zN, ze, zf, zg, zh, zi, zj, zu, zv, zx, zy, zL, zM, zk, zl, zm, zn, zo, zq, zr, zs, zt, zA, zC, zD, zE, zF, zG, zH, zI, zJ, zK]
    rw [pSlu_v]
    dsimp only [za, zb, zc, zN, ze, zf, zg, zh, zi, zj, zu, zv, zx, zy, zL, zM, zk, zl, zm, zn, zo, zq, zr, zs, zt, zA, zC, zD, zE, zF, zG, zH, zI, zJ, zK]
    refine (show _ = _ from h1).trans ?_
    have e : prs (.mk 1 0 0 d ks) 0 = prsS (d.length / 8) ks := by show prsS (0 + d.length / 8) ks = _; rw [Nat.zero_add]
    rw [e]
    rfl
  · cases x with
    | mk k e n d ks =>
      obtain ⟨k2, hn, he, h6, hl6⟩ := hs
      have k2' : k = 2 := k2
      subst k2'
      have hn' : 0 ≤ n ∧ n ≤ 536870911 := hn
      have he' : 0 ≤ e ∧ e ≤ 7 := he
      have hg := h.gd
      rw [good] at hg
      by_cases e7 : e = 7
      · subst e7
        obtain ⟨a1, a2⟩ := h6 (show (6 : Int) ≤ 7 by decide)
        obtain rfl : d = [] := List.length_eq_zero_iff.1 a1
        have a2' : (ks.length : Int) = n := a2
        have hst : ∀ k ∈ ks, k.kind = 1 := by
          cases h.vn with
          | mk v1 v2 v3 => exact v2 rfl rfl
        have htr : ∀ k ∈ ks, TrN k := by
          cases h.tr with
          | mk t1 t2 => exact t2
        have hparts : ∀ k ∈ ks, (∀ x ∈ k.data, Byte x) ∧ k.data.length % 8 = 0 ∧ k.data.length ≤ 524280 ∧ k.kids.length ≤ 65535 := fun k hk => by
          obtain ⟨d, q, rfl, g1, g2, g3, g4, g5, g6⟩ := st_parts (hkk k hk) (htr k hk) (goods_iff.1 hg.2 k hk) (hst k hk)
          exact ⟨g3, g4, g5, g6⟩
        have hud : uniD ks ≤ 65535 := uniD_le fun x hx => by have := (hparts x hx).2.2.1; omega
        have huq : uniP ks ≤ 65535 := uniP_le fun x hx => (hparts x hx).2.2.2
        have eo : objSz (.mk 2 7 n [] ks) = 1 + n * ((uniD ks + uniP ks : Nat) : Int) := rfl
        have hnu : n * ((uniD ks + uniP ks : Nat) : Int) = ((ks.length * (uniD ks + uniP ks) : Nat) : Int) := by rw [← a2']; push_cast; rfl
        rw [eo, hnu] at hb
        have hU := V_rUniform (x := .mk 2 7 n [] ks) (by show ks.length ≤ _; omega) (fun y hy => by have := (hparts y hy).2.2.1; omega)
        have hU' : ev 65 [.pv (.agg [I 2, I 7, I n, .sl 1 (bs []), .sl 5 (pvs ks)])] [] = ok (.tup [I (uniD ks : Nat), I (uniP ks : Nat)]) := hU
        have hE := V_rEncode0 (off := n) (d := uniD ks) (q := uniP ks) (by omega) hud huq
        have et : tgt (.mk 2 7 n [] ks) = ks.flatMap Nd.kids := rfl
        rw [et] at hf
        have h4 := sh4_loop 2 7 n (bs []) 0 0 0 0 0 0 false 0 0 0 1 0 0 0 7 n false 0 0 0 (w0 := encS n (uniD ks) (uniP ks)) (ks := ks) (by omega) hud huq (fun k hk => ⟨(hparts k hk).1, by have := uniD_mem hk; have := (hparts k hk).2.1; omega, uniP_mem hk⟩) (by omega) (fun i => by
          have e1 : (prsC (uniD ks) (uniD ks + uniP ks) 1 (ks.take i)).length = ((ks.take i).flatMap Nd.kids).length := by rw [← prsC_snd (uniD ks) (uniD ks + uniP ks) (ks.take i) 1, List.length_map]
          have e2 : ((ks.take i).flatMap Nd.kids).length ≤ (ks.flatMap Nd.kids).length := by
            conv => rhs; rw [← List.take_append_drop i ks, List.flatMap_append, List.length_append]
            omega
          omega) ks.length 0 (by omega)
        rw [List.take_zero, show prsC _ _ 1 ([] : List Nd) = [] from rfl, show els (uniD ks) (uniP ks) [] = [] from rfl] at h4
        rw [Nd.x]
        dsimp only [Nd.kind, Nd.elem, Nd.n, Nd.data, Nd.kids]
        rw [capnpref14_Shallow_eq, show ((2 : Int) == 1) = false from rfl, show ((7 : Int) != 7) = false from rfl, hU']
        dsimp only [za, zb, zc, zN, ze, zf, zg, zh, zi, zj, zu, zv, zx, zy, zL, zM, zk, zl, zm, zn, zo, zq, zr, zs, zt, zA, zC, zD, zE, zF, zG, zH, zI, zJ, zK]
        rw [hE]
        dsimp only [za, zb, zc, zN, ze, zf, zg, zh, zi, zj, zu, zv, zx, zy, zL, zM, zk, zl, zm, zn, zo, zq, zr, zs, zt, zA, zC, zD, zE, zF, zG, zH, zI, zJ, zK]
        refine (show _ = _ from h4).trans ?_
        rfl
      · have eo : objSz (.mk 2 e n d ks) = wordsOf e n := by
          unfold objSz
          show (if (2 : Int) = 0 then 0 else if (2 : Int) = 1 then _ else if e = 7 then _ else wordsOf e n) = _
          rw [if_neg (by decide), if_neg (by decide), if_neg e7]
        have hwr := wordsOf_range (e := e) hn'
        have hO := V_rObj13 h.gd h.vn (by omega) (by
          by_cases e6 : e = 6
          · have hk := (h6 (show (6 : Int) ≤ e by omega)).2
            have := uniD_le (l := ks) (b := 17592186044416) (fun y hy => by have := (good_len ((good_len h.gd).2.2 y hy)).1; omega)
            have := uniP_le (l := ks) (b := 1073741824) (fun y hy => (good_len ((good_len h.gd).2.2 y hy)).2.1)
            show uniD ks + uniP ks ≤ _
            omega
          · obtain rfl : ks = [] := List.length_eq_zero_iff.1 (hl6 (show e < 6 by omega)).1
            show 0 + 0 ≤ _; decide)
        rw [eo] at hO hb
        have hkl : ks.length ≤ 1073741824 := hg.1.2.2.1
        have h2 : ∀ W : List Int, _ := fun W => sh2_loop 2 e n (bs d) 0 0 0 0 0 0 false 0 0 0 1 0 0 e n false 0 0 0 (q := ks) (W := W) (i21 := 0) hkl ks.length 0 (by omega)
        rw [List.take_zero, show prsS 0 ([] : List Nd) = [] from rfl] at h2
        have ep : prs (.mk 2 e n d ks) 0 = prsS 0 ks := by
          show (if (2 : Int) = 1 then _ else if e = 7 then _ else prsS 0 ks) = _
          rw [if_neg (by decide), if_neg e7]
        have ept : ptP (.mk 2 e n d ks) = Pt1 0 e n := by
          show (if (2 : Int) = 1 then _ else if e = 7 then _ else Pt1 0 e n) = _
          rw [if_neg (by decide), if_neg e7]
        have main : ∀ (hp : d.length ≤ 8 * (wordsOf e n).toNat) (hw : wrdN (wordsOf e n).toNat d = shW (.mk 2 e n d ks)), ev 79 [.pv (Nd.mk 2 e n d ks).x] [] = ok (.tup [.sl 1 (ws (shW (.mk 2 e n d ks))), ptP (.mk 2 e n d ks), .sl 1 (ix (prs (.mk 2 e n d ks) 0))]) := fun hp hw => by
          have h1 := V_padded hg.1.2.1 (n := (wordsOf e n).toNat) (by omega) hp
          rw [show (((wordsOf e n).toNat : Nat) : Int) = wordsOf e n by omega, hw] at h1
          have h2' := h2 (shW (.mk 2 e n d ks))
          rw [Nd.x] at hO ⊢
          dsimp only [Nd.kind, Nd.elem, Nd.n, Nd.data, Nd.kids] at hO ⊢
          rw [capnpref14_Shallow_eq, show ((2 : Int) == 1) = false from rfl, show (e != 7) = true from by simpa using e7, hO]
          dsimp only [za, zb, zc, zN, ze, zf, zg, zh, zi, zj, zu, zv, zx, zy, zL, zM, zk, zl, zm, zn, zo, zq, zr, zs, zt, zA, zC, zD, zE, zF, zG, zH, zI, zJ, zK]
          rw [h1]
          dsimp only [za, zb, zc, zN, ze, zf, zg, zh, zi, zj, zu, zv, zx, zy, zL, zM, zk, zl, zm, zn, zo, zq, zr, zs, zt, zA, zC, zD, zE, zF, zG, zH, zI, zJ, zK]
          rw [pSlu_v]
          dsimp only [za, zb, zc, zN, ze, zf, zg, zh, zi, zj, zu, zv, zx, zy, zL, zM, zk, zl, zm, zn, zo, zq, zr, zs, zt, zA, zC, zD, zE, zF, zG, zH, zI, zJ, zK]
          refine (show _ = _ from h2').trans ?_
          rw [ep, ept]
          rfl
        by_cases e6 : e = 6
        · subst e6
          obtain ⟨a1, a2⟩ := h6 (show (6 : Int) ≤ 6 by decide)
          obtain rfl : d = [] := List.length_eq_zero_iff.1 a1
          have a2' : (ks.length : Int) = n := a2
          have hw6 : wordsOf 6 n = n := by unfold wordsOf bitsOf; simp; omega
          refine main (Nat.zero_le _) ?_
          rw [wrdN_nil, hw6, show n.toNat = ks.length by omega]
          rfl
        · obtain ⟨b1, b2, b3⟩ := hl6 (show e < 6 by omega)
          have b2' : (d.length : Int) = bytesN e n := b2
          have hbw := bytes_words (e := e) ⟨he'.1, by omega⟩ hn'
          refine main (by omega) ?_
          show _ = (if (2 : Int) = 1 then _ else if e = 7 then _ else if e = 6 then _ else wrdN (wordsOf e n).toNat d)
          rw [if_neg (by decide), if_neg e7, if_neg e6]
def rPlc (D : Nat) (t : Nd) : Prop := ∀ (W : List Int) (a : Nat), a < W.length → (W.length : Int) + nodSz D t ≤ 268435456 → ev 55 [.pv (.sl 1 (ws W)), .pv (I (a : Int)), .pv t.x] [] = ok (.sl 1 (ws (placeP (body D) a t W)))
theorem rplc_null {D : Nat} {t : Nd} (h : t.kind = 0) : rPlc D t := fun W a ha hl => by
  unfold placeP
  rw [Nd.x, capnpref14_Place_eq, beq_iff_eq.2 h, if_pos h]
  rfl
theorem place_v (p0 : PV) (i1 : Int) (xs2 : List PV) (p3 : PV) (i4 : Int) (i5 i6 i7 : Int) (xs8 xs9 : List PV) (p10 : PV) (i11 : Int) (p12 p13 p14 p15 p16 p17 p18 p19 : PV) : capnpref14_Place_L0 p0 i1 xs2 p3 i4 i5 i6 i7 xs8 xs9 p10 i11 p12 p13 p14 p15 p16 p17 p18 p19 = capnpref14_Place_L0v1 p0 i1 (.sl 1 xs2) p3 i4 i5 i6 i7 xs8 xs9 p10 i11 p12 p13 p14 p15 p16 p17 p18 p19 := by
  rw [capnpref14_Place_L0_eq, capnpref14_Place_L0v1_eq]
theorem ix_get {P : List (Nat × Nd)} {j : Nat} (h : j < P.length) : (ix P)[j]? = some (I ((P[j].1 : Nat) : Int)) := by simp [ix, h]
theorem rP_loop {D s : Nat} {P : List (Nat × Nd)} (hl : P.length ≤ 1073741824) (hP : ∀ p ∈ P, rPlc D p.2) (hO : ∀ p ∈ P, Ok D p.2) (i5 i6 i7 : Int) (xs8 xs9 : List PV) (p10 : PV) (i11 : Int) (p12 p13 p14 p15 p16 p17 p18 p19 : PV) : ∀ (c j : Nat) (W : List Int), j + c = P.length → (∀ p ∈ P, s + p.1 < W.length) → (W.length : Int) + sumL ((P.drop j).map fun p => nodSz D p.2) ≤ 268435456 →
    capnpref14_Place_L0v1 (.sl 1 (ix P)) s (.sl 1 (ws W)) (.sl 5 (pvs (P.map Prod.snd))) j i5 i6 i7 xs8 xs9 p10 i11 p12 p13 p14 p15 p16 p17 p18 p19 = ok (.sl 1 (ws (runP (body D) ((P.drop j).map (sh s)) W))) := by
  intro c
  induction c with
  | zero =>
    intro j W hj hs hb
    rw [capnpref14_Place_L0v1_eq]
    dsimp only [za, zb, zc, zN, ze, zf, zg, zh, zi, zj, zu, zv, zx, zy, zL, zM, zk, zl, zm, zn, zo, zq, zr, zs, zt, zA, zC, zD, zE, zF, zG, zH, zI, zJ, zK]
    rw [decide_eq_false (by simp; omega), List.drop_eq_nil_of_le (by omega)]
    rfl
  | succ c ih =>
    intro j W hj hs hb
    have hjl : j < P.length := by omega
    have hm := List.getElem_mem hjl
    have ho := hO _ hm
    have hds : sumL ((P.drop j).map fun p => nodSz D p.2) = nodSz D P[j].2 + sumL ((P.drop (j + 1)).map fun p => nodSz D p.2) := by
      rw [List.drop_eq_getElem_cons hjl, List.map_cons, sumL_cons]
    rw [hds] at hb
    have hnn := nodSz_nn D ho.vn
    have hr : 0 ≤ sumL ((P.drop (j + 1)).map fun p => nodSz D p.2) := sumL_nn fun y hy => by
      obtain ⟨t, ht, rfl⟩ := List.mem_map.1 hy
      exact nodSz_nn D (hO t (List.mem_of_mem_drop ht)).vn
    have hsp := hs _ hm
    have h1 := hP _ hm W (s + P[j].1) hsp (by omega)
    have hlen := placeP_len ho (s + P[j].1) W
    have hg2 : (pvs (P.map Prod.snd))[j]? = some P[j].2.pv := by
      rw [pvs_get (by rw [List.length_map]; exact hjl), List.getElem_map]
    dsimp only [Nd.x] at h1
    rw [capnpref14_Place_L0v1_eq]
    dsimp only [za, zb, zc, zN, ze, zf, zg, zh, zi, zj, zu, zv, zx, zy, zL, zM, zk, zl, zm, zn, zo, zq, zr, zs, zt, zA, zC, zD, zE, zF, zG, zH, zI, zJ, zK]
    rw [decide_eq_true (show (j : Int) < ((pvs (P.map Prod.snd)).length : Int) by simp; omega), decide_eq_true (show (1 : Nat) = 1 from rfl), decide_eq_true (show (5 : Nat) = 5 from rfl), decide_eq_true (show 0 ≤ (j : Int) by omega), decide_eq_true (show (j : Int) < ((ix P).length : Int) by rw [ix_len]; omega)]
    dsimp only [za, zb, zc, zN, ze, zf, zg, zh, zi, zj, zu, zv, zx, zy, zL, zM, zk, zl, zm, zn, zo, zq, zr, zs, zt, zA, zC, zD, zE, zF, zG, zH, zI, zJ, zK]
    rw [Int.toNat_natCast, ix_get hjl, hg2]
    dsimp only [za, zb, zc, zN, ze, zf, zg, zh, zi, zj, zu, zv, zx, zy, zL, zM, zk, zl, zm, zn, zo, zq, zr, zs, zt, zA, zC, zD, zE, zF, zG, zH, zI, zJ, zK]
    rw [nd_five, nd_cells, show (P[j].2.c.drop 0).take 5 = P[j].2.c from rfl]
    dsimp only [Nd.c, za, zb, zc, zN, ze, zf, zg, zh, zi, zj, zu, zv, zx, zy, zL, zM, zk, zl, zm, zn, zo, zq, zr, zs, zt, zA, zC, zD, zE, zF, zG, zH, zI, zJ, zK]
    rw [w64 (x := (s : Int) + (P[j].1 : Int)) (by omega), show (s : Int) + (P[j].1 : Int) = ((s + P[j].1 : Nat) : Int) by push_cast; rfl, h1]
    dsimp only [za, zb, zc, zN, ze, zf, zg, zh, zi, zj, zu, zv, zx, zy, zL, zM, zk, zl, zm, zn, zo, zq, zr, zs, zt, zA, zC, zD, zE, zF, zG, zH, zI, zJ, zK]
    rw [w64 (x := (j : Int) + 1) (by omega)]
    have := ih (j + 1) (placeP (body D) (s + P[j].1) P[j].2 W) (by omega) (fun p hp => by have := hs p hp; omega) (by omega)
    rw [List.drop_eq_getElem_cons hjl, List.map_cons]
    exact this
theorem rplace_ok : ∀ (D : Nat) (x : Nd), Ok D x → rPlc D x
  | 0, x, h => rplc_null h.dp
  | D + 1, x, h => by
    by_cases h0 : x.kind = 0
    · exact rplc_null h0
    · intro W a ha hl
      have hT := ok_tgt h h0
      have hdp := h.dp.resolve_left h0
      have hsn := sum_tgt_nn h h0
      have hon := objSz_nn h.vn
      rw [nodSz] at hl
      have hsh := V_Shallow h h0 (by omega) hdp.1
      have htg := V_rTargets h.gd hdp.1
      have hsnd := prs_snd h.vn h0
      have hpl : (prs x 0).length ≤ 1073741824 := by
        have := hdp.1
        rw [← hsnd, List.length_map] at this
        exact this
      have hmem : ∀ p ∈ prs x 0, p.2 ∈ tgt x := fun p hp => by rw [← hsnd]; exact List.mem_map.2 ⟨p, hp, rfl⟩
      rw [placeP_step h.vn h0 ha]
      have hsl := shW_len (B := body D) h.vn h0
      have hol := obW_len (body D) h.vn h0
      have hWl : (W ++ shW x).length = W.length + (shW x).length := List.length_append
      have hal : a < (W ++ shW x).length := by omega
      obtain ⟨y0, hy0⟩ := put_ok hal 0
      have hsum : sumL ((prs x 0).map fun p => nodSz D p.2) = sumL ((tgt x).map (nodSz D)) := by
        rw [← hsnd, List.map_map]; rfl
      have hlt := prs_lt h.vn h0
      have hloop : ∀ (w : Int) (i5 i6 i7 : Int) (xs8 xs9 : List PV) (p10 : PV) (i11 : Int) (p12 p13 p14 p15 p16 p17 p18 p19 : PV), capnpref14_Place_L0 (.sl 1 (ix (prs x 0))) W.length (ws ((W ++ shW x).set a w)) (.sl 5 (pvs (tgt x))) 0 i5 i6 i7 xs8 xs9 p10 i11 p12 p13 p14 p15 p16 p17 p18 p19 = ok (.sl 1 (ws (runP (body D) (prs x W.length) ((W ++ shW x).set a w)))) := fun w i5 i6 i7 xs8 xs9 p10 i11 p12 p13 p14 p15 p16 p17 p18 p19 => by
        have := rP_loop (D := D) (s := W.length) (P := prs x 0) hpl (fun p hp => rplace_ok D p.2 (hT _ (hmem p hp))) (fun p hp => hT _ (hmem p hp)) i5 i6 i7 xs8 xs9 p10 i11 p12 p13 p14 p15 p16 p17 p18 p19 (prs x 0).length 0 ((W ++ shW x).set a w) (by omega) (fun p hp => by rw [List.length_set, hWl]; have := hlt p hp; omega) (by rw [List.length_set, hWl, List.drop_zero, hsum]; omega)
        rw [List.drop_zero, prs_sh, hsnd] at this
        rw [place_v]
        exact this
      have k0 : (x.kind == 0) = false := beq_eq_false_iff_ne.2 h0
      obtain ⟨hs, hkk⟩ := vn_shp h.vn
      rcases hs with hs | hs | hs
      · exact absurd hs.1 h0
      · obtain ⟨d, ks, rfl, g1, g2, g3, g4, g5, g6⟩ := st_parts h.vn h.tr h.gd hs.1
        have e0 : ptP (.mk 1 0 0 d ks) = Pt0 0 (d.length / 8) ks.length := rfl
        rw [e0] at hsh
        dsimp only [Nd.x, Nd.kind, Nd.elem, Nd.n, Nd.data, Nd.kids] at hsh htg ⊢
        rw [capnpref14_Place_eq, show ((1 : Int) == 0) = false from rfl, hsh]
        dsimp only [Pt0, za, zb, zc, zN, ze, zf, zg, zh, zi, zj, zu, zv, zx, zy, zL, zM, zk, zl, zm, zn, zo, zq, zr, zs, zt, zA, zC, zD, zE, zF, zG, zH, zI, zJ, zK]
        rw [ws_len, w64 (x := (W.length : Int) - a) (by omega), w64 (x := (W.length : Int) - a - 1) (by omega), roomy_ok (by omega) (by omega), ws_len, roomy_ok (by omega) (by omega), ← ws_app, show ((0 : Int) == 0) = true from rfl]
        dsimp only [za, zb, zc, zN, ze, zf, zg, zh, zi, zj, zu, zv, zx, zy, zL, zM, zk, zl, zm, zn, zo, zq, zr, zs, zt, zA, zC, zD, zE, zF, zG, zH, zI, zJ, zK]
        by_cases hz : d.length / 8 = 0 ∧ ks.length = 0
        · have hE := V_rEncode0 (off := -1) (d := d.length / 8) (q := ks.length) (by decide) (by omega) g6
          have e1 : ptrI (.mk 1 0 0 d ks) ((W.length : Int) - a - 1) = encS (-1) (d.length / 8) ks.length := by
            show (if (1 : Int) = 0 then 0 else if (1 : Int) = 1 then (if d.length / 8 = 0 ∧ ks.length = 0 then encS (-1) 0 0 else _) else _) = _
            rw [if_neg (by decide), if_pos rfl, if_pos hz, hz.1, hz.2]
          rw [e1, show (((d.length / 8 : Nat) : Int) == 0) = true from by simp [hz.1], show ((ks.length : Int) == 0) = true from by simp [hz.2]]
          dsimp only [za, zb, zc, zN, ze, zf, zg, zh, zi, zj, zu, zv, zx, zy, zL, zM, zk, zl, zm, zn, zo, zq, zr, zs, zt, zA, zC, zD, zE, zF, zG, zH, zI, zJ, zK]
          rw [hE]
          dsimp only [za, zb, zc, zN, ze, zf, zg, zh, zi, zj, zu, zv, zx, zy, zL, zM, zk, zl, zm, zn, zo, zq, zr, zs, zt, zA, zC, zD, zE, zF, zG, zH, zI, zJ, zK]
          rw [decide_eq_true (show (1 : Nat) = 1 from rfl), decide_eq_true (show 0 ≤ (a : Int) by omega), decide_eq_true (show (a : Int) < ((ws (W ++ shW (.mk 1 0 0 d ks))).length : Int) by rw [ws_len]; omega), Int.toNat_natCast, hy0]
          dsimp only [setCells, List.length_cons, List.length_nil, za, zb, zc, zN, ze, zf, zg, zh, zi, zj, zu, zv, zx, zy, zL, zM, zk, zl, zm, zn, zo, zq, zr, zs, zt, zA, zC, zD, zE, zF, zG, zH, zI, zJ, zK]
          rw [htg]
          dsimp only [za, zb, zc, zN, ze, zf, zg, zh, zi, zj, zu, zv, zx, zy, zL, zM, zk, zl, zm, zn, zo, zq, zr, zs, zt, zA, zC, zD, zE, zF, zG, zH, zI, zJ, zK]
          rw [ws_set]
          exact hloop ..
        · have hE := V_rEncode0 (off := (W.length : Int) - a - 1) (d := d.length / 8) (q := ks.length) (by omega) (by omega) g6
          have e1 : ptrI (.mk 1 0 0 d ks) ((W.length : Int) - a - 1) = encS ((W.length : Int) - a - 1) (d.length / 8) ks.length := by
            show (if (1 : Int) = 0 then 0 else if (1 : Int) = 1 then (if d.length / 8 = 0 ∧ ks.length = 0 then _ else encS ((W.length : Int) - a - 1) (d.length / 8) ks.length) else _) = _
            rw [if_neg (by decide), if_pos rfl, if_neg hz]
          rw [e1]
          by_cases hz1 : d.length / 8 = 0
          · rw [show (((d.length / 8 : Nat) : Int) == 0) = true from by simp [hz1], show ((ks.length : Int) == 0) = false from beq_eq_false_iff_ne.2 (fun h2 => hz ⟨hz1, by omega⟩)]
            dsimp only [za, zb, zc, zN, ze, zf, zg, zh, zi, zj, zu, zv, zx, zy, zL, zM, zk, zl, zm, zn, zo, zq, zr, zs, zt, zA, zC, zD, zE, zF, zG, zH, zI, zJ, zK]
            rw [hE]
            dsimp only [za, zb, zc, zN, ze, zf, zg, zh, zi, zj, zu, zv, zx, zy, zL, zM, zk, zl, zm, zn, zo, zq, zr, zs, zt, zA, zC, zD, zE, zF, zG, zH, zI, zJ, zK]
            rw [decide_eq_true (show (1 : Nat) = 1 from rfl), decide_eq_true (show 0 ≤ (a : Int) by omega), decide_eq_true (show (a : Int) < ((ws (W ++ shW (.mk 1 0 0 d ks))).length : Int) by rw [ws_len]; omega), Int.toNat_natCast, hy0]
            dsimp only [setCells, List.length_cons, List.length_nil, za, zb, zc, zN, ze, zf, zg, zh, zi, zj, zu, zv, zx, zy, zL, zM, zk, zl, zm, zn, zo, zq, zr, zs, zt, zA, zC, zD, zE, zF, zG, zH, zI, zJ, zK]
            rw [htg]
            dsimp only [za, zb, zc, zN, ze, zf, zg, zh, zi, zj, zu, zv, zx, zy, zL, zM, zk, zl, zm, zn, zo, zq, zr, zs, zt, zA, zC, zD, zE, zF, zG, zH, zI, zJ, zK]
            rw [ws_set]
            exact hloop ..
          · rw [show (((d.length / 8 : Nat) : Int) == 0) = false from beq_eq_false_iff_ne.2 (by omega)]
            dsimp only [za, zb, zc, zN, ze, zf, zg, zh, zi, zj, zu, zv, zx, zy, zL, zM, zk, zl, zm, zn, zo, zq, zr, zs, zt, zA, zC, zD, zE, zF, zG, zH, zI, zJ, zK]
            rw [hE]
            dsimp only [za, zb, zc, zN, ze, zf, zg, zh, zi, zj, zu, zv, zx, zy, zL, zM, zk, zl, zm, zn, zo, zq, zr, zs, zt, zA, zC, zD, zE, zF, zG, zH, zI, zJ, zK]
            rw [decide_eq_true (show (1 : Nat) = 1 from rfl), decide_eq_true (show 0 ≤ (a : Int) by omega), decide_eq_true (show (a : Int) < ((ws (W ++ shW (.mk 1 0 0 d ks))).length : Int) by rw [ws_len]; omega), Int.toNat_natCast, hy0]
            dsimp only [setCells, List.length_cons, List.length_nil, za, zb, zc, zN, ze, zf, zg, zh, zi, zj, zu, zv, zx, zy, zL, zM, zk, zl, zm, zn, zo, zq, zr, zs, zt, zA, zC, zD, zE, zF, zG, zH, zI, zJ, zK]
            rw [htg]
            dsimp only [za, zb, zc, zN, ze, zf, zg, zh, zi, zj, zu, zv, zx, zy, zL, zM, zk, zl, zm, zn, zo, zq, zr, zs, zt, zA, zC, zD, zE, zF, zG, zH, zI, zJ, zK]
            rw [ws_set]
            exact hloop ..
      · cases x with
        | mk k e n d ks =>
          obtain ⟨k2, hn, he, h6, hl6⟩ := hs
          have k2' : k = 2 := k2
          subst k2'
          have hn' : 0 ≤ n ∧ n ≤ 536870911 := hn
          have he' : 0 ≤ e ∧ e ≤ 7 := he
          have pt : ∃ c : Int, ptP (.mk 2 e n d ks) = Pt1 0 e c ∧ (0 ≤ c ∧ c ≤ 536870911) ∧ ptrI (.mk 2 e n d ks) ((W.length : Int) - a - 1) = encL ((W.length : Int) - a - 1) e c := by
            by_cases e7 : e = 7
            · subst e7
              have a2' : (ks.length : Int) = n := (h6 (show (6 : Int) ≤ 7 by decide)).2
              have hnu : n * ((uniD ks + uniP ks : Nat) : Int) = ((ks.length * (uniD ks + uniP ks) : Nat) : Int) := by rw [← a2']; push_cast; rfl
              have eo : objSz (.mk 2 7 n d ks) = 1 + n * ((uniD ks + uniP ks : Nat) : Int) := rfl
              rw [eo, hnu] at hl
              refine ⟨((ks.length * (uniD ks + uniP ks) : Nat) : Int), rfl, by omega, ?_⟩
              rw [← hnu]; rfl
            · refine ⟨n, ?_, hn', ?_⟩
              · show (if (2 : Int) = 1 then _ else if e = 7 then _ else Pt1 0 e n) = _
                rw [if_neg (by decide), if_neg e7]
              · show (if (2 : Int) = 0 then 0 else if (2 : Int) = 1 then _ else if e = 7 then _ else encL ((W.length : Int) - a - 1) e n) = _
                rw [if_neg (by decide), if_neg (by decide), if_neg e7]
          obtain ⟨c, e0, hc, e1⟩ := pt
          have hE := V_rEncode1 (off := (W.length : Int) - a - 1) (e := e) (c := c) (by omega) he' hc
          rw [e0] at hsh
          rw [e1]
          dsimp only [Nd.x, Nd.kind, Nd.elem, Nd.n, Nd.data, Nd.kids] at hsh htg ⊢
          rw [capnpref14_Place_eq, show ((2 : Int) == 0) = false from rfl, hsh]
          dsimp only [Pt1, za, zb, zc, zN, ze, zf, zg, zh, zi, zj, zu, zv, zx, zy, zL, zM, zk, zl, zm, zn, zo, zq, zr, zs, zt, zA, zC, zD, zE, zF, zG, zH, zI, zJ, zK]
          rw [ws_len, w64 (x := (W.length : Int) - a) (by omega), w64 (x := (W.length : Int) - a - 1) (by omega), roomy_ok (by omega) (by omega), ws_len, roomy_ok (by omega) (by omega), ← ws_app, show ((1 : Int) == 0) = false from rfl]
          dsimp only [za, zb, zc, zN, ze, zf, zg, zh, zi, zj, zu, zv, zx, zy, zL, zM, zk, zl, zm, zn, zo, zq, zr, zs, zt, zA, zC, zD, zE, zF, zG, zH, zI, zJ, zK]
          rw [hE]
          dsimp only [za, zb, zc, zN, ze, zf, zg, zh, zi, zj, zu, zv, zx, zy, zL, zM, zk, zl, zm, zn, zo, zq, zr, zs, zt, zA, zC, zD, zE, zF, zG, zH, zI, zJ, zK]
          rw [decide_eq_true (show (1 : Nat) = 1 from rfl), decide_eq_true (show 0 ≤ (a : Int) by omega), decide_eq_true (show (a : Int) < ((ws (W ++ shW (.mk 2 e n d ks))).length : Int) by rw [ws_len]; omega), Int.toNat_natCast, hy0]
          dsimp only [setCells, List.length_cons, List.length_nil, za, zb, zc, zN, ze, zf, zg, zh, zi, zj, zu, zv, zx, zy, zL, zM, zk, zl, zm, zn, zo, zq, zr, zs, zt, zA, zC, zD, zE, zF, zG, zH, zI, zJ, zK]
          rw [htg]
          dsimp only [za, zb, zc, zN, ze, zf, zg, zh, zi, zj, zu, zv, zx, zy, zL, zM, zk, zl, zm, zn, zo, zq, zr, zs, zt, zA, zC, zD, zE, zF, zG, zH, zI, zJ, zK]
          rw [ws_set]
          exact hloop ..
theorem V_rWrite {D : Nat} {x : Nd} (h : Ok D x) (hb : nodSz D x ≤ 134217728) : ev 34 [.pv x.x] [] = ok (.sl 1 (ws (canW D x))) := by
  have h2 := rplace_ok D x h [0] 0 (by decide) (by simp; omega)
  rw [unit_ok] at h2
  dsimp only [Nd.x] at h2 ⊢
  rw [capnpref14_Write_eq]
  refine (congrArg (fun z => callT z _ _) (show _ = _ from h2)).trans ?_
  rfl
end Go.Proofs.YtfljialckkgacaaGreatDoor.E
set_option linter.unusedVariables false
set_option linter.unusedSimpArgs false
namespace Go.Proofs.YtfljialckkgacaaGreatDoor.E
/-! The size of a denotation, and its cost. -/
theorem msg_ok {l : List (List Int)} (hl : Segs l) (hs : Sm l) {d w : Int} (hw : w ≤ 4611686018427387904) (h0 : (runT l d w).2.2 = 0) : Ok d.toNat (msgN l d w) ∧ cstN d.toNat (msgN l d w) ≤ meaC l d w := by
  obtain ⟨a1, a2⟩ := runT_okd hl hs h0
  have hg := (runT_ok hl hs (d := d) (w := w) hw).2
  unfold msgN meaC
  rw [if_pos h0, if_pos h0]
  refine ⟨⟨vn_trim _ a1, tr_trim _ hg, good_trim _ hg, dp_trim _ _ a2⟩, ?_⟩
  unfold runT at h0 ⊢
  split
  · rw [trimN0]
    cases d.toNat with
    | zero => show (0 : Int) ≤ max w 0 - max w 0; omega
    | succ D =>
      rw [cstN]
      show (if (0 : Int) = 0 then (0 : Int) else _) ≤ max w 0 - max w 0
      rw [if_pos rfl]
      omega
  · rename_i he
    rw [if_neg he] at h0
    exact (den_cst hl hs _ _ _ _ h0).1
end Go.Proofs.YtfljialckkgacaaGreatDoor.E
set_option linter.unusedVariables false
set_option linter.unusedSimpArgs false
namespace Go.Proofs.YtfljialckkgacaaGreatDoor.E
/-! The canonical form as a message. -/
theorem encS_word {off : Int} {d q : Nat} (hd : d ≤ 65535) (hq : q ≤ 65535) : Word (encS off d q) := by
  have hm := Int.emod_nonneg off (show (1073741824 : Int) ≠ 0 by decide)
  have hl := Int.emod_lt_of_pos off (show (0 : Int) < 1073741824 by decide)
  exact ⟨by unfold encS; omega, by unfold encS; omega⟩
theorem encL_word {off e c : Int} (he : 0 ≤ e ∧ e ≤ 7) (hc : 0 ≤ c ∧ c ≤ 536870911) : Word (encL off e c) := by
  have hm := Int.emod_nonneg off (show (1073741824 : Int) ≠ 0 by decide)
  have hl := Int.emod_lt_of_pos off (show (0 : Int) < 1073741824 by decide)
  exact ⟨by unfold encL; omega, by unfold encL; omega⟩
theorem word0 : Word 0 := ⟨by decide, by decide⟩
theorem nodSz_obj {D : Nat} {x : Nd} (hv : VN x) : objSz x ≤ nodSz D x := by
  cases D with
  | zero => exact Int.le_refl _
  | succ D =>
    rw [nodSz]
    have : 0 ≤ sumL ((tgt x).map (nodSz D)) := sumL_nn fun y hy => by
      obtain ⟨t, ht, rfl⟩ := List.mem_map.1 hy
      exact nodSz_nn D (vn_tgt hv t ht)
    omega
theorem ptr_word {D : Nat} {t : Nd} (h : Ok D t) (hb : nodSz D t ≤ 268435456) (off : Int) : Word (ptrI t off) := by
  obtain ⟨hs, hk⟩ := vn_shp h.vn
  have hob := nodSz_obj (D := D) h.vn
  unfold ptrI
  by_cases h0 : t.kind = 0
  · rw [if_pos h0]; exact word0
  · rw [if_neg h0]
    by_cases h1 : t.kind = 1
    · obtain ⟨d, q, rfl, g1, g2, g3, g4, g5, g6⟩ := st_parts h.vn h.tr h.gd h1
      rw [if_pos h1]
      split
      · exact encS_word (by omega) (by omega)
      · exact encS_word (by show d.length / 8 ≤ _; omega) g6
    · rw [if_neg h1]
      have hs2 : t.kind = 2 ∧ _ := (hs.resolve_left (fun h => h0 h.1)).resolve_left (fun h => h1 h.1)
      by_cases h7 : t.elem = 7
      · rw [if_pos h7]
        unfold objSz at hob
        rw [if_neg h0, if_neg h1, if_pos h7] at hob
        have := Int.mul_nonneg hs2.2.1.1 (Int.natCast_nonneg (uni t))
        unfold uni at this ⊢
        exact encL_word (by decide) (by omega)
      · rw [if_neg h7]
        exact encL_word hs2.2.2.1 hs2.2.1
theorem ptrW_word {B : Nd → List Int} : ∀ (l : List Nd) (i p : Nat), (∀ t ∈ l, ∀ off, Word (ptrI t off)) → ∀ w ∈ ptrW B i p l, Word w
  | [], i, p, h, w, hw => by cases hw
  | t :: r, i, p, h, w, hw => by
    rw [ptrW] at hw
    rcases List.mem_cons.1 hw with rfl | hw
    · exact h t List.mem_cons_self _
    · exact ptrW_word r _ _ (fun t ht => h t (List.mem_cons_of_mem _ ht)) w hw
theorem asmC_word {B : Nd → List Int} {a b : Nat} : ∀ (l : List Nd) (i p : Nat), (∀ k ∈ l, (∀ x ∈ k.data, Byte x) ∧ ∀ t ∈ k.kids, ∀ off, Word (ptrI t off)) → ∀ w ∈ asmC B a b i p l, Word w
  | [], i, p, h, w, hw => by cases hw
  | k :: r, i, p, h, w, hw => by
    rw [asmC] at hw
    obtain ⟨h1, h2⟩ := h k List.mem_cons_self
    rcases List.mem_append.1 hw with hw | hw
    · rcases List.mem_append.1 hw with hw | hw
      · exact wrdN_word _ h1 w hw
      · rcases List.mem_append.1 hw with hw | hw
        · exact ptrW_word _ _ _ h2 w hw
        · rw [(List.mem_replicate.1 hw).2]; exact word0
    · exact asmC_word r _ _ (fun t ht => h t (List.mem_cons_of_mem _ ht)) w hw
theorem sumL_mem {f : Nd → Int} : ∀ {l : List Nd}, (∀ t ∈ l, 0 ≤ f t) → ∀ t ∈ l, f t ≤ sumL (l.map f)
  | [], h, t, ht => by cases ht
  | x :: l, h, t, ht => by
    rw [List.map_cons, sumL_cons]
    have h0 := h x List.mem_cons_self
    have hr : 0 ≤ sumL (l.map f) := sumL_nn fun y hy => by
      obtain ⟨z, hz, rfl⟩ := List.mem_map.1 hy
      exact h z (List.mem_cons_of_mem _ hz)
    rcases List.mem_cons.1 ht with rfl | ht
    · omega
    · have := sumL_mem (fun z hz => h z (List.mem_cons_of_mem _ hz)) t ht; omega
theorem body_word : ∀ (D : Nat) (x : Nd), Ok D x → nodSz D x ≤ 268435456 → ∀ w ∈ body D x, Word w
  | 0, x, h, hb, w, hw => by cases hw
  | D + 1, x, h, hb, w, hw => by
    rw [body] at hw
    by_cases h0 : x.kind = 0
    · rw [if_pos h0] at hw; cases hw
    · rw [if_neg h0] at hw
      rw [nodSz] at hb
      have hT := ok_tgt h h0
      have hon := objSz_nn h.vn
      have hTb : ∀ t ∈ tgt x, nodSz D t ≤ 268435456 := fun t ht => by
        have := sumL_mem (f := nodSz D) (fun t ht => nodSz_nn D (hT t ht).vn) t ht
        omega
      have hP : ∀ t ∈ tgt x, ∀ off, Word (ptrI t off) := fun t ht => ptr_word (hT t ht) (hTb t ht)
      obtain ⟨hs, hkk⟩ := vn_shp h.vn
      rcases List.mem_append.1 hw with hw | hw
      · unfold obW at hw
        by_cases h1 : x.kind = 1
        · obtain ⟨d, q, rfl, g1, g2, g3, g4, g5, g6⟩ := st_parts h.vn h.tr h.gd h1
          rw [if_pos h1] at hw
          rcases List.mem_append.1 hw with hw | hw
          · exact wrdN_word _ g3 w hw
          · exact ptrW_word _ _ _ hP w hw
        · have hs2 := (hs.resolve_left (fun h => h0 h.1)).resolve_left (fun h => h1 h.1)
          rw [if_neg h1] at hw
          cases x with
          | mk k e n d ks =>
            have hg := h.gd
            rw [good] at hg
            obtain ⟨k2, hn, he, h6, hl6⟩ := hs2
            have k2' : k = 2 := k2
            subst k2'
            have hn' : 0 ≤ n ∧ n ≤ 536870911 := hn
            by_cases e7 : e = 7
            · subst e7
              have hw : w ∈ encS n (uniD ks) (uniP ks) :: asmC (body D) (uniD ks) (uniP ks) 1 (1 + ks.length * uni (.mk 2 7 n d ks)) ks := hw
              have hst : ∀ k ∈ ks, k.kind = 1 := by
                cases h.vn with
                | mk v1 v2 v3 => exact v2 rfl rfl
              have htr : ∀ k ∈ ks, TrN k := by
                cases h.tr with
                | mk t1 t2 => exact t2
              have hparts : ∀ k ∈ ks, (∀ x ∈ k.data, Byte x) ∧ k.data.length % 8 = 0 ∧ k.data.length ≤ 524280 ∧ k.kids.length ≤ 65535 := fun k hk => by
                obtain ⟨d, q, rfl, g1, g2, g3, g4, g5, g6⟩ := st_parts (hkk k hk) (htr k hk) (goods_iff.1 hg.2 k hk) (hst k hk)
                exact ⟨g3, g4, g5, g6⟩
              rcases List.mem_cons.1 hw with rfl | hw
              · exact encS_word (uniD_le fun x hx => by have := (hparts x hx).2.2.1; omega) (uniP_le fun x hx => (hparts x hx).2.2.2)
              · exact asmC_word ks _ _ (fun k hk => ⟨(hparts k hk).1, fun t ht => hP t (List.mem_flatMap.2 ⟨k, hk, ht⟩)⟩) w hw
            · have et : tgt (.mk 2 e n d ks) = ks := by
                show (if (2 : Int) = 2 ∧ e = 7 then _ else ks) = _
                rw [if_neg (fun h => e7 h.2)]
              rw [et] at hP
              rw [if_neg (show ¬ (Nd.mk 2 e n d ks).elem = 7 from e7)] at hw
              split at hw
              · exact ptrW_word _ _ _ hP w hw
              · exact wrdN_word _ hg.1.2.1 w hw
      · obtain ⟨t, ht, hw⟩ := List.mem_flatMap.1 hw
        exact body_word D t (hT t ht) (hTb t ht) w hw
theorem canW_word {D : Nat} {x : Nd} (h : Ok D x) (hb : nodSz D x ≤ 268435456) : ∀ w ∈ canW D x, Word w := fun w hw => by
  rcases List.mem_cons.1 hw with rfl | hw
  · exact ptr_word h hb 0
  · exact body_word D x h hb w hw
theorem canW_len {D : Nat} {x : Nd} (h : Ok D x) : ((canW D x).length : Int) = nodSz D x + 1 := by
  rw [canW, List.length_cons, ← body_len' h]; push_cast; rfl
noncomputable def canM (l : List (List Int)) (d w : Int) : List Int := if msgE l d w = 0 then canW d.toNat (msgN l d w) else []
theorem msg_small {l : List (List Int)} (hl : Segs l) (hs : Sm l) {d w : Int} (hw : w ≤ 134217728) (h0 : msgE l d w = 0) : Ok d.toNat (msgN l d w) ∧ nodSz d.toNat (msgN l d w) ≤ 134217728 ∧ cstN d.toNat (msgN l d w) ≤ max w 0 := by
  obtain ⟨ho, hc⟩ := msg_ok hl hs (by omega) (show (runT l d w).2.2 = 0 from h0)
  have hr1 := (runT_ok hl hs (d := d) (w := w) (by omega)).1
  unfold Mt at hr1
  have hle := nodSz_le d.toNat ho.vn ho.dp
  have hmc : meaC l d w ≤ max w 0 := by
    unfold meaC
    split <;> omega
  exact ⟨ho, by omega, by omega⟩
theorem V_rCanon {l : List (List Int)} (hl : Segs l) (hs : Sm l) {d w b : Int} (hd : d ≤ 1099511627775) (hw : w ≤ 134217728) : ev 13 [.pv (.sl 1 (sgs l)), .pv (.agg [I d, I w, I b])] [] = ok (.tup [.sl 1 (ws (canM l d w)), I (msgE l d w)]) := by
  rw [capnpref15_Words_eq, V_rMessage hl hs hd (by omega)]
  dsimp only [Nd.x, ↓cl5, za, zb, zc, zN, ze, zf, zg, zh, zi, zj, zu, zv, zx, zy, zL, zM, zk, zl, zm, zn, zo, zq, zr, zs, zt, zA, zC, zD, zE, zF, zG, zH, zI, zJ, zK]
  unfold canM
  by_cases h0 : msgE l d w = 0
  · obtain ⟨ho, hb, _⟩ := msg_small hl hs hw h0
    have h1 := V_rWrite ho hb
    dsimp only [Nd.x] at h1
    rw [h0, show ((0 : Int) != 0) = false from rfl, if_pos rfl]
    dsimp only [↓cl5, za, zb, zc, zN, ze, zf, zg, zh, zi, zj, zu, zv, zx, zy, zL, zM, zk, zl, zm, zn, zo, zq, zr, zs, zt, zA, zC, zD, zE, zF, zG, zH, zI, zJ, zK]
    rw [h1]
    rfl
  · rw [bne_t h0, if_neg h0]
    rfl
end Go.Proofs.YtfljialckkgacaaGreatDoor.E
set_option linter.unusedVariables false
set_option linter.unusedSimpArgs false
namespace Go.Proofs.YtfljialckkgacaaGreatDoor.E
/-! Hashes: the program's steps and the reference's. -/
def stp (s b : Int) : Int := IntKind.wrap .u64 ((IntKind.wrap .u64 ((BitVec.ofInt 64 s ^^^ BitVec.ofInt 64 (IntKind.wrap .u64 b)).toNat : Nat)) * 1099511628211)
def fnvB (s : Int) (l : List Int) : Int := l.foldl stp s
theorem wrap64 (x : Int) : IntKind.wrap .u64 x = x % 18446744073709551616 := by
  simp [IntKind.wrap, IntKind.bits, IntKind.signed]
theorem stp_word (s b : Int) : Word (stp s b) := by
  unfold stp
  rw [wrap64]
  exact ⟨by omega, by omega⟩
theorem step_loop {l : List Int} (hl : l.length ≤ 4611686018427387904) : ∀ (c i : Nat) (s : Int), i + c = l.length → fnv_step_L0 s (bs l) l.length i = ok (U (fnvB s (l.drop i))) := by
  intro c
  induction c with
  | zero =>
    intro i s hi
    rw [fnv_step_L0_eq, decide_eq_false (by omega), List.drop_eq_nil_of_le (by omega)]
    rfl
  | succ c ih =>
    intro i s hi
    have hil : i < l.length := by omega
    rw [fnv_step_L0_eq, decide_eq_true (show (i : Int) < (l.length : Int) by omega), decide_eq_true (show 0 ≤ (i : Int) by omega), decide_eq_true (show (i : Int) < ((bs l).length : Int) by rw [bs_len]; omega)]
    dsimp only [za, zb, zc, zN, ze, zf, zg, zh, zi, zj, zu, zv, zx, zy, zL, zM, zk, zl, zm, zn, zo, zq, zr, zs, zt, zA, zC, zD, zE, zF, zG, zH, zI, zJ, zK]
    rw [Int.toNat_natCast, show (bs l)[i]? = some (U8 l[i]) by simp [bs, hil]]
    dsimp only [za, zb, zc, zN, ze, zf, zg, zh, zi, zj, zu, zv, zx, zy, zL, zM, zk, zl, zm, zn, zo, zq, zr, zs, zt, zA, zC, zD, zE, zF, zG, zH, zI, zJ, zK]
    rw [w64 (x := (i : Int) + 1) (by omega)]
    have := ih (i + 1) (stp s l[i]) (by omega)
    rw [List.drop_eq_getElem_cons hil]
    exact this
theorem V_step {l : List Int} (hl : l.length ≤ 4611686018427387904) (s : Int) : ev 70 [.pv (U s), .pv (.sl 1 (bs l))] [] = ok (U (fnvB s l)) := by
  rw [fnv_step_eq, bs_len]
  exact step_loop hl l.length 0 s (by omega)
theorem fnvB_app (s : Int) (a b : List Int) : fnvB s (a ++ b) = fnvB (fnvB s a) b := List.foldl_append ..
theorem byt_cons (w : Int) (l : List Int) : byt (w :: l) = w8 w ++ byt l := rfl
theorem fnvw_loop {l : List Int} (hl : l.length ≤ 17592186044416) : ∀ (c i : Nat) (s : Int), i + c = l.length → fnv_Words_L0 (U s) (ws l) l.length i = ok (U (fnvB s (byt (l.drop i)))) := by
  intro c
  induction c with
  | zero =>
    intro i s hi
    rw [fnv_Words_L0_eq, decide_eq_false (by omega), List.drop_eq_nil_of_le (by omega)]
    rfl
  | succ c ih =>
    intro i s hi
    have hil : i < l.length := by omega
    have hb := V_Bytes [l[i]] (by simp)
    have hs := V_step (l := byt [l[i]]) (by rw [byt_len]; simp) s
    rw [fnv_Words_L0_eq, decide_eq_true (show (i : Int) < (l.length : Int) by omega), decide_eq_true (show 0 ≤ (i : Int) by omega), decide_eq_true (show (i : Int) < ((ws l).length : Int) by rw [ws_len]; omega)]
    dsimp only [za, zb, zc, zN, ze, zf, zg, zh, zi, zj, zu, zv, zx, zy, zL, zM, zk, zl, zm, zn, zo, zq, zr, zs, zt, zA, zC, zD, zE, zF, zG, zH, zI, zJ, zK]
    rw [Int.toNat_natCast, ws_get hil]
    have hb' : ev 71 [.pv (.sl 1 [U l[i]])] [] = ok (.sl 1 (bs (byt [l[i]]))) := hb
    dsimp only [↓wcell, za, zb, zc, zN, ze, zf, zg, zh, zi, zj, zu, zv, zx, zy, zL, zM, zk, zl, zm, zn, zo, zq, zr, zs, zt, zA, zC, zD, zE, zF, zG, zH, zI, zJ, zK]
    rw [hb']
    dsimp only [za, zb, zc, zN, ze, zf, zg, zh, zi, zj, zu, zv, zx, zy, zL, zM, zk, zl, zm, zn, zo, zq, zr, zs, zt, zA, zC, zD, zE, zF, zG, zH, zI, zJ, zK]
    rw [hs]
    dsimp only [za, zb, zc, zN, ze, zf, zg, zh, zi, zj, zu, zv, zx, zy, zL, zM, zk, zl, zm, zn, zo, zq, zr, zs, zt, zA, zC, zD, zE, zF, zG, zH, zI, zJ, zK]
    rw [w64 (x := (i : Int) + 1) (by omega)]
    have := ih (i + 1) (fnvB s (byt [l[i]])) (by omega)
    have e : byt [l[i]] = w8 l[i] := by simp [byt]
    refine (show _ = _ from this).trans ?_
    rw [e, List.drop_eq_getElem_cons hil, byt_cons, fnvB_app]
def off : Int := 14695981039346656037
theorem V_fnv {l : List Int} (hl : l.length ≤ 17592186044416) : ev 51 [.pv (.sl 1 (ws l))] [] = ok (U (fnvB off (byt l))) := by
  rw [fnv_Words_eq, fnv_Start_eq]
  dsimp only [za, zb, zc, zN, ze, zf, zg, zh, zi, zj, zu, zv, zx, zy, zL, zM, zk, zl, zm, zn, zo, zq, zr, zs, zt, zA, zC, zD, zE, zF, zG, zH, zI, zJ, zK]
  rw [ws_len, show (14695981039346656037 : Int) = off from rfl]
  exact fnvw_loop hl l.length 0 off (by omega)
-- the reference: one step, bit by bit
theorem xor_succ (a c k : Nat) : (a ^^^ c) % 2 ^ (k + 1) = (a ^^^ c) % 2 ^ k + (if a / 2 ^ k % 2 ≠ c / 2 ^ k % 2 then 2 ^ k else 0) := by
  rw [Nat.mod_pow_succ, Nat.xor_div_two_pow]
  have h0 : (a / 2 ^ k ^^^ c / 2 ^ k) % 2 ^ 1 = (a / 2 ^ k) % 2 ^ 1 ^^^ (c / 2 ^ k) % 2 ^ 1 := Nat.xor_mod_two_pow
  rw [Nat.pow_one] at h0
  have h1 := Nat.mod_two_eq_zero_or_one (a / 2 ^ k)
  have h2 := Nat.mod_two_eq_zero_or_one (c / 2 ^ k)
  rw [h0]
  rcases h1 with h1 | h1 <;> rcases h2 with h2 | h2 <;> simp [h1, h2]
theorem xor_low (s c : Nat) (hc : c < 256) : s - s % 256 + (s % 256 ^^^ c) = s ^^^ c := by
  have h1 : (s ^^^ c) % 2 ^ 8 = (s % 2 ^ 8) ^^^ (c % 2 ^ 8) := Nat.xor_mod_two_pow
  have h2 : (s ^^^ c) / 2 ^ 8 = s / 2 ^ 8 ^^^ c / 2 ^ 8 := Nat.xor_div_two_pow
  have e1 : c % 2 ^ 8 = c := Nat.mod_eq_of_lt hc
  have e2 : c / 2 ^ 8 = 0 := Nat.div_eq_of_lt hc
  rw [e1] at h1
  rw [e2, Nat.xor_zero] at h2
  have h3 : (2 : Nat) ^ 8 = 256 := rfl
  rw [h3] at h1 h2
  omega
theorem xor_bv (s c : Nat) (hs : s < 18446744073709551616) (hc : c < 256) : (BitVec.ofInt 64 (s : Int) ^^^ BitVec.ofInt 64 (IntKind.wrap .u64 (c : Int))).toNat = s ^^^ c := by
  have e1 : ∀ m : Nat, m < 18446744073709551616 → (BitVec.ofInt 64 (m : Int)).toNat = m := fun m hm => by simp; omega
  rw [wu64 (by omega), BitVec.toNat_xor, e1 s hs, e1 c (by omega)]
theorem xor_word (s c : Nat) (hs : s < 18446744073709551616) (hc : c < 256) : s ^^^ c < 18446744073709551616 := Nat.xor_lt_two_pow (n := 64) hs (by omega)
theorem add_end (s c : Nat) (hs : s < 18446744073709551616) (hc : c < 256) : (IntKind.wrap .u64 ((IntKind.wrap .u64 ((IntKind.wrap .u64 ((IntKind.wrap .u64 ((IntKind.wrap .u64 ((s : Int) - ((s % 256 : Nat) : Int))) + ((s % 256 ^^^ c : Nat) : Int))) * 1099511627776)) + (IntKind.wrap .u64 ((IntKind.wrap .u64 ((IntKind.wrap .u64 ((s : Int) - ((s % 256 : Nat) : Int))) + ((s % 256 ^^^ c : Nat) : Int))) * 256)))) + (IntKind.wrap .u64 ((IntKind.wrap .u64 ((IntKind.wrap .u64 ((s : Int) - ((s % 256 : Nat) : Int))) + ((s % 256 ^^^ c : Nat) : Int))) * 179)))) = stp s c := by
  have h := xor_low s c hc
  have h2 := xor_word s c hs hc
  have hl : s % 256 ≤ s := Nat.mod_le _ _
  have e1 : IntKind.wrap .u64 ((s : Int) - ((s % 256 : Nat) : Int)) = ((s - s % 256 : Nat) : Int) := by rw [wu64 (by omega)]; omega
  have e2 : IntKind.wrap .u64 (((s - s % 256 : Nat) : Int) + ((s % 256 ^^^ c : Nat) : Int)) = ((s ^^^ c : Nat) : Int) := by
    rw [wu64 (by omega)]; omega
  unfold stp
  rw [e1, e2, xor_bv s c hs hc, wu64 (x := ((s ^^^ c : Nat) : Int)) (by omega)]
  generalize s ^^^ c = t at h2
  simp only [wrap64]
  omega
theorem add_in {l : List Int} {s c : Nat} (hs : s < 18446744073709551616) (hc : c < 256) (i : Int) (hi : 0 ≤ i ∧ i ≤ 9000000000000000000) : ∀ (d k : Nat), k + d = 8 → capnpref18_Add_L2 s (bs l) i ((s % 256 : Nat) : Int) (((s % 256 ^^^ c) % 2 ^ k : Nat) : Int) c k = capnpref18_Add_L0 (stp s c) (bs l) (i + 1) := by
  have hx : s % 256 ^^^ c < 256 := Nat.xor_lt_two_pow (n := 8) (by omega) (by omega)
  intro d
  induction d with
  | zero =>
    intro k hk
    obtain rfl : k = 8 := by omega
    rw [capnpref18_Add_L2_eq, show decide (((8 : Nat) : Int) < 8) = false from rfl, Nat.mod_eq_of_lt (show s % 256 ^^^ c < 2 ^ 8 from hx), add_end s c hs hc, w64 (x := i + 1) (by omega)]
    rfl
  | succ d ih =>
    intro k hk
    have hp : 0 < 2 ^ k := Nat.pow_pos (by decide)
    have hp2 : 2 ^ k ≤ 2 ^ 7 := Nat.pow_le_pow_right (by decide) (by omega)
    have hpow := V_Pow k (by omega)
    have q : ∀ a : Nat, a < 256 → Int.tmod (IntKind.wrap .u64 (Int.tdiv (a : Int) ((2 ^ k : Nat) : Int))) 2 = ((a / 2 ^ k % 2 : Nat) : Int) := fun a ha => by
      have h1 : Int.tdiv (a : Int) ((2 ^ k : Nat) : Int) = ((a / 2 ^ k : Nat) : Int) := by
        rw [Int.tdiv_eq_ediv_of_nonneg (by omega)]; exact (Int.natCast_ediv a (2 ^ k)).symm
      have h2 : a / 2 ^ k ≤ a := Nat.div_le_self _ _
      generalize a / 2 ^ k = z at h1 h2
      rw [h1, wu64 (by omega), Int.tmod_eq_emod_of_nonneg (by omega)]
      omega
    have ok : okBin .quo ((2 ^ k : Nat) : Int) = true := by
      have : ((2 ^ k : Nat) : Int) ≠ 0 := by omega
      simp only [okBin]
      simpa using this
    have hm : (s % 256 ^^^ c) % 2 ^ k < 2 ^ k := Nat.mod_lt _ hp
    have hn := ih (k + 1) (by omega)
    rw [xor_succ] at hn
    rw [capnpref18_Add_L2_eq, decide_eq_true (show (k : Int) < 8 by omega), hpow]
    dsimp only [za, zb, zc, zN, ze, zf, zg, zh, zi, zj, zu, zv, zx, zy, zL, zM, zk, zl, zm, zn, zo, zq, zr, zs, zt, zA, zC, zD, zE, zF, zG, zH, zI, zJ, zK]
    rw [ok]
    dsimp only [za, zb, zc, zN, ze, zf, zg, zh, zi, zj, zu, zv, zx, zy, zL, zM, zk, zl, zm, zn, zo, zq, zr, zs, zt, zA, zC, zD, zE, zF, zG, zH, zI, zJ, zK]
    rw [q _ (Nat.mod_lt _ (by decide)), q c hc, w64 (x := (k : Int) + 1) (by omega)]
    by_cases g : s % 256 / 2 ^ k % 2 = c / 2 ^ k % 2
    · rw [if_neg (fun h => h g), Nat.add_zero] at hn
      rw [show (((s % 256 / 2 ^ k % 2 : Nat) : Int) != ((c / 2 ^ k % 2 : Nat) : Int)) = false from by rw [g]; simp]
      exact hn
    · rw [if_pos g] at hn
      rw [bne_iff_ne.2 (show ((s % 256 / 2 ^ k % 2 : Nat) : Int) ≠ ((c / 2 ^ k % 2 : Nat) : Int) by omega)]
      dsimp only [za, zb, zc, zN, ze, zf, zg, zh, zi, zj, zu, zv, zx, zy, zL, zM, zk, zl, zm, zn, zo, zq, zr, zs, zt, zA, zC, zD, zE, zF, zG, zH, zI, zJ, zK]
      rw [wu64 (by omega)]
      exact hn
theorem add_loop {l : List Int} (hb : ∀ b ∈ l, Byte b) (hl : l.length ≤ 4611686018427387904) : ∀ (d i : Nat) (s : Int), Word s → i + d = l.length → capnpref18_Add_L0 s (bs l) i = ok (U (fnvB s (l.drop i))) := by
  intro d
  induction d with
  | zero =>
    intro i s hs hi
    rw [capnpref18_Add_L0_eq, decide_eq_false (by rw [bs_len]; omega), List.drop_eq_nil_of_le (by omega)]
    rfl
  | succ d ih =>
    intro i s hs hi
    have hil : i < l.length := by omega
    obtain ⟨b1, b2⟩ := hb _ (List.getElem_mem hil)
    obtain ⟨s1, s2⟩ := hs
    obtain ⟨n, hn⟩ := Int.eq_ofNat_of_zero_le s1
    obtain ⟨c, hc⟩ := Int.eq_ofNat_of_zero_le b1
    have h := add_in (l := l) (s := n) (c := c) (by omega) (by omega) (i : Int) (by omega) 8 0 rfl
    have hm : Int.tmod s 256 = ((n % 256 : Nat) : Int) := by rw [hn, Int.tmod_eq_emod_of_nonneg (by omega)]; omega
    rw [capnpref18_Add_L0_eq, decide_eq_true (show (i : Int) < ((bs l).length : Int) by rw [bs_len]; omega), decide_eq_true (show 0 ≤ (i : Int) by omega)]
    dsimp only [za, zb, zc, zN, ze, zf, zg, zh, zi, zj, zu, zv, zx, zy, zL, zM, zk, zl, zm, zn, zo, zq, zr, zs, zt, zA, zC, zD, zE, zF, zG, zH, zI, zJ, zK]
    rw [Int.toNat_natCast, show (bs l)[i]? = some (U8 l[i]) by simp [bs, hil]]
    dsimp only [za, zb, zc, zN, ze, zf, zg, zh, zi, zj, zu, zv, zx, zy, zL, zM, zk, zl, zm, zn, zo, zq, zr, zs, zt, zA, zC, zD, zE, zF, zG, zH, zI, zJ, zK]
    rw [hm, wu64 (x := l[i]) (by omega)]
    rw [Nat.pow_zero, Nat.mod_one] at h
    have hih := ih (i + 1) (stp s l[i]) (stp_word _ _) (by omega)
    rw [List.drop_eq_getElem_cons hil]
    rw [hn, hc] at hih ⊢
    exact (show _ = _ from h).trans hih
theorem V_Sum {l : List Int} (hb : ∀ b ∈ l, Byte b) (hl : l.length ≤ 4611686018427387904) : ev 29 [.pv (.sl 1 (bs l))] [] = ok (U (fnvB off l)) := by
  have h := add_loop hb hl l.length 0 off ⟨by decide, by decide⟩ (by omega)
  rw [List.drop_zero] at h
  have h' : capnpref18_Add_L0 14695981039346656037 (bs l) 0 = ok (U (fnvB off l)) := h
  rw [capnpref18_Sum_eq, capnpref18_Add_eq, h']
  rfl
end Go.Proofs.YtfljialckkgacaaGreatDoor.E
set_option linter.unusedVariables false
set_option linter.unusedSimpArgs false
namespace Go.Proofs.YtfljialckkgacaaGreatDoor.E
/-! Messages compared; the laws of chapter 17. -/
theorem some_segs {l : List (List Int)} (h : ∀ s ∈ l, s.length ≤ 300) (hw : ∀ s ∈ l, ∀ x ∈ s, Word x) (hn : l.length ≤ 20) : Segs l ∧ Sm l := by
  refine ⟨⟨by omega, fun s hs => ⟨by have := h s hs; omega, hw s hs⟩⟩, sm_of fun j hj => ?_⟩
  unfold rdL
  rw [Int.toNat_natCast, List.getD_eq_getElem?_getD, List.getElem?_eq_getElem hj]
  exact h _ (List.getElem_mem hj)
theorem g1 : Segs [[4294967292]] ∧ Sm [[4294967292]] := one_segs (by decide) (by intro x hx; simp at hx; unfold Word; omega)
theorem g2 : Segs [[4294967296, 0]] ∧ Sm [[4294967296, 0]] := one_segs (by decide) (by intro x hx; simp at hx; unfold Word; omega)
theorem g3 : Segs [[0]] ∧ Sm [[0]] := one_segs (by decide) (by intro x hx; simp at hx; unfold Word; omega)
theorem g4 : Segs [[3]] ∧ Sm [[3]] := one_segs (by decide) (by intro x hx; simp at hx; unfold Word; omega)
theorem g5 : Segs [[7]] ∧ Sm [[7]] := one_segs (by decide) (by intro x hx; simp at hx; unfold Word; omega)
theorem g6 : Segs [[4294967298], [4294967296, 5]] ∧ Sm [[4294967298], [4294967296, 5]] := some_segs (by intro s hs; simp at hs; rcases hs with rfl | rfl <;> decide) (by intro s hs x hx; simp at hs; unfold Word; rcases hs with rfl | rfl <;> (simp at hx; omega)) (by decide)
end Go.Proofs.YtfljialckkgacaaGreatDoor.E
set_option linter.unusedVariables false
set_option linter.unusedSimpArgs false
namespace Go.Proofs.YtfljialckkgacaaGreatDoor.E
/-! Chapter 15: its fixed results and laws. -/
theorem k1 : Segs [[8589934596, 99, 5, 0]] ∧ Sm [[8589934596, 99, 5, 0]] := one_segs (by decide) (by intro x hx; simp at hx; unfold Word; omega)
theorem k2 : Segs [[4294967298], [4294967296, 5]] ∧ Sm [[4294967298], [4294967296, 5]] := some_segs (by intro s hs; simp at hs; rcases hs with rfl | rfl <;> decide) (by intro s hs x hx; simp at hs; unfold Word; rcases hs with rfl | rfl <;> (simp at hx; omega)) (by decide)
theorem k3 : Segs [[3]] ∧ Sm [[3]] := one_segs (by decide) (by intro x hx; simp at hx; unfold Word; omega)
theorem k4 : Segs [[]] ∧ Sm [[]] := one_segs (by decide) (by intro x hx; cases hx)
theorem canM_len {l : List (List Int)} (hl : Segs l) (hs : Sm l) {d w : Int} (hw : w ≤ 134217728) : (canM l d w).length ≤ 17592186044416 := by
  unfold canM
  split
  · rename_i h0
    obtain ⟨ho, hb, _⟩ := msg_small hl hs hw h0
    have := canW_len ho
    omega
  · simp
end Go.Proofs.YtfljialckkgacaaGreatDoor.E
