/- This text proves that the law DenoteIsBounded of the given program returns true on every input that its statement covers, as the statement says it. Its conditions are the statement's own. -/
import Derived.Test.YtdkmbkdgojiebaaDoorBP1
import Derived.Test.YtdkmbkdgojiebaaDoorRows
import Derived.Test.YtdkmbkdgojiebaaDoorCards
import Derived.Test.YtdkmbkdgojiebaaDoorTie
import Derived.WalkKit
import Derived.ProofKit
import Derived.OpenShut
import Derived.ChangeOld
import Derived.SizedLaws
import Derived.SevenTiedAt
import Derived.Deep.DeepHandedRow
import Derived.Deep.DeepWitnessRowRef
set_option linter.unusedVariables false
set_option linter.unusedSimpArgs false
set_option linter.unusedVariables false
set_option linter.unusedSimpArgs false
namespace Go.Proofs.YtdkmbkdgojiebaaDoor.E
/-! What a denotation is like. -/
/-- The errors. -/
def Er (e : Int) : Prop := e = 0 ∨ 2 ≤ e ∧ e ≤ 8
theorem er7 : Er 7 := .inr ⟨by decide, by decide⟩
theorem er8 : Er 8 := .inr ⟨by decide, by decide⟩
theorem fol_er (l : List (List Int)) (s a : Int) : Er (fol l s a).2.2.2 := by
  unfold fol dbl sgl Er
  repeat' split
  all_goals (simp)
theorem obj_er {l : List (List Int)} {s a : Int} : Er (obj l s a).2 := by
  unfold obj objP objS objL objC bad
  split
  · repeat' split
    all_goals (simp [Er])
  · exact fol_er l s a
theorem kids_er {F : Int → Nat → Nd × Int × Int} (h : ∀ m i, Er (F m i).2.2) : ∀ c i m acc, Er (kidsF F c i m acc).2.2 := by
  intro c
  induction c with
  | zero => intro i m acc; exact .inl rfl
  | succ c ih =>
    intro i m acc
    rw [kidsF]
    split
    · exact ih _ _ _
    · exact h m i
theorem strct_er {F : Int → Int → Int → Nd × Int × Int} (h : ∀ m s a, Er (F m s a).2.2) (l : List (List Int)) (m : Int) (o : Ob) : Er (strct F l m o).2.2 := kids_er (fun m i => h m _ _) _ _ _ _
theorem denO_er {F : Int → Int → Int → Nd × Int × Int} (h : ∀ m s a, Er (F m s a).2.2) (l : List (List Int)) (m : Int) {t : Ob × Int} (ht : Er t.2) : Er (denO F l m t).2.2 := by
  unfold denO
  split
  · split
    · exact er8
    · split
      · exact strct_er h l _ _
      · unfold denL
        split
        · exact .inl rfl
        · refine kids_er (F := fun m i => if t.1.elem = 6 then F m t.1.seg (t.1.at_ + i) else strct F l m (elt t.1 i)) (fun m i => ?_) _ _ _ _
          split
          · exact h m _ _
          · exact strct_er h l _ _
  · exact ht
theorem den_er (l : List (List Int)) : ∀ D m s a, Er (den l D m s a).2.2 := by
  intro D
  induction D with
  | zero =>
    intro m s a
    unfold den
    split
    · split
      · exact .inl rfl
      · exact er7
    · exact fol_er l s a
  | succ D ih =>
    intro m s a
    unfold den
    split
    · split
      · exact .inl rfl
      · exact denO_er ih l _ obj_er
    · exact fol_er l s a
-- trimmed
theorem keptN_all {α : Type} {p : α → Bool} {l : List α} : keptN p (l.take (keptN p l)) = keptN p l := by
  induction hn : l.length generalizing l with
  | zero => have := List.length_eq_zero_iff.1 hn; subst this; rfl
  | succ n ih =>
    rcases List.eq_nil_or_concat l with rfl | ⟨l', x, rfl⟩
    · rfl
    · rw [List.concat_eq_append] at hn ⊢
      have hl : l'.length = n := by simpa using hn
      rw [keptN_snoc]
      have hle := keptN_le p l'
      split
      · rw [List.take_append_of_le_length hle]
        exact ih hl
      · rename_i hp
        rw [show (l' ++ [x]).take (l'.length + 1) = l' ++ [x] from List.take_of_length_le (by simp), keptN_snoc, if_neg hp]
theorem wordsT_take {d : List Int} (h8 : d.length % 8 = 0) : (d.take (8 * wordsT d)).length = 8 * wordsT d ∧ wordsT (d.take (8 * wordsT d)) = wordsT d := by
  have hle := keptN_le (· == 0) d
  have h1 : (d.take (8 * wordsT d)).length = 8 * wordsT d := by
    rw [List.length_take]
    unfold wordsT
    omega
  refine ⟨h1, ?_⟩
  have h2 : 8 * wordsT d ≤ d.length := by unfold wordsT; omega
  have hk : keptN (· == 0) (d.take (8 * wordsT d)) = keptN (· == 0) d := by
    have hge : keptN (· == 0) d ≤ 8 * wordsT d := by unfold wordsT; omega
    have mono : ∀ (j : Nat), keptN (· == 0) d ≤ j → j ≤ d.length → keptN (· == 0) (d.take j) = keptN (· == 0) d := by
      intro j hj hjd
      induction hm : d.length - j generalizing j with
      | zero => rw [List.take_of_length_le (by omega)]
      | succ m ih =>
        have hjl : j < d.length := by omega
        have := ih (j + 1) (by omega) (by omega) (by omega)
        rw [take_snoc hjl, keptN_snoc] at this
        split at this
        · exact this
        · rw [List.length_take] at this
          omega
    exact mono _ hge (by omega)
  unfold wordsT at hk ⊢
  rw [hk]
theorem ptrsT_take (ks : List Nd) : ptrsT (ks.take (ptrsT ks)) = ptrsT ks ∧ (ks.take (ptrsT ks)).length = ptrsT ks := ⟨keptN_all, by rw [List.length_take]; have := keptN_le (fun x : Nd => x.kind == 0) ks; unfold ptrsT; omega⟩
theorem trimN_kind (x : Nd) : (trimN x).kind = x.kind := by
  cases x with
  | mk k e n d ks => rw [trimN]; split <;> rfl
theorem ptrsT_map (ks : List Nd) : ptrsT (trimNs ks) = ptrsT ks := by
  rw [trimNs_eq]
  unfold ptrsT
  induction hn : ks.length generalizing ks with
  | zero => have := List.length_eq_zero_iff.1 hn; subst this; rfl
  | succ n ih =>
    rcases List.eq_nil_or_concat ks with rfl | ⟨l', x, rfl⟩
    · rfl
    · rw [List.concat_eq_append] at hn ⊢
      rw [List.map_append, List.map_singleton, keptN_snoc, keptN_snoc, trimN_kind, ih l' (by simpa using hn), List.length_map]
/-- Trimmed. -/
inductive TrN : Nd → Prop
  | mk {k e n : Int} {d : List Int} {ks : List Nd} : (k = 1 → 8 * wordsT d = d.length ∧ ptrsT ks = ks.length) → (∀ x ∈ ks, TrN x) → TrN (.mk k e n d ks)
theorem tr_trim (x : Nd) : good x → TrN (trimN x) := by
  induction x using Nd.ind with
  | h k e n d ks ih =>
    intro hg
    rw [good, goods_iff] at hg
    obtain ⟨⟨hd, hb, hk, h8⟩, hks⟩ := hg
    rw [trimN]
    by_cases h1 : k = 1
    · rw [if_pos h1]
      refine .mk (fun _ => ?_) fun y hy => ?_
      · obtain ⟨a1, a2⟩ := wordsT_take (h8 h1)
        have := ptrsT_take (trimNs ks)
        rw [ptrsT_map] at this
        exact ⟨by rw [a1, a2], by rw [this.1, this.2]⟩
      · have := List.mem_of_mem_take hy
        rw [trimNs_eq] at this
        obtain ⟨x, hx, rfl⟩ := List.mem_map.1 this
        exact ih x hx (hks x hx)
    · rw [if_neg h1]
      refine .mk (fun h => absurd h h1) fun y hy => ?_
      rw [trimNs_eq] at hy
      obtain ⟨x, hx, rfl⟩ := List.mem_map.1 hy
      exact ih x hx (hks x hx)
theorem trimmed_loop {l : List Nd} (hl : l.length ≤ 1073741824) (hv : ∀ x ∈ l, ev 23 [.pv x.pv] [] = ok (Bo true)) (a b c : Int) (x : List PV) : ∀ (c0 i : Nat), i + c0 = l.length → capnpref11_Trimmed_L0 i a b c x (pvs l) = ok (Bo true) := by
  intro c0
  induction c0 with
  | zero => intro i hi; rw [capnpref11_Trimmed_L0_eq, decide_eq_false (by simp; omega)]; rfl
  | succ c0 ih =>
    intro i hi
    have hil : i < l.length := by omega
    rw [capnpref11_Trimmed_L0_eq, decide_eq_true (show (i : Int) < ((pvs l).length : Int) by simp; omega), decide_eq_true (show 0 ≤ (i : Int) by omega)]
    dsimp only [callT_ret, callT_pan, onlyPV_v, Option.bind_some, pBool_v, pTup_v, pAgg_v, aggOf_v, pSl_v, pInt_v, pI64, pU64, pU32, pU8, List.getElem?_cons_zero, List.getElem?_cons_succ, cells_v, cells_sl, cells_agg, isCell_v, isCell_sl, cnd_t, cnd_f, tt_and, ff_and, nt_t, nt_f, len1, len3, len5, len8, len10, hlen1, clen1, clen5]
    rw [Int.toNat_natCast, pvs_get hil]
    dsimp only [callT_ret, callT_pan, onlyPV_v, Option.bind_some, pBool_v, pTup_v, pAgg_v, aggOf_v, pSl_v, pInt_v, pI64, pU64, pU32, pU8, List.getElem?_cons_zero, List.getElem?_cons_succ, cells_v, cells_sl, cells_agg, isCell_v, isCell_sl, cnd_t, cnd_f, tt_and, ff_and, nt_t, nt_f, len1, len3, len5, len8, len10, hlen1, clen1, clen5]
    rw [nd_five, nd_take5, hv _ (List.getElem_mem hil), w64 (x := (i : Int) + 1) (by omega)]
    exact ih (i + 1) (by omega)
theorem V_Trimmed_pv (x : Nd) : good x → TrN x → ev 23 [.pv x.pv] [] = ok (Bo true) := by
  induction x using Nd.ind with
  | h k e n d ks ih =>
    intro hg ht
    rw [good, goods_iff] at hg
    obtain ⟨⟨hd, hb, hk, h8⟩, hks⟩ := hg
    cases ht with
    | mk t1 t2 =>
    have hv : ∀ x ∈ ks, ev 23 [.pv x.pv] [] = ok (Bo true) := fun x hx => ih x hx (hks x hx) (t2 x hx)
    have hlp : capnpref11_Trimmed_L0 0 k e n (bs d) (pvs ks) = ok (Bo true) := trimmed_loop hk hv k e n (bs d) ks.length 0 (by omega)
    rw [Nd.pv, capnpref11_Trimmed_eq]
    by_cases h1 : k = 1
    · obtain ⟨u1, u2⟩ := t1 h1
      have hw : (wordsT d : Nat) ≤ 17592186044416 := by omega
      rw [beq_iff_eq.2 h1, V_rwords hd]
      dsimp only [callT_ret, callT_pan, onlyPV_v, Option.bind_some, pBool_v, pTup_v, pAgg_v, aggOf_v, pSl_v, pInt_v, pI64, pU64, pU32, pU8, List.getElem?_cons_zero, List.getElem?_cons_succ, cells_v, cells_sl, cells_agg, isCell_v, isCell_sl, cnd_t, cnd_f, tt_and, ff_and, nt_t, nt_f, len1, len3, len5, len8, len10, hlen1, clen1, clen5]
      rw [w64 (x := 8 * ((wordsT d : Nat) : Int)) (by omega), bs_len, show ((8 * ((wordsT d : Nat) : Int)) != (d.length : Int)) = false from by simp; omega, V_rptrs hk]
      dsimp only [callT_ret, callT_pan, onlyPV_v, Option.bind_some, pBool_v, pTup_v, pAgg_v, aggOf_v, pSl_v, pInt_v, pI64, pU64, pU32, pU8, List.getElem?_cons_zero, List.getElem?_cons_succ, cells_v, cells_sl, cells_agg, isCell_v, isCell_sl, cnd_t, cnd_f, tt_and, ff_and, nt_t, nt_f, len1, len3, len5, len8, len10, hlen1, clen1, clen5]
      rw [pvs_len, show (((ptrsT ks : Nat) : Int) != (ks.length : Int)) = false from by simp; omega]
      exact hlp
    · rw [beq_eq_false_iff_ne.2 h1]
      exact hlp
theorem V_Trimmed {x : Nd} (h : good x) (t : TrN x) : ev 23 [.pv x.x] [] = ok (Bo true) := by
  have := V_Trimmed_pv x h t
  rwa [pv_x] at this
end Go.Proofs.YtdkmbkdgojiebaaDoor.E

set_option linter.unusedVariables false
set_option linter.unusedSimpArgs false
namespace Go.Proofs.YtdkmbkdgojiebaaDoor.E
/-! A denotation is well-formed, and as deep as its limit at most. -/
def tgt (x : Nd) : List Nd := if x.kind = 2 ∧ x.elem = 7 then x.kids.flatMap Nd.kids else x.kids
def Dp : Nat → Nd → Prop
  | 0, x => x.kind = 0
  | D + 1, x => x.kind = 0 ∨ ((tgt x).length ≤ 1073741824 ∧ ∀ y ∈ tgt x, Dp D y)
theorem dp_nil {D : Nat} {x : Nd} (h : x.kind = 0) : Dp D x := by
  cases D with
  | zero => exact h
  | succ D => exact .inl h
def Shp (k e n : Int) (d : List Int) (q : Nat) : Prop :=
  (k = 0 ∧ e = 0 ∧ n = 0 ∧ d.length = 0 ∧ q = 0) ∨ (k = 1 ∧ e = 0 ∧ n = 0 ∧ d.length % 8 = 0 ∧ d.length ≤ 524280 ∧ q ≤ 65535) ∨
  (k = 2 ∧ (0 ≤ n ∧ n ≤ 536870911) ∧ (0 ≤ e ∧ e ≤ 7) ∧ (6 ≤ e → d.length = 0 ∧ (q : Int) = n) ∧ (e < 6 → q = 0 ∧ (d.length : Int) = bytesN e n ∧ trimB e n d = d))
/-- Well-formed. -/
inductive VN : Nd → Prop
  | mk {k e n : Int} {d : List Int} {ks : List Nd} : (∀ x ∈ ks, VN x) → (k = 2 → e = 7 → ∀ x ∈ ks, x.kind = 1) → Shp k e n d ks.length → VN (.mk k e n d ks)
theorem vn0 : VN nd0 := .mk (fun x h => by cases h) (fun _ _ x h => by cases h) (.inl ⟨rfl, rfl, rfl, rfl, rfl⟩)
theorem kids_all {G : Int → Nat → Nd × Int × Int} {Q : Nd → Prop} (h : ∀ m i, (G m i).2.2 = 0 → Q (G m i).1) : ∀ c i m acc, (∀ x ∈ acc, Q x) → ∀ x ∈ (kidsF G c i m acc).1, Q x := by
  intro c
  induction c with
  | zero => intro i m acc ha; exact ha
  | succ c ih =>
    intro i m acc ha
    by_cases h0 : (G m i).2.2 = 0
    · rw [kidsF_go h0]
      refine ih _ _ _ fun x hx => ?_
      rcases List.mem_append.1 hx with h1 | h1
      · exact ha x h1
      · rw [List.mem_singleton.1 h1]; exact h m i h0
    · rw [kidsF_err h0]
      exact fun x hx => by cases hx
theorem kids_len {G : Int → Nat → Nd × Int × Int} : ∀ c i m acc, (kidsF G c i m acc).2.2 = 0 → (kidsF G c i m acc).1.length = acc.length + c := by
  intro c
  induction c with
  | zero => intro i m acc _; rfl
  | succ c ih =>
    intro i m acc hz
    by_cases h0 : (G m i).2.2 = 0
    · rw [kidsF_go h0] at hz ⊢
      rw [ih _ _ _ hz]
      simp
      omega
    · rw [kidsF_err h0] at hz
      exact absurd hz h0
/-- What is known of a success. -/
def Okd (D : Nat) (F : Int → Int → Int → Nd × Int × Int) : Prop := ∀ m s a, (F m s a).2.2 = 0 → VN (F m s a).1 ∧ Dp D (F m s a).1
theorem strct_okd {D : Nat} {F : Int → Int → Int → Nd × Int × Int} (h : Okd D F) (l : List (List Int)) (m : Int) {o : Ob} (hd : o.data ≤ 65535) (hq : 0 ≤ o.ptrs ∧ o.ptrs ≤ 65535) (hz : (strct F l m o).2.2 = 0) : VN (strct F l m o).1 ∧ (strct F l m o).1.kind = 1 ∧ (strct F l m o).1.kids.length = o.ptrs.toNat ∧ ∀ y ∈ (strct F l m o).1.kids, Dp D y := by
  unfold strct at hz ⊢
  have hz' : (kidsF (fun m (i : Nat) => F m o.seg (o.at_ + o.data + i)) o.ptrs.toNat 0 m []).2.2 = 0 := hz
  have ha := kids_all (G := fun m (i : Nat) => F m o.seg (o.at_ + o.data + i)) (Q := fun x => VN x ∧ Dp D x) (fun m i h0 => h m _ _ h0) o.ptrs.toNat 0 m [] (fun x hx => by cases hx)
  have hl := kids_len (G := fun m (i : Nat) => F m o.seg (o.at_ + o.data + i)) o.ptrs.toNat 0 m [] hz'
  rw [wrapK_ok0 hz']
  generalize kidsF (fun m (i : Nat) => F m o.seg (o.at_ + o.data + i)) o.ptrs.toNat 0 m [] = K at ha hl
  have hcl := cutB_len l o.seg o.at_ o.data
  refine ⟨.mk (fun x hx => (ha x hx).1) (fun h2 => absurd h2 (by decide)) (.inr (.inl ⟨rfl, rfl, rfl, byt_words8 l _ _ _, ?_, ?_⟩)), rfl, ?_, fun y hy => (ha y hy).2⟩
  · rw [byt_len]; omega
  · simp at hl; omega
  · show K.1.length = _
    simpa using hl
theorem strct_dp {D : Nat} {F : Int → Int → Int → Nd × Int × Int} (h : Okd D F) (l : List (List Int)) (m : Int) {o : Ob} (hd : o.data ≤ 65535) (hq : 0 ≤ o.ptrs ∧ o.ptrs ≤ 65535) (hz : (strct F l m o).2.2 = 0) : VN (strct F l m o).1 ∧ Dp (D + 1) (strct F l m o).1 := by
  obtain ⟨a1, a2, a3, a4⟩ := strct_okd h l m hd hq hz
  refine ⟨a1, .inr ?_⟩
  have : tgt (strct F l m o).1 = (strct F l m o).1.kids := by unfold tgt; rw [if_neg (fun x => by rw [a2] at x; exact absurd x.1 (by decide))]
  rw [this]
  exact ⟨by rw [a3]; omega, a4⟩
theorem trimB_ok {e c : Int} {b : List Int} (hc : 0 ≤ c ∧ c ≤ 536870911) (hn : bytesN e c ≤ b.length) : ((trimB e c b).length : Int) = bytesN e c ∧ trimB e c (trimB e c b) = trimB e c b := by
  have hr := bytesN_range (e := e) hc
  unfold trimB
  by_cases h1 : e = 1 ∧ 0 < c % 8
  · simp only [if_pos h1]
    have hb1 : 1 ≤ bytesN e c := by
      obtain ⟨rfl, h8⟩ := h1
      have hbn : bytesN 1 c = (c + 7) / 8 := by unfold bytesN bitsOf; simp
      omega
    have hlen : (b.take (bytesN e c - 1).toNat).length = (bytesN e c - 1).toNat := by rw [List.length_take]; omega
    refine ⟨by rw [List.length_append, hlen]; simp; omega, ?_⟩
    rw [List.take_append_of_le_length (by omega), List.take_of_length_le (by omega)]
    congr 2
    have : rd (b.take (bytesN e c - 1).toNat ++ [rd b (bytesN e c - 1) % 2 ^ (c % 8).toNat]) (bytesN e c - 1) = rd b (bytesN e c - 1) % 2 ^ (c % 8).toNat := by
      conv => lhs; unfold rd
      rw [List.getD_eq_getElem?_getD, List.getElem?_append_right (by omega), hlen, Nat.sub_self]
      rfl
    rw [this, Int.emod_emod_of_dvd _ (Int.dvd_refl _)]
  · simp only [if_neg h1]
    refine ⟨by rw [List.length_take]; omega, ?_⟩
    rw [List.take_take, Nat.min_self]
theorem objC_n {l : List (List Int)} {s st c : Int} (h : (objC l s st c).2 = 0) : (objC l s st c).1.n * (objC l s st c).1.ptrs ≤ c ∨ (objC l s st c).1.data < 0 ∨ (objC l s st c).1.n < 0 := by
  unfold objC at h ⊢
  by_cases hb : inB l s st (c + 1)
  · rw [if_pos hb] at h ⊢
    generalize decI (wd l s st) = p at h ⊢
    by_cases hk : p.1 = 0 ∧ 0 ≤ p.2.1 ∧ p.2.1 * (p.2.2.1 + p.2.2.2.1) ≤ c
    · rw [if_pos hk]
      dsimp only
      by_cases h0 : p.2.2.1 < 0
      · exact .inr (.inl h0)
      · refine .inl ?_
        have : p.2.1 * p.2.2.2.1 ≤ p.2.1 * (p.2.2.1 + p.2.2.2.1) := Int.mul_le_mul_of_nonneg_left (by omega) hk.2.1
        omega
    · rw [if_neg hk] at h
      exact bad_no h (by decide)
  · rw [if_neg hb] at h
    exact bad_no h (by decide)
/-- How many pointers a composite list has. -/
def Np (o : Ob) : Prop := o.kind = 2 → o.elem = 7 → o.n * o.ptrs ≤ 536870911
theorem obj_np {l : List (List Int)} (hl : Segs l) (hs : Sm l) {s a : Int} (h0 : (fol l s a).1 ≠ 0) (he : (fol l s a).2.2.2 = 0) (h : (obj l s a).2 = 0) : Np (obj l s a).1 := by
  have hok := obj_ok hl hs h0 he h
  obtain ⟨_, hdt, _, _, hn, _⟩ := hok
  have hd := dec_small (fol_word hl s a)
  unfold obj at h hdt hn ⊢
  rw [if_pos he, if_neg h0] at h hdt hn ⊢
  unfold objP at h hdt hn ⊢
  generalize decI (fol l s a).1 = p at h hdt hn hd ⊢
  by_cases k0 : p.1 = 0
  · rw [if_pos k0] at h hdt hn ⊢
    intro k2
    unfold objS at k2
    split at k2 <;> first | exact absurd k2 (show ¬ ((1 : Int) = 2) by decide) | exact absurd k2 (show ¬ ((0 : Int) = 2) by decide)
  · rw [if_neg k0] at h hdt hn ⊢
    by_cases k1 : p.1 = 1
    · rw [if_pos k1] at h hdt hn ⊢
      unfold objL at h hdt hn ⊢
      by_cases h7 : p.2.2.2.2.1 = 7
      · rw [if_pos h7] at h hdt hn ⊢
        intro _ _
        have := objC_n h
        omega
      · rw [if_neg h7] at h ⊢
        split
        · exact fun _ h => absurd h h7
        · rename_i hb
          rw [if_neg hb] at h
          exact bad_no h (by decide)
    · rw [if_neg k1] at h
      split at h
      · exact bad_no h (by decide)
      · exact bad_no h (by decide)
theorem flat_len {l : List Nd} {q : Nat} (h : ∀ x ∈ l, x.kids.length = q) : (l.flatMap Nd.kids).length = l.length * q := by
  induction l with
  | nil => simp
  | cons x l ih =>
    rw [List.flatMap_cons, List.length_append, ih (fun y hy => h y (List.mem_cons_of_mem _ hy)), h x List.mem_cons_self, List.length_cons, Nat.succ_mul]
    omega
theorem denL_okd {D : Nat} {F : Int → Int → Int → Nd × Int × Int} (h : Okd D F) (l : List (List Int)) (m : Int) {o : Ob} (ho : ObOk l o) (hp : Np o) (hk : o.kind = 2) (hz : (denL F l m o).2.2 = 0) : VN (denL F l m o).1 ∧ Dp (D + 1) (denL F l m o).1 := by
  obtain ⟨hat, hd, hq, he, hn, hc, _, hw, _⟩ := ho
  unfold denL at hz ⊢
  by_cases h6 : o.elem < 6
  · rw [if_pos h6]
    have ht := trimB_ok hn (bytes_room hn (hw hk h6) h6)
    refine ⟨.mk (fun x hx => by cases hx) (fun _ _ x hx => by cases hx) (.inr (.inr ⟨rfl, hn, he, fun h => absurd h (by omega), fun _ => ⟨rfl, ht.1, ht.2⟩⟩)), .inr ?_⟩
    have : tgt (.mk 2 o.elem o.n (trimB o.elem o.n (byt (cutB l o.seg o.at_ o.cost))) []) = [] := by unfold tgt; split <;> rfl
    rw [this]
    exact ⟨by simp, fun y hy => by cases hy⟩
  · rw [if_neg h6] at hz ⊢
    have hz' : (kidsF (fun m (i : Nat) => if o.elem = 6 then F m o.seg (o.at_ + i) else strct F l m (elt o i)) o.n.toNat 0 m []).2.2 = 0 := hz
    have ha := kids_all (G := fun m (i : Nat) => if o.elem = 6 then F m o.seg (o.at_ + i) else strct F l m (elt o i)) (Q := fun x => VN x ∧ (o.elem = 6 → Dp D x) ∧ (o.elem ≠ 6 → x.kind = 1 ∧ x.kids.length = o.ptrs.toNat ∧ ∀ y ∈ x.kids, Dp D y)) (fun m i h0 => by
      by_cases h7 : o.elem = 6
      · simp only [if_pos h7] at h0 ⊢
        obtain ⟨b1, b2⟩ := h m _ _ h0
        exact ⟨b1, fun _ => b2, fun h => absurd h7 h⟩
      · simp only [if_neg h7] at h0 ⊢
        obtain ⟨b1, b2, b3, b4⟩ := strct_okd h l m (o := elt o i) hd.2 hq h0
        exact ⟨b1, fun h => absurd h h7, fun _ => ⟨b2, b3, b4⟩⟩) o.n.toNat 0 m [] (fun x hx => by cases hx)
    have hl := kids_len (G := fun m (i : Nat) => if o.elem = 6 then F m o.seg (o.at_ + i) else strct F l m (elt o i)) o.n.toNat 0 m [] hz'
    rw [wrapK_ok0 hz']
    generalize kidsF (fun m (i : Nat) => if o.elem = 6 then F m o.seg (o.at_ + i) else strct F l m (elt o i)) o.n.toNat 0 m [] = K at ha hl
    have hl' : K.1.length = o.n.toNat := by simpa using hl
    refine ⟨.mk (fun x hx => (ha x hx).1) (fun _ h7 x hx => ((ha x hx).2.2 (by omega)).1) (.inr (.inr ⟨rfl, hn, he, fun _ => ⟨rfl, by omega⟩, fun h => absurd h h6⟩)), .inr ?_⟩
    dsimp only
    by_cases h7 : o.elem = 7
    · have ht : tgt (.mk 2 o.elem o.n [] K.1) = K.1.flatMap Nd.kids := by unfold tgt; exact if_pos ⟨rfl, h7⟩
      rw [ht]
      refine ⟨?_, fun y hy => ?_⟩
      · rw [flat_len (fun x hx => ((ha x hx).2.2 (by omega)).2.1), hl']
        have := hp hk h7
        have e : ((o.n.toNat * o.ptrs.toNat : Nat) : Int) = o.n * o.ptrs := by rw [Int.natCast_mul, Int.toNat_of_nonneg hn.1, Int.toNat_of_nonneg hq.1]
        omega
      · obtain ⟨x, hx, hy⟩ := List.mem_flatMap.1 hy
        exact ((ha x hx).2.2 (by omega)).2.2 y hy
    · have ht : tgt (.mk 2 o.elem o.n [] K.1) = K.1 := by unfold tgt; exact if_neg (fun x => h7 x.2)
      rw [ht]
      exact ⟨by rw [hl']; omega, fun y hy => (ha y hy).2.1 (by omega)⟩
theorem den_okd {l : List (List Int)} (hl : Segs l) (hs : Sm l) : ∀ D, Okd D (den l D) := by
  intro D
  induction D with
  | zero =>
    intro m s a hz
    by_cases he : (fol l s a).2.2.2 = 0
    · by_cases h0 : (fol l s a).1 = 0
      · rw [den_nil he h0]; exact ⟨vn0, rfl⟩
      · rw [den_deep he h0] at hz; exact absurd hz (by show ¬ ((7 : Int) = 0); decide)
    · rw [den_err he] at hz; exact absurd hz he
  | succ D ih =>
    intro m s a hz
    by_cases he : (fol l s a).2.2.2 = 0
    · by_cases h0 : (fol l s a).1 = 0
      · rw [den_nil he h0]; exact ⟨vn0, .inl rfl⟩
      · rw [den_obj he h0] at hz ⊢
        unfold denO at hz ⊢
        by_cases hf : (obj l s a).2 = 0
        · rw [if_pos hf] at hz ⊢
          have hok := obj_ok hl hs h0 he hf
          have hnp := obj_np hl hs h0 he hf
          by_cases h8 : (obj l s a).1.cost > m
          · rw [if_pos h8] at hz; exact absurd hz (by show ¬ ((8 : Int) = 0); decide)
          · rw [if_neg h8] at hz ⊢
            obtain ⟨hat, hd, hq, _, _, _, hk, _⟩ := id hok
            by_cases h1 : (obj l s a).1.kind = 1
            · rw [if_pos h1] at hz ⊢
              exact strct_dp ih l _ hd.2 hq hz
            · rw [if_neg h1] at hz ⊢
              exact denL_okd ih l _ hok hnp (by omega) hz
        · rw [if_neg hf] at hz; exact absurd hz hf
    · rw [den_err he] at hz; exact absurd hz he
-- trimming keeps this
theorem vn_trim (x : Nd) : VN x → VN (trimN x) := by
  induction x using Nd.ind with
  | h k e n d ks ih =>
    intro hv
    cases hv with
    | mk v1 v2 v3 =>
    rw [trimN, trimNs_eq]
    have hm : ∀ y ∈ ks.map trimN, VN y := fun y hy => by
      obtain ⟨x, hx, rfl⟩ := List.mem_map.1 hy
      exact ih x hx (v1 x hx)
    by_cases h1 : k = 1
    · rw [if_pos h1]
      refine .mk (fun x hx => hm x (List.mem_of_mem_take hx)) (fun h2 => absurd h2 (by omega)) ?_
      unfold Shp at v3 ⊢
      rw [List.length_take, List.length_take, List.length_map]
      rcases v3 with v3 | v3 | v3
      · omega
      · obtain ⟨_, a2, a3, a4, a5, a6⟩ := v3
        have := keptN_le (· == 0) d
        refine .inr (.inl ⟨h1, a2, a3, ?_, by omega, by omega⟩)
        unfold wordsT
        omega
      · omega
    · rw [if_neg h1]
      refine .mk hm (fun h2 h7 y hy => ?_) ?_
      · obtain ⟨x, hx, rfl⟩ := List.mem_map.1 hy
        rw [trimN_kind]
        exact v2 h2 h7 x hx
      · rw [List.length_map]; exact v3
theorem kids_trim (x : Nd) : (trimN x).kids.length ≤ x.kids.length ∧ ∀ y ∈ (trimN x).kids, ∃ z ∈ x.kids, y = trimN z := by
  cases x with
  | mk k e n d ks =>
    rw [trimN, trimNs_eq]
    split
    · refine ⟨by show ((ks.map trimN).take _).length ≤ ks.length; rw [List.length_take, List.length_map]; omega, fun y hy => ?_⟩
      have hy' : y ∈ (ks.map trimN).take (ptrsT ks) := hy
      obtain ⟨z, hz, rfl⟩ := List.mem_map.1 (List.mem_of_mem_take hy')
      exact ⟨z, hz, rfl⟩
    · refine ⟨by show (ks.map trimN).length ≤ ks.length; rw [List.length_map]; omega, fun y hy => ?_⟩
      have hy' : y ∈ ks.map trimN := hy
      obtain ⟨z, hz, rfl⟩ := List.mem_map.1 hy'
      exact ⟨z, hz, rfl⟩
theorem trimN_elem (x : Nd) : (trimN x).elem = x.elem := by
  cases x with
  | mk k e n d ks => rw [trimN]; split <;> rfl
theorem flat_trim : ∀ l : List Nd, ((l.map trimN).flatMap Nd.kids).length ≤ (l.flatMap Nd.kids).length
  | [] => Nat.le_refl _
  | x :: l => by
    have := flat_trim l
    have := (kids_trim x).1
    rw [List.map_cons, List.flatMap_cons, List.flatMap_cons, List.length_append, List.length_append]
    omega
theorem tgt_trim (x : Nd) : (tgt (trimN x)).length ≤ (tgt x).length ∧ ∀ y ∈ tgt (trimN x), ∃ z ∈ tgt x, y = trimN z := by
  unfold tgt
  rw [trimN_kind, trimN_elem]
  by_cases h : x.kind = 2 ∧ x.elem = 7
  · rw [if_pos h, if_pos h]
    have hk : (trimN x).kids = x.kids.map trimN := by
      cases x with
      | mk k e n d ks =>
        rw [trimN, trimNs_eq, if_neg (fun h1 => by have : k = 2 := h.1; omega)]
        rfl
    rw [hk]
    refine ⟨flat_trim _, fun y hy => ?_⟩
    obtain ⟨u, hu, hy⟩ := List.mem_flatMap.1 hy
    obtain ⟨v, hv, rfl⟩ := List.mem_map.1 hu
    obtain ⟨z, hz, rfl⟩ := (kids_trim v).2 y hy
    exact ⟨z, List.mem_flatMap.2 ⟨v, hv, hz⟩, rfl⟩
  · rw [if_neg h, if_neg h]
    exact kids_trim x
theorem dp_trim : ∀ (D : Nat) (x : Nd), Dp D x → Dp D (trimN x) := by
  intro D
  induction D with
  | zero => intro x h; exact (trimN_kind x).trans h
  | succ D ih =>
    intro x h
    rcases h with h | ⟨h1, h2⟩
    · exact .inl ((trimN_kind x).trans h)
    · obtain ⟨a1, a2⟩ := tgt_trim x
      exact .inr ⟨by omega, fun y hy => by obtain ⟨z, hz, rfl⟩ := a2 y hy; exact ih z (h2 z hz)⟩
end Go.Proofs.YtdkmbkdgojiebaaDoor.E

set_option linter.unusedVariables false
set_option linter.unusedSimpArgs false
namespace Go.Proofs.YtdkmbkdgojiebaaDoor.E
/-! The reference's checks of a node; the law DenoteIsBounded. -/
theorem valid_loop {k e n : Int} {d : List Int} {l : List Nd} (hl : l.length ≤ 1073741824) (hd : d.length ≤ 17592186044416) (hb : ∀ b ∈ d, Byte b) (hv : ∀ x ∈ l, ev 22 [.pv x.pv] [] = ok (Bo true)) (h1 : k = 2 → e = 7 → ∀ x ∈ l, x.kind = 1) (hs : Shp k e n d l.length) : ∀ (c0 i : Nat), i + c0 = l.length → capnpref10_Valid_L0 i k e n (bs d) (pvs l) = ok (Bo true) := by
  intro c0
  induction c0 with
  | zero =>
    intro i hi
    rw [capnpref10_Valid_L0_eq, decide_eq_false (by simp; omega), bs_len, pvs_len]
    dsimp only [callT_ret, callT_pan, onlyPV_v, Option.bind_some, pBool_v, pTup_v, pAgg_v, aggOf_v, pSl_v, pInt_v, pI64, pU64, pU32, pU8, List.getElem?_cons_zero, List.getElem?_cons_succ, cells_v, cells_sl, cells_agg, isCell_v, isCell_sl, cnd_t, cnd_f, tt_and, ff_and, nt_t, nt_f, len1, len3, len5, len8, len10, hlen1, clen1, clen5]
    rcases hs with ⟨rfl, rfl, rfl, hs1, hs2⟩ | ⟨rfl, rfl, rfl, hs1, hs2, hs3⟩ | ⟨rfl, hn, he, hs1, hs2⟩
    · rw [hs1, hs2]; rfl
    · rw [show ((1 : Int) == 0) = false from rfl, show ((1 : Int) == 1) = true from rfl, show ((0 : Int) == 0) = true from rfl, Int.tmod_eq_emod_of_nonneg (by omega), beq_iff_eq.2 (show (d.length : Int) % 8 = 0 by omega), decide_eq_true (show (d.length : Int) ≤ 524280 by omega), decide_eq_true (show (l.length : Int) ≤ 65535 by omega)]
      rfl
    · rw [show ((2 : Int) == 0) = false from rfl, show ((2 : Int) == 1) = false from rfl, show ((2 : Int) == 2) = true from rfl, decide_eq_false (show ¬ n < 0 by omega), decide_eq_false (show ¬ n > 536870911 by omega), decide_eq_false (show ¬ e < 0 by omega), decide_eq_false (show ¬ e > 7 by omega)]
      dsimp only [callT_ret, callT_pan, onlyPV_v, Option.bind_some, pBool_v, pTup_v, pAgg_v, aggOf_v, pSl_v, pInt_v, pI64, pU64, pU32, pU8, List.getElem?_cons_zero, List.getElem?_cons_succ, cells_v, cells_sl, cells_agg, isCell_v, isCell_sl, cnd_t, cnd_f, tt_and, ff_and, nt_t, nt_f, len1, len3, len5, len8, len10, hlen1, clen1, clen5]
      by_cases h6 : 6 ≤ e
      · obtain ⟨a1, a2⟩ := hs1 h6
        rw [decide_eq_true (show e ≥ 6 from h6), a1, show (((0 : Nat) : Int) == 0) = true from rfl, beq_iff_eq.2 a2]
        rfl
      · obtain ⟨a1, a2, a3⟩ := hs2 (by omega)
        have hbn : bytesN e n ≤ (d.length : Int) := by omega
        rw [decide_eq_false (show ¬ e ≥ 6 from h6), a1, show (((0 : Nat) : Int) != 0) = false from rfl, V_rBytesN hn]
        dsimp only [callT_ret, callT_pan, onlyPV_v, Option.bind_some, pBool_v, pTup_v, pAgg_v, aggOf_v, pSl_v, pInt_v, pI64, pU64, pU32, pU8, List.getElem?_cons_zero, List.getElem?_cons_succ, cells_v, cells_sl, cells_agg, isCell_v, isCell_sl, cnd_t, cnd_f, tt_and, ff_and, nt_t, nt_f, len1, len3, len5, len8, len10, hlen1, clen1, clen5]
        rw [show ((d.length : Int) != bytesN e n) = false from by simpa using a2, V_rTrim hn hb hbn, a3]
        dsimp only [callT_ret, callT_pan, onlyPV_v, Option.bind_some, pBool_v, pTup_v, pAgg_v, aggOf_v, pSl_v, pInt_v, pI64, pU64, pU32, pU8, List.getElem?_cons_zero, List.getElem?_cons_succ, cells_v, cells_sl, cells_agg, isCell_v, isCell_sl, cnd_t, cnd_f, tt_and, ff_and, nt_t, nt_f, len1, len3, len5, len8, len10, hlen1, clen1, clen5]
        rw [V_SameR hd]
        rfl
  | succ c0 ih =>
    intro i hi
    have hil : i < l.length := by omega
    rw [capnpref10_Valid_L0_eq, decide_eq_true (show (i : Int) < ((pvs l).length : Int) by simp; omega), decide_eq_true (show 0 ≤ (i : Int) by omega)]
    dsimp only [callT_ret, callT_pan, onlyPV_v, Option.bind_some, pBool_v, pTup_v, pAgg_v, aggOf_v, pSl_v, pInt_v, pI64, pU64, pU32, pU8, List.getElem?_cons_zero, List.getElem?_cons_succ, cells_v, cells_sl, cells_agg, isCell_v, isCell_sl, cnd_t, cnd_f, tt_and, ff_and, nt_t, nt_f, len1, len3, len5, len8, len10, hlen1, clen1, clen5]
    rw [Int.toNat_natCast, pvs_get hil]
    dsimp only [callT_ret, callT_pan, onlyPV_v, Option.bind_some, pBool_v, pTup_v, pAgg_v, aggOf_v, pSl_v, pInt_v, pI64, pU64, pU32, pU8, List.getElem?_cons_zero, List.getElem?_cons_succ, cells_v, cells_sl, cells_agg, isCell_v, isCell_sl, cnd_t, cnd_f, tt_and, ff_and, nt_t, nt_f, len1, len3, len5, len8, len10, hlen1, clen1, clen5]
    rw [nd_five, nd_take5, hv _ (List.getElem_mem hil), w64 (x := (i : Int) + 1) (by omega)]
    dsimp only [callT_ret, callT_pan, onlyPV_v, Option.bind_some, pBool_v, pTup_v, pAgg_v, aggOf_v, pSl_v, pInt_v, pI64, pU64, pU32, pU8, List.getElem?_cons_zero, List.getElem?_cons_succ, cells_v, cells_sl, cells_agg, isCell_v, isCell_sl, cnd_t, cnd_f, tt_and, ff_and, nt_t, nt_f, len1, len3, len5, len8, len10, hlen1, clen1, clen5]
    have hn := ih (i + 1) (by omega)
    have hn' : capnpref10_Valid_L0 ((i : Int) + 1) k e n (bs d) (pvs l) = ok (Bo true) := hn
    rw [hn']
    by_cases k2 : k = 2
    · rw [beq_iff_eq.2 k2]
      dsimp only [callT_ret, callT_pan, onlyPV_v, Option.bind_some, pBool_v, pTup_v, pAgg_v, aggOf_v, pSl_v, pInt_v, pI64, pU64, pU32, pU8, List.getElem?_cons_zero, List.getElem?_cons_succ, cells_v, cells_sl, cells_agg, isCell_v, isCell_sl, cnd_t, cnd_f, tt_and, ff_and, nt_t, nt_f, len1, len3, len5, len8, len10, hlen1, clen1, clen5]
      by_cases e7 : e = 7
      · rw [beq_iff_eq.2 e7, nd_cell0, h1 k2 e7 _ (List.getElem_mem hil)]
        rfl
      · rw [beq_eq_false_iff_ne.2 e7]
        rfl
    · rw [beq_eq_false_iff_ne.2 k2]
      rfl
theorem V_Valid_pv (x : Nd) : good x → VN x → ev 22 [.pv x.pv] [] = ok (Bo true) := by
  induction x using Nd.ind with
  | h k e n d ks ih =>
    intro hg hv
    rw [good, goods_iff] at hg
    obtain ⟨⟨hd, hb, hk, h8⟩, hks⟩ := hg
    cases hv with
    | mk v1 v2 v3 =>
    rw [Nd.pv, capnpref10_Valid_eq]
    exact valid_loop hk hd hb (fun x hx => ih x hx (hks x hx) (v1 x hx)) v2 v3 ks.length 0 (by omega)
theorem V_Valid {x : Nd} (h : good x) (v : VN x) : ev 22 [.pv x.x] [] = ok (Bo true) := by
  have := V_Valid_pv x h v
  rwa [pv_x] at this
theorem targets_loop {l : List Nd} (hl : l.length ≤ 1073741824) (a b c : Int) (x : List PV) : ∀ (c0 i : Nat), i + c0 = l.length → (l.flatMap Nd.kids).length ≤ 1073741824 → capnpref10_Targets_L0 (pvs ((l.take i).flatMap Nd.kids)) i a b c x (pvs l) = ok (.sl 5 (pvs (l.flatMap Nd.kids))) := by
  intro c0
  induction c0 with
  | zero =>
    intro i hi hf
    rw [capnpref10_Targets_L0_eq, decide_eq_false (by simp; omega), List.take_of_length_le (by omega)]
    rfl
  | succ c0 ih =>
    intro i hi hf
    have hil : i < l.length := by omega
    rw [capnpref10_Targets_L0_eq, decide_eq_true (show (i : Int) < ((pvs l).length : Int) by simp; omega), decide_eq_true (show 0 ≤ (i : Int) by omega)]
    dsimp only [callT_ret, callT_pan, onlyPV_v, Option.bind_some, pBool_v, pTup_v, pAgg_v, aggOf_v, pSl_v, pInt_v, pI64, pU64, pU32, pU8, List.getElem?_cons_zero, List.getElem?_cons_succ, cells_v, cells_sl, cells_agg, isCell_v, isCell_sl, cnd_t, cnd_f, tt_and, ff_and, nt_t, nt_f, len1, len3, len5, len8, len10, hlen1, clen1, clen5]
    rw [Int.toNat_natCast, pvs_get hil]
    dsimp only [callT_ret, callT_pan, onlyPV_v, Option.bind_some, pBool_v, pTup_v, pAgg_v, aggOf_v, pSl_v, pInt_v, pI64, pU64, pU32, pU8, List.getElem?_cons_zero, List.getElem?_cons_succ, cells_v, cells_sl, cells_agg, isCell_v, isCell_sl, cnd_t, cnd_f, tt_and, ff_and, nt_t, nt_f, len1, len3, len5, len8, len10, hlen1, clen1, clen5]
    rw [nd_cells]
    dsimp only [Nd.c, callT_ret, callT_pan, onlyPV_v, Option.bind_some, pBool_v, pTup_v, pAgg_v, aggOf_v, pSl_v, pInt_v, pI64, pU64, pU32, pU8, List.getElem?_cons_zero, List.getElem?_cons_succ, cells_v, cells_sl, cells_agg, isCell_v, isCell_sl, cnd_t, cnd_f, tt_and, ff_and, nt_t, nt_f, len1, len3, len5, len8, len10, hlen1, clen1, clen5]
    have hnext : pvs ((l.take i).flatMap Nd.kids) ++ pvs l[i].kids = pvs ((l.take (i + 1)).flatMap Nd.kids) := by
      rw [take_snoc hil, List.flatMap_append, pvs_app]
      simp
    have hlen : ((l.take (i + 1)).flatMap Nd.kids).length ≤ (l.flatMap Nd.kids).length := by
      conv => rhs; rw [← List.take_append_drop (i + 1) l, List.flatMap_append, List.length_append]
      omega
    have hadd : (pvs ((l.take i).flatMap Nd.kids)).length + (pvs l[i].kids).length = ((l.take (i + 1)).flatMap Nd.kids).length := by
      rw [← List.length_append, hnext, pvs_len]
    rw [hadd, roomy_ok (by omega) (by omega), hnext, w64 (x := (i : Int) + 1) (by omega)]
    exact ih (i + 1) (by omega) hf
theorem tgt_mk (k e n : Int) (d : List Int) (ks : List Nd) : tgt (.mk k e n d ks) = if k = 2 ∧ e = 7 then ks.flatMap Nd.kids else ks := rfl
theorem V_Targets {x : Nd} (hg : good x) (hf : (tgt x).length ≤ 1073741824) : ev 51 [.pv x.x] [] = ok (.sl 5 (pvs (tgt x))) := by
  cases x with
  | mk k e n d ks =>
    rw [good] at hg
    obtain ⟨⟨hd, hb, hk, h8⟩, hks⟩ := hg
    rw [tgt_mk] at hf ⊢
    rw [Nd.x]
    dsimp only [Nd.kind, Nd.elem, Nd.n, Nd.data, Nd.kids]
    rw [capnpref10_Targets_eq]
    by_cases k2 : k = 2
    · by_cases e7 : e = 7
      · rw [if_pos ⟨k2, e7⟩] at hf ⊢
        rw [show (k != 2) = false from by simpa using k2, show (e != 7) = false from by simpa using e7]
        exact targets_loop hk k e n (bs d) ks.length 0 (by omega) hf
      · rw [if_neg (fun h => e7 h.2), show (k != 2) = false from by simpa using k2, show (e != 7) = true from by simpa using e7]
        rfl
    · rw [if_neg (fun h => k2 h.1), show (k != 2) = true from by simpa using k2]
      rfl
theorem good_tgt {x : Nd} (hg : good x) : ∀ y ∈ tgt x, good y := by
  have kid : ∀ {x : Nd}, good x → ∀ y ∈ x.kids, good y := fun {x} h y hy => by
    cases x with
    | mk k e n d ks => rw [good, goods_iff] at h; exact h.2 y hy
  unfold tgt
  split
  · intro y hy
    obtain ⟨z, hz, hy⟩ := List.mem_flatMap.1 hy
    exact kid (kid hg z hz) y hy
  · exact kid hg
theorem depth_loop {D : Nat} (hD : D ≤ 1099511627776) {l : List Nd} (hl : l.length ≤ 1073741824) (hv : ∀ x ∈ l, ∃ v : Int, ev 24 [.pv x.pv] [] = ok (I v) ∧ 0 ≤ v ∧ v ≤ D) (a b c : Int) (x y : List PV) : ∀ (c0 i : Nat) (m : Int), i + c0 = l.length → 0 ≤ m → m ≤ D → ∃ v : Int, capnpref10_Depth_L0 (.sl 5 (pvs l)) (I m) i a b c x y = ok (I v) ∧ 0 ≤ v ∧ v ≤ D + 1 := by
  intro c0
  induction c0 with
  | zero =>
    intro i m hi h0 h1
    refine ⟨1 + m, ?_, by omega, by omega⟩
    rw [capnpref10_Depth_L0_eq]
    dsimp only [callT_ret, callT_pan, onlyPV_v, Option.bind_some, pBool_v, pTup_v, pAgg_v, aggOf_v, pSl_v, pInt_v, pI64, pU64, pU32, pU8, List.getElem?_cons_zero, List.getElem?_cons_succ, cells_v, cells_sl, cells_agg, isCell_v, isCell_sl, cnd_t, cnd_f, tt_and, ff_and, nt_t, nt_f, len1, len3, len5, len8, len10, hlen1, clen1, clen5]
    rw [decide_eq_false (by simp; omega), w64 (x := 1 + m) (by omega)]
    rfl
  | succ c0 ih =>
    intro i m hi h0 h1
    have hil : i < l.length := by omega
    obtain ⟨v, e, hv0, hv1⟩ := hv _ (List.getElem_mem hil)
    rw [capnpref10_Depth_L0_eq]
    dsimp only [callT_ret, callT_pan, onlyPV_v, Option.bind_some, pBool_v, pTup_v, pAgg_v, aggOf_v, pSl_v, pInt_v, pI64, pU64, pU32, pU8, List.getElem?_cons_zero, List.getElem?_cons_succ, cells_v, cells_sl, cells_agg, isCell_v, isCell_sl, cnd_t, cnd_f, tt_and, ff_and, nt_t, nt_f, len1, len3, len5, len8, len10, hlen1, clen1, clen5]
    rw [decide_eq_true (show (i : Int) < ((pvs l).length : Int) by simp; omega), decide_eq_true (show 0 ≤ (i : Int) by omega)]
    dsimp only [callT_ret, callT_pan, onlyPV_v, Option.bind_some, pBool_v, pTup_v, pAgg_v, aggOf_v, pSl_v, pInt_v, pI64, pU64, pU32, pU8, List.getElem?_cons_zero, List.getElem?_cons_succ, cells_v, cells_sl, cells_agg, isCell_v, isCell_sl, cnd_t, cnd_f, tt_and, ff_and, nt_t, nt_f, len1, len3, len5, len8, len10, hlen1, clen1, clen5]
    rw [Int.toNat_natCast, pvs_get hil, show decide (5 = 5) = true from rfl]
    dsimp only [callT_ret, callT_pan, onlyPV_v, Option.bind_some, pBool_v, pTup_v, pAgg_v, aggOf_v, pSl_v, pInt_v, pI64, pU64, pU32, pU8, List.getElem?_cons_zero, List.getElem?_cons_succ, cells_v, cells_sl, cells_agg, isCell_v, isCell_sl, cnd_t, cnd_f, tt_and, ff_and, nt_t, nt_f, len1, len3, len5, len8, len10, hlen1, clen1, clen5]
    rw [nd_five, nd_take5, e, w64 (x := (i : Int) + 1) (by omega)]
    dsimp only [callT_ret, callT_pan, onlyPV_v, Option.bind_some, pBool_v, pTup_v, pAgg_v, aggOf_v, pSl_v, pInt_v, pI64, pU64, pU32, pU8, List.getElem?_cons_zero, List.getElem?_cons_succ, cells_v, cells_sl, cells_agg, isCell_v, isCell_sl, cnd_t, cnd_f, tt_and, ff_and, nt_t, nt_f, len1, len3, len5, len8, len10, hlen1, clen1, clen5]
    by_cases hm : v > m
    · rw [decide_eq_true hm]
      exact ih (i + 1) v (by omega) hv0 hv1
    · rw [decide_eq_false hm]
      exact ih (i + 1) m (by omega) h0 h1
theorem V_Depth : ∀ (D : Nat) (x : Nd), D ≤ 1099511627776 → good x → Dp D x → ∃ v : Int, ev 24 [.pv x.pv] [] = ok (I v) ∧ 0 ≤ v ∧ v ≤ D := by
  intro D
  induction D with
  | zero =>
    intro x _ hg hd
    have hk : x.kind = 0 := hd
    refine ⟨0, ?_, by omega, by omega⟩
    rw [pv_x, Nd.x, capnpref10_Depth_eq, beq_iff_eq.2 hk]
    rfl
  | succ D ih =>
    intro x hD hg hd
    rcases hd with hk | ⟨h1, h2⟩
    · refine ⟨0, ?_, by omega, by omega⟩
      rw [pv_x, Nd.x, capnpref10_Depth_eq, beq_iff_eq.2 hk]
      rfl
    · by_cases hk : x.kind = 0
      · refine ⟨0, ?_, by omega, by omega⟩
        rw [pv_x, Nd.x, capnpref10_Depth_eq, beq_iff_eq.2 hk]
        rfl
      · have ht := V_Targets hg h1
        obtain ⟨v, e, hv⟩ := depth_loop (D := D) (by omega) h1 (fun y hy => ih y (by omega) (good_tgt hg y hy) (h2 y hy)) x.kind x.elem x.n (bs x.data) (pvs x.kids) (tgt x).length 0 0 (by omega) (by omega) (by omega)
        refine ⟨v, ?_, hv.1, by have := hv.2; push_cast; omega⟩
        rw [Nd.x] at ht
        rw [pv_x, Nd.x, capnpref10_Depth_eq, beq_eq_false_iff_ne.2 hk]
        dsimp only [callT_ret, callT_pan, onlyPV_v, Option.bind_some, pBool_v, pTup_v, pAgg_v, aggOf_v, pSl_v, pInt_v, pI64, pU64, pU32, pU8, List.getElem?_cons_zero, List.getElem?_cons_succ, cells_v, cells_sl, cells_agg, isCell_v, isCell_sl, cnd_t, cnd_f, tt_and, ff_and, nt_t, nt_f, len1, len3, len5, len8, len10, hlen1, clen1, clen5]
        rw [ht]
        exact e
theorem cl5 (a b c d e : PV) : decide ((PV.agg [a, b, c, d, e]).cells.length = 5) = true := rfl
theorem runT_okd {l : List (List Int)} (hl : Segs l) (hs : Sm l) {d w : Int} (h : (runT l d w).2.2 = 0) : VN (runT l d w).1 ∧ Dp d.toNat (runT l d w).1 := by
  by_cases he : emp l
  · rw [runT, if_pos he]
    exact ⟨vn0, dp_nil rfl⟩
  · have e1 : runT l d w = den l d.toNat (max w 0) 0 0 := by rw [runT, if_neg he]
    rw [e1] at h ⊢
    exact den_okd hl hs _ _ _ _ h
theorem runT_er (l : List (List Int)) (d w : Int) : Er (runT l d w).2.2 := by
  unfold runT
  split
  · exact .inl rfl
  · exact den_er l _ _ _ _
/-- A success takes no more than there is. -/
theorem kids_le {G : Int → Nat → Nd × Int × Int} (h : ∀ m i, (G m i).2.2 = 0 → (G m i).2.1 ≤ m) : ∀ c i m acc, (kidsF G c i m acc).2.2 = 0 → (kidsF G c i m acc).2.1 ≤ m := by
  intro c
  induction c with
  | zero => intro i m acc _; exact Int.le_refl _
  | succ c ih =>
    intro i m acc hz
    by_cases h0 : (G m i).2.2 = 0
    · rw [kidsF_go h0] at hz ⊢
      have := h m i h0
      have := ih _ _ _ hz
      omega
    · rw [kidsF_err h0] at hz
      exact absurd hz h0
theorem den_le {l : List (List Int)} (hl : Segs l) (hs : Sm l) : ∀ D m s a, (den l D m s a).2.2 = 0 → (den l D m s a).2.1 ≤ m := by
  intro D
  induction D with
  | zero =>
    intro m s a _
    unfold den
    split
    · split <;> exact Int.le_refl _
    · exact Int.le_refl _
  | succ D ih =>
    intro m s a hz
    by_cases he : (fol l s a).2.2.2 = 0
    · by_cases h0 : (fol l s a).1 = 0
      · rw [den_nil he h0]; exact Int.le_refl _
      · rw [den_obj he h0] at hz ⊢
        unfold denO at hz ⊢
        by_cases hf : (obj l s a).2 = 0
        · rw [if_pos hf] at hz ⊢
          have hc := (obj_ok hl hs h0 he hf).2.2.2.2.2.1
          by_cases h8 : (obj l s a).1.cost > m
          · rw [if_pos h8]; exact Int.le_refl _
          · rw [if_neg h8] at hz ⊢
            have st : ∀ (m : Int) (o : Ob), (strct (den l D) l m o).2.2 = 0 → (strct (den l D) l m o).2.1 ≤ m := fun m o hz => kids_le (G := fun m (i : Nat) => den l D m o.seg (o.at_ + o.data + i)) (fun m i h => ih m _ _ h) o.ptrs.toNat 0 m [] hz
            by_cases h1 : (obj l s a).1.kind = 1
            · rw [if_pos h1] at hz ⊢
              have := st _ _ hz
              omega
            · rw [if_neg h1] at hz ⊢
              unfold denL at hz ⊢
              by_cases h6 : (obj l s a).1.elem < 6
              · rw [if_pos h6]
                show m - _ ≤ m
                omega
              · rw [if_neg h6] at hz ⊢
                have := kids_le (G := fun m (i : Nat) => if (obj l s a).1.elem = 6 then den l D m (obj l s a).1.seg ((obj l s a).1.at_ + i) else strct (den l D) l m (elt (obj l s a).1 i)) (fun m i h => by
                  by_cases h7 : (obj l s a).1.elem = 6
                  · simp only [if_pos h7] at h ⊢; exact ih m _ _ h
                  · simp only [if_neg h7] at h ⊢; exact st m _ h) (obj l s a).1.n.toNat 0 (m - (obj l s a).1.cost) [] hz
                show (kidsF _ _ _ _ _).2.1 ≤ m
                omega
        · rw [if_neg hf]; exact Int.le_refl _
    · rw [den_err he]; exact Int.le_refl _
theorem run_le' {l : List (List Int)} (hl : Segs l) (hs : Sm l) {d w : Int} (h0 : (runT l d w).2.2 = 0) : (runT l d w).2.1 ≤ max w 0 := by
  by_cases he : emp l
  · rw [runT, if_pos he]
    exact Int.le_refl _
  · have e1 : runT l d w = den l d.toNat (max w 0) 0 0 := by rw [runT, if_neg he]
    rw [e1] at h0 ⊢
    exact den_le hl hs _ _ _ _ h0
/-- What a success costs. -/
theorem runT_cost {l : List (List Int)} (hl : Segs l) (hs : Sm l) {d w : Int} (hw : w ≤ 4611686018427387904) : 0 ≤ (runT l d w).2.1 := by
  have := (runT_ok hl hs (d := d) hw).1
  exact this.1
/-- The law DenoteIsBounded. -/
theorem law_DenoteIsBounded {l : List (List Int)} (hl : Segs l) (d w b : Int) : ev 4 [.pv (.sl 1 (sgs l)), .pv (.agg [I d, I w, I b])] [] = ok (Bo true) := by
  obtain ⟨bl, e, hb⟩ := V_Small hl d w b
  rw [capnplaw12_DenoteIsBounded_eq, V_awake12]
  dsimp only [↓cl5, callT_ret, callT_pan, onlyPV_v, Option.bind_some, pBool_v, pTup_v, pAgg_v, aggOf_v, pSl_v, pInt_v, pI64, pU64, pU32, pU8, List.getElem?_cons_zero, List.getElem?_cons_succ, cells_v, cells_sl, cells_agg, isCell_v, isCell_sl, cnd_t, cnd_f, tt_and, ff_and, nt_t, nt_f, len1, len3, len5, len8, len10, hlen1, clen1, clen5]
  rw [e]
  dsimp only [↓cl5, callT_ret, callT_pan, onlyPV_v, Option.bind_some, pBool_v, pTup_v, pAgg_v, aggOf_v, pSl_v, pInt_v, pI64, pU64, pU32, pU8, List.getElem?_cons_zero, List.getElem?_cons_succ, cells_v, cells_sl, cells_agg, isCell_v, isCell_sl, cnd_t, cnd_f, tt_and, ff_and, nt_t, nt_f, len1, len3, len5, len8, len10, hlen1, clen1, clen5]
  cases bl with
  | false => rfl
  | true =>
    obtain ⟨hd, hw, _, h300⟩ := hb rfl
    have hs := sm_of h300
    dsimp only [↓cl5, callT_ret, callT_pan, onlyPV_v, Option.bind_some, pBool_v, pTup_v, pAgg_v, aggOf_v, pSl_v, pInt_v, pI64, pU64, pU32, pU8, List.getElem?_cons_zero, List.getElem?_cons_succ, cells_v, cells_sl, cells_agg, isCell_v, isCell_sl, cnd_t, cnd_f, tt_and, ff_and, nt_t, nt_f, len1, len3, len5, len8, len10, hlen1, clen1, clen5]
    rw [V_Message hl hs (by omega) (by omega)]
    dsimp only [Nd.x, ↓cl5, callT_ret, callT_pan, onlyPV_v, Option.bind_some, pBool_v, pTup_v, pAgg_v, aggOf_v, pSl_v, pInt_v, pI64, pU64, pU32, pU8, List.getElem?_cons_zero, List.getElem?_cons_succ, cells_v, cells_sl, cells_agg, isCell_v, isCell_sl, cnd_t, cnd_f, tt_and, ff_and, nt_t, nt_f, len1, len3, len5, len8, len10, hlen1, clen1, clen5]
    rw [V_Measure hl hs (by omega) (by omega)]
    dsimp only [↓cl5, callT_ret, callT_pan, onlyPV_v, Option.bind_some, pBool_v, pTup_v, pAgg_v, aggOf_v, pSl_v, pInt_v, pI64, pU64, pU32, pU8, List.getElem?_cons_zero, List.getElem?_cons_succ, cells_v, cells_sl, cells_agg, isCell_v, isCell_sl, cnd_t, cnd_f, tt_and, ff_and, nt_t, nt_f, len1, len3, len5, len8, len10, hlen1, clen1, clen5]
    rw [show (msgE l d w != msgE l d w) = false from by simp]
    dsimp only [↓cl5, callT_ret, callT_pan, onlyPV_v, Option.bind_some, pBool_v, pTup_v, pAgg_v, aggOf_v, pSl_v, pInt_v, pI64, pU64, pU32, pU8, List.getElem?_cons_zero, List.getElem?_cons_succ, cells_v, cells_sl, cells_agg, isCell_v, isCell_sl, cnd_t, cnd_f, tt_and, ff_and, nt_t, nt_f, len1, len3, len5, len8, len10, hlen1, clen1, clen5]
    have hg := msgN_ok hl hs (d := d) (w := w) (by omega)
    by_cases h0 : msgE l d w = 0
    · have h0' : (runT l d w).2.2 = 0 := h0
      have hn : msgN l d w = trimN (runT l d w).1 := by rw [msgN, if_pos h0']
      have hc : meaC l d w = max w 0 - (runT l d w).2.1 := by rw [meaC, if_pos h0']
      have hr := runT_ok hl hs (d := d) (w := w) (by omega)
      have hle := run_le' hl hs h0'
      obtain ⟨k1, k2⟩ := runT_okd hl hs h0'
      have hv := V_Valid hg (hn ▸ vn_trim _ k1)
      have ht := V_Trimmed hg (hn ▸ tr_trim _ hr.2)
      obtain ⟨v, hd1, hd2, hd3⟩ := V_Depth d.toNat (msgN l d w) (by omega) hg (hn ▸ dp_trim _ _ k2)
      rw [pv_x] at hd1
      dsimp only [Nd.x] at hv ht hd1
      have m1 : (if 0 > d then 0 else d) = max d 0 := by omega
      have m2 : (if 0 > w then 0 else w) = max w 0 := by omega
      have h1 := hr.1.1
      rw [h0, show ((0 : Int) != 0) = false from rfl]
      dsimp only [↓cl5, callT_ret, callT_pan, onlyPV_v, Option.bind_some, pBool_v, pTup_v, pAgg_v, aggOf_v, pSl_v, pInt_v, pI64, pU64, pU32, pU8, List.getElem?_cons_zero, List.getElem?_cons_succ, cells_v, cells_sl, cells_agg, isCell_v, isCell_sl, cnd_t, cnd_f, tt_and, ff_and, nt_t, nt_f, len1, len3, len5, len8, len10, hlen1, clen1, clen5]
      rw [hv]
      dsimp only [↓cl5, callT_ret, callT_pan, onlyPV_v, Option.bind_some, pBool_v, pTup_v, pAgg_v, aggOf_v, pSl_v, pInt_v, pI64, pU64, pU32, pU8, List.getElem?_cons_zero, List.getElem?_cons_succ, cells_v, cells_sl, cells_agg, isCell_v, isCell_sl, cnd_t, cnd_f, tt_and, ff_and, nt_t, nt_f, len1, len3, len5, len8, len10, hlen1, clen1, clen5]
      rw [ht]
      dsimp only [↓cl5, callT_ret, callT_pan, onlyPV_v, Option.bind_some, pBool_v, pTup_v, pAgg_v, aggOf_v, pSl_v, pInt_v, pI64, pU64, pU32, pU8, List.getElem?_cons_zero, List.getElem?_cons_succ, cells_v, cells_sl, cells_agg, isCell_v, isCell_sl, cnd_t, cnd_f, tt_and, ff_and, nt_t, nt_f, len1, len3, len5, len8, len10, hlen1, clen1, clen5]
      rw [hd1]
      dsimp only [↓cl5, callT_ret, callT_pan, onlyPV_v, Option.bind_some, pBool_v, pTup_v, pAgg_v, aggOf_v, pSl_v, pInt_v, pI64, pU64, pU32, pU8, List.getElem?_cons_zero, List.getElem?_cons_succ, cells_v, cells_sl, cells_agg, isCell_v, isCell_sl, cnd_t, cnd_f, tt_and, ff_and, nt_t, nt_f, len1, len3, len5, len8, len10, hlen1, clen1, clen5]
      rw [m1, m2, decide_eq_true (show v ≤ max d 0 by omega), decide_eq_true (show meaC l d w ≥ 0 by omega), decide_eq_true (show meaC l d w ≤ max w 0 by omega)]
      rfl
    · have h0' : (runT l d w).2.2 ≠ 0 := h0
      have hn : msgN l d w = nd0 := by rw [msgN, if_neg h0']
      have hc : meaC l d w = 0 := by rw [meaC, if_neg h0']
      have her : Er (msgE l d w) := runT_er l d w
      unfold Er at her
      have q := V_Equal good0
      rw [bne_t h0, hc, hn, show ((0 : Int) == 0) = true from rfl]
      dsimp only [↓cl5, callT_ret, callT_pan, onlyPV_v, Option.bind_some, pBool_v, pTup_v, pAgg_v, aggOf_v, pSl_v, pInt_v, pI64, pU64, pU32, pU8, List.getElem?_cons_zero, List.getElem?_cons_succ, cells_v, cells_sl, cells_agg, isCell_v, isCell_sl, cnd_t, cnd_f, tt_and, ff_and, nt_t, nt_f, len1, len3, len5, len8, len10, hlen1, clen1, clen5]
      have q' : ev 21 [.pv (.agg [I nd0.kind, I nd0.elem, I nd0.n, .sl 1 (bs nd0.data), .sl 5 (pvs nd0.kids)]), .pv (.agg [I 0, I 0, I 0, .sl 1 [], .sl 5 []])] [] = ok (Bo true) := q
      rw [q']
      dsimp only [↓cl5, callT_ret, callT_pan, onlyPV_v, Option.bind_some, pBool_v, pTup_v, pAgg_v, aggOf_v, pSl_v, pInt_v, pI64, pU64, pU32, pU8, List.getElem?_cons_zero, List.getElem?_cons_succ, cells_v, cells_sl, cells_agg, isCell_v, isCell_sl, cnd_t, cnd_f, tt_and, ff_and, nt_t, nt_f, len1, len3, len5, len8, len10, hlen1, clen1, clen5]
      rw [decide_eq_true (show msgE l d w ≥ 2 by omega), decide_eq_true (show msgE l d w ≤ 8 by omega)]
      rfl
end Go.Proofs.YtdkmbkdgojiebaaDoor.E

namespace Go.Proofs.YtdkmbkdgojiebaaDoor.denoteIsBounded
open Go.ChangeShapes Go.WideShapes Go.ChangeAt Go.RowKit Go.Proofs.YtdkmbkdgojiebaaDoor.E
set_option linter.unusedVariables false
theorem own : ownKnob Tryd.prog.godebug = none := by kernel_rfl
theorem laidOut : laidOutB Tryd.prog = true := by kernel_rfl
theorem door_met (os : Os) (args : Array Value) : laidMetH Tryd.prog Rows.denoteIsBoundedRow.laid ((World.doorLaid Tryd.prog 600 os).forCall (fun _ _ => 0) ⟨#[], args, []⟩).memory :=
  laidMetH_of_parts3 (fuel := 8) (laidMet_of_run' 8 (by kernel_rfl) (by kernel_rfl)) (by kernel_rfl) (by kernel_rfl)
set_option maxRecDepth 100000 in
set_option maxHeartbeats 1000000 in
theorem reads (os : Os) {H : Type} (enc : TypeId × Value → H) : DataW.whole enc Tryd.prog ((World.doorLaid Tryd.prog 600 os).forCall (fun _ _ => 0) ⟨#[], #[.slice none 0 0, .agg #[.int .i64 0, .int .i64 0, .int .i64 0]], []⟩).memory Tryd.f4.params.toList Rows.denoteIsBoundedSpec.vars false (#[.slice none 0 0, .agg #[.int .i64 0, .int .i64 0, .int .i64 0]] : Array Value).toList 8 = some ([.nil, .agg [.lit (.int .i64 0), .lit (.int .i64 0), .lit (.int .i64 0)]], [], []) := by kernel_rfl
set_option maxRecDepth 100000 in
set_option maxHeartbeats 1000000 in
theorem lifted (os : Os) (started : os.Started) (H : Type) (enc : TypeId × Value → H) (F : Stop.Interp) :
    ReturnsInHanded {} Tryd.checked os 4 .any ((OpenSpec.ofChange Rows.denoteIsBoundedSpec).preRow enc Tryd.prog Tryd.f4 Rows.denoteIsBoundedRow.domain false Rows.denoteIsBoundedRow.laid) (((OpenSpec.ofChange Rows.denoteIsBoundedSpec).at F).post enc Tryd.prog Tryd.f4 false true false false) := by
  refine returnsInHanded_of_row (C := Tryd.checked) (s := (OpenSpec.ofChange Rows.denoteIsBoundedSpec)) own started (by kernel_rfl) Tryd.func4
    (witness_row_atRef (enc := enc) (C := Tryd.checked) false (World.doorLaid Tryd.prog 600 os) #[.slice none 0 0, .agg #[.int .i64 0, .int .i64 0, .int .i64 0]] rfl (by kernel_rfl) (by kernel_rfl) (by kernel_rfl)
      (OpenSpec.preRow_of_cond 8 (reads os enc) (by kernel_rfl) (fun k hk => by cases hk) (by kernel_rfl) (door_met os _))) ?_
  intro W base args ds gs before hval0 hW _ hcond _ hL _ _
  have hval : ∀ (j : Nat) t v, Tryd.f4.params[j]? = some t → args[j]? = some v → Value.okWide Tryd.prog W .any base t v := hval0
  have hW' := hW
  obtain ⟨p, q, hA0, hV, rfl, hfz, hnd⟩ := hW
  have hA : DataW.TrodAll enc Tryd.prog W 0 (fun _ => true) true Tryd.f4.params.toList args.toList ds p := hA0
  rw [Tryd.params4] at hA hval
  obtain ⟨v0, vs0, d0, ds0, p0, q0, hargs, rfl, rfl, h0, r0⟩ := trodAll_cons hA
  obtain ⟨v1, vs1, d1, ds1, p1, q1, rfl, rfl, rfl, h1, r1⟩ := trodAll_cons r0
  obtain ⟨rfl, rfl, rfl⟩ := trodAll_nil r1
  obtain rfl : args = #[v0, v1] := by cases args; simp_all
  obtain ⟨rfl, rfl⟩ := trodVars_none hV
  have k0 := h0
  have lt0 : ∀ x ∈ p0, x.block < W.heap.size := by obtain ⟨m, hm⟩ := k0; exact DataW.trod_lt m _ _ _ hm
  obtain ⟨x0, y0, z0, rfl⟩ := okWide_slice Tryd.underlying22 (hval 0 22 v0 rfl rfl)
  obtain ⟨a0, g0, s_a0⟩ := rds_pv (d := eSegs) (S := (DS (DS (DI .u64)))) rd_segs (fun _ => rfl) (fun h => by cases h) h0
  have k1 := h1
  have lt1 : ∀ x ∈ p1, x.block < W.heap.size := by obtain ⟨m, hm⟩ := k1; exact DataW.trod_lt m _ _ _ hm
  obtain ⟨u1, rfl, sz1⟩ := okWide_struct Tryd.underlying24 (hval 1 24 v1 rfl rfl)
  obtain ⟨a1, g1, s_a1⟩ := rds_pv (d := eLim) (S := DLim) rd_lim (fun h => by cases h) (fun _ => ⟨_, rfl⟩) h1
  have hG : WOk Tryd.prog env (G0 W) W := wok_of_laid hL (by first | exact List.mem_cons_self | (exact List.mem_cons_of_mem _ List.mem_cons_self)) rfl
  refine (run_true hm hS hfn hcln hG (f := 4) (ps := [.sl 1 (sgs a0), .agg [I a1.1, I a1.2.1, I a1.2.2]]) (vs := #[_, _]) rfl (fun j p x hp hx => ?_) (law_DenoteIsBounded (plain_segs s_a0) a1.1 a1.2.1 a1.2.2)).mono fun e W' ⟨he, bel⟩ => ?_
  · match j with
    | 0 => cases hp; cases hx; exact g0
    | 1 => cases hp; cases hx; exact g1
    | j + 2 => simp at hp
  subst he
  exact ⟨_, rfl, _, _, _, [], _, [], hW', trodAll_mk1 (shut_bool Tryd.underlying4 _), (trodAll_cons_mk (Below.trod laidOut (by kernel_rfl) (of_decide_eq_true (by kernel_rfl)) k0 bel lt0) (trodAll_cons_mk (Below.trod laidOut (by kernel_rfl) (of_decide_eq_true (by kernel_rfl)) k1 bel lt1) trodAll_mk0)), rfl, bel.frame _, fun h => by cases h⟩
theorem over : Rows.denoteIsBoundedRow.holds Tryd.pinned (OpenSpec.ofChange Rows.denoteIsBoundedSpec) :=
  OpenClaim.holds_of_cond 4 Tryd.f4 rfl rfl rfl rfl rfl rfl rfl ⟨rfl, rfl, rfl, rfl, rfl⟩ rfl rfl rfl rfl rfl (by kernel_rfl) Tryd.func4 (by kernel_rfl)
    (of_decide_eq_true (by kernel_rfl)) (by unfold Func.isWrapper; first | (rw [if_pos (by decide +kernel)]; kernel_rfl) | (rw [if_neg (by decide +kernel)]; exact ⟨rfl, rfl⟩))
    (fun os started H enc _ F => by rw [OpenClaim.pre_eq_preRow]; exact lifted os started H enc F)
theorem card_holds : Rows.DenoteIsBoundedCardSaid :=
  Claim7.holds_tied_plain_at .later [] [.funcs, .data] true (true, "9870dac34ebcfa5c3eb2d12a8177f74355f09bde2a78a24c0547fb84c01ceaf1") true
    over (fun _ h => by cases h) (by kernel_rfl) (fun _ h => by cases h) denoteIsBounded_row_tie rfl ⟨rfl, rfl⟩ (by kernel_rfl) rfl
    (fun f fn hf hfn => by
      obtain rfl : f = 4 := Option.some.inj ((show Tryd.prog.funcNamed "capnp/capnplaw12.DenoteIsBounded" = some 4 by kernel_rfl).symm.trans hf) |>.symm
      obtain rfl : fn = Tryd.f4 := (Option.some.inj (Tryd.func4.symm.trans hfn)).symm
      exact ⟨by kernel_rfl, fun j t ht => by
        rw [Tryd.params4] at ht
        have hm : t ∈ [22, 24] := by simpa using Array.mem_of_getElem? ht
        have hall : ([22, 24].all fun u => !Tryd.prog.wantsStandIn u) = true := by kernel_rfl
        exact (show Tryd.prog.wantsStandIn t = false by simpa using List.all_eq_true.1 hall t hm)⟩)
    (by kernel_rfl)
#print axioms card_holds
end Go.Proofs.YtdkmbkdgojiebaaDoor.denoteIsBounded
namespace Go.Proofs.YtdkmbkdgojiebaaDoor
theorem denoteIsBounded_holds : Go.Proofs.YtdkmbkdgojiebaaDoor.Rows.DenoteIsBoundedCardSaid := denoteIsBounded.card_holds
end Go.Proofs.YtdkmbkdgojiebaaDoor
