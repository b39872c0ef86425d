/- This text proves that the law EqualKeeps of the given program returns true on every input that its statement covers, as the statement says it. Its conditions are the statement's own. -/
import Derived.Test.YtdkmbkdgojiebaaDoorBP1
import Derived.Test.YtdkmbkdgojiebaaDoorRows
import Derived.Test.YtdkmbkdgojiebaaDoorCards
import Derived.Test.YtdkmbkdgojiebaaDoorTie
import Derived.WalkKit
import Derived.ProofKit
import Derived.OpenShut
import Derived.ChangeOld
import Derived.SizedLaws
import Derived.SevenTiedAt
import Derived.Deep.DeepHandedRow
import Derived.Deep.DeepWitnessRowRef
set_option linter.unusedVariables false
set_option linter.unusedSimpArgs false
set_option linter.unusedVariables false
set_option linter.unusedSimpArgs false
namespace Go.Proofs.YtdkmbkdgojiebaaDoor.E
/-! What a denotation is like. -/
/-- The errors. -/
def Er (e : Int) : Prop := e = 0 ∨ 2 ≤ e ∧ e ≤ 8
theorem er7 : Er 7 := .inr ⟨by decide, by decide⟩
theorem er8 : Er 8 := .inr ⟨by decide, by decide⟩
theorem fol_er (l : List (List Int)) (s a : Int) : Er (fol l s a).2.2.2 := by
  unfold fol dbl sgl Er
  repeat' split
  all_goals (simp)
theorem obj_er {l : List (List Int)} {s a : Int} : Er (obj l s a).2 := by
  unfold obj objP objS objL objC bad
  split
  · repeat' split
    all_goals (simp [Er])
  · exact fol_er l s a
theorem kids_er {F : Int → Nat → Nd × Int × Int} (h : ∀ m i, Er (F m i).2.2) : ∀ c i m acc, Er (kidsF F c i m acc).2.2 := by
  intro c
  induction c with
  | zero => intro i m acc; exact .inl rfl
  | succ c ih =>
    intro i m acc
    rw [kidsF]
    split
    · exact ih _ _ _
    · exact h m i
theorem strct_er {F : Int → Int → Int → Nd × Int × Int} (h : ∀ m s a, Er (F m s a).2.2) (l : List (List Int)) (m : Int) (o : Ob) : Er (strct F l m o).2.2 := kids_er (fun m i => h m _ _) _ _ _ _
theorem denO_er {F : Int → Int → Int → Nd × Int × Int} (h : ∀ m s a, Er (F m s a).2.2) (l : List (List Int)) (m : Int) {t : Ob × Int} (ht : Er t.2) : Er (denO F l m t).2.2 := by
  unfold denO
  split
  · split
    · exact er8
    · split
      · exact strct_er h l _ _
      · unfold denL
        split
        · exact .inl rfl
        · refine kids_er (F := fun m i => if t.1.elem = 6 then F m t.1.seg (t.1.at_ + i) else strct F l m (elt t.1 i)) (fun m i => ?_) _ _ _ _
          split
          · exact h m _ _
          · exact strct_er h l _ _
  · exact ht
theorem den_er (l : List (List Int)) : ∀ D m s a, Er (den l D m s a).2.2 := by
  intro D
  induction D with
  | zero =>
    intro m s a
    unfold den
    split
    · split
      · exact .inl rfl
      · exact er7
    · exact fol_er l s a
  | succ D ih =>
    intro m s a
    unfold den
    split
    · split
      · exact .inl rfl
      · exact denO_er ih l _ obj_er
    · exact fol_er l s a
-- trimmed
theorem keptN_all {α : Type} {p : α → Bool} {l : List α} : keptN p (l.take (keptN p l)) = keptN p l := by
  induction hn : l.length generalizing l with
  | zero => have := List.length_eq_zero_iff.1 hn; subst this; rfl
  | succ n ih =>
    rcases List.eq_nil_or_concat l with rfl | ⟨l', x, rfl⟩
    · rfl
    · rw [List.concat_eq_append] at hn ⊢
      have hl : l'.length = n := by simpa using hn
      rw [keptN_snoc]
      have hle := keptN_le p l'
      split
      · rw [List.take_append_of_le_length hle]
        exact ih hl
      · rename_i hp
        rw [show (l' ++ [x]).take (l'.length + 1) = l' ++ [x] from List.take_of_length_le (by simp), keptN_snoc, if_neg hp]
theorem wordsT_take {d : List Int} (h8 : d.length % 8 = 0) : (d.take (8 * wordsT d)).length = 8 * wordsT d ∧ wordsT (d.take (8 * wordsT d)) = wordsT d := by
  have hle := keptN_le (· == 0) d
  have h1 : (d.take (8 * wordsT d)).length = 8 * wordsT d := by
    rw [List.length_take]
    unfold wordsT
    omega
  refine ⟨h1, ?_⟩
  have h2 : 8 * wordsT d ≤ d.length := by unfold wordsT; omega
  have hk : keptN (· == 0) (d.take (8 * wordsT d)) = keptN (· == 0) d := by
    have hge : keptN (· == 0) d ≤ 8 * wordsT d := by unfold wordsT; omega
    have mono : ∀ (j : Nat), keptN (· == 0) d ≤ j → j ≤ d.length → keptN (· == 0) (d.take j) = keptN (· == 0) d := by
      intro j hj hjd
      induction hm : d.length - j generalizing j with
      | zero => rw [List.take_of_length_le (by omega)]
      | succ m ih =>
        have hjl : j < d.length := by omega
        have := ih (j + 1) (by omega) (by omega) (by omega)
        rw [take_snoc hjl, keptN_snoc] at this
        split at this
        · exact this
        · rw [List.length_take] at this
          omega
    exact mono _ hge (by omega)
  unfold wordsT at hk ⊢
  rw [hk]
theorem ptrsT_take (ks : List Nd) : ptrsT (ks.take (ptrsT ks)) = ptrsT ks ∧ (ks.take (ptrsT ks)).length = ptrsT ks := ⟨keptN_all, by rw [List.length_take]; have := keptN_le (fun x : Nd => x.kind == 0) ks; unfold ptrsT; omega⟩
theorem trimN_kind (x : Nd) : (trimN x).kind = x.kind := by
  cases x with
  | mk k e n d ks => rw [trimN]; split <;> rfl
theorem ptrsT_map (ks : List Nd) : ptrsT (trimNs ks) = ptrsT ks := by
  rw [trimNs_eq]
  unfold ptrsT
  induction hn : ks.length generalizing ks with
  | zero => have := List.length_eq_zero_iff.1 hn; subst this; rfl
  | succ n ih =>
    rcases List.eq_nil_or_concat ks with rfl | ⟨l', x, rfl⟩
    · rfl
    · rw [List.concat_eq_append] at hn ⊢
      rw [List.map_append, List.map_singleton, keptN_snoc, keptN_snoc, trimN_kind, ih l' (by simpa using hn), List.length_map]
/-- Trimmed. -/
inductive TrN : Nd → Prop
  | mk {k e n : Int} {d : List Int} {ks : List Nd} : (k = 1 → 8 * wordsT d = d.length ∧ ptrsT ks = ks.length) → (∀ x ∈ ks, TrN x) → TrN (.mk k e n d ks)
theorem tr_trim (x : Nd) : good x → TrN (trimN x) := by
  induction x using Nd.ind with
  | h k e n d ks ih =>
    intro hg
    rw [good, goods_iff] at hg
    obtain ⟨⟨hd, hb, hk, h8⟩, hks⟩ := hg
    rw [trimN]
    by_cases h1 : k = 1
    · rw [if_pos h1]
      refine .mk (fun _ => ?_) fun y hy => ?_
      · obtain ⟨a1, a2⟩ := wordsT_take (h8 h1)
        have := ptrsT_take (trimNs ks)
        rw [ptrsT_map] at this
        exact ⟨by rw [a1, a2], by rw [this.1, this.2]⟩
      · have := List.mem_of_mem_take hy
        rw [trimNs_eq] at this
        obtain ⟨x, hx, rfl⟩ := List.mem_map.1 this
        exact ih x hx (hks x hx)
    · rw [if_neg h1]
      refine .mk (fun h => absurd h h1) fun y hy => ?_
      rw [trimNs_eq] at hy
      obtain ⟨x, hx, rfl⟩ := List.mem_map.1 hy
      exact ih x hx (hks x hx)
theorem trimmed_loop {l : List Nd} (hl : l.length ≤ 1073741824) (hv : ∀ x ∈ l, ev 23 [.pv x.pv] [] = ok (Bo true)) (a b c : Int) (x : List PV) : ∀ (c0 i : Nat), i + c0 = l.length → capnpref11_Trimmed_L0 i a b c x (pvs l) = ok (Bo true) := by
  intro c0
  induction c0 with
  | zero => intro i hi; rw [capnpref11_Trimmed_L0_eq, decide_eq_false (by simp; omega)]; rfl
  | succ c0 ih =>
    intro i hi
    have hil : i < l.length := by omega
    rw [capnpref11_Trimmed_L0_eq, decide_eq_true (show (i : Int) < ((pvs l).length : Int) by simp; omega), decide_eq_true (show 0 ≤ (i : Int) by omega)]
    dsimp only [callT_ret, callT_pan, onlyPV_v, Option.bind_some, pBool_v, pTup_v, pAgg_v, aggOf_v, pSl_v, pInt_v, pI64, pU64, pU32, pU8, List.getElem?_cons_zero, List.getElem?_cons_succ, cells_v, cells_sl, cells_agg, isCell_v, isCell_sl, cnd_t, cnd_f, tt_and, ff_and, nt_t, nt_f, len1, len3, len5, len8, len10, hlen1, clen1, clen5]
    rw [Int.toNat_natCast, pvs_get hil]
    dsimp only [callT_ret, callT_pan, onlyPV_v, Option.bind_some, pBool_v, pTup_v, pAgg_v, aggOf_v, pSl_v, pInt_v, pI64, pU64, pU32, pU8, List.getElem?_cons_zero, List.getElem?_cons_succ, cells_v, cells_sl, cells_agg, isCell_v, isCell_sl, cnd_t, cnd_f, tt_and, ff_and, nt_t, nt_f, len1, len3, len5, len8, len10, hlen1, clen1, clen5]
    rw [nd_five, nd_take5, hv _ (List.getElem_mem hil), w64 (x := (i : Int) + 1) (by omega)]
    exact ih (i + 1) (by omega)
theorem V_Trimmed_pv (x : Nd) : good x → TrN x → ev 23 [.pv x.pv] [] = ok (Bo true) := by
  induction x using Nd.ind with
  | h k e n d ks ih =>
    intro hg ht
    rw [good, goods_iff] at hg
    obtain ⟨⟨hd, hb, hk, h8⟩, hks⟩ := hg
    cases ht with
    | mk t1 t2 =>
    have hv : ∀ x ∈ ks, ev 23 [.pv x.pv] [] = ok (Bo true) := fun x hx => ih x hx (hks x hx) (t2 x hx)
    have hlp : capnpref11_Trimmed_L0 0 k e n (bs d) (pvs ks) = ok (Bo true) := trimmed_loop hk hv k e n (bs d) ks.length 0 (by omega)
    rw [Nd.pv, capnpref11_Trimmed_eq]
    by_cases h1 : k = 1
    · obtain ⟨u1, u2⟩ := t1 h1
      have hw : (wordsT d : Nat) ≤ 17592186044416 := by omega
      rw [beq_iff_eq.2 h1, V_rwords hd]
      dsimp only [callT_ret, callT_pan, onlyPV_v, Option.bind_some, pBool_v, pTup_v, pAgg_v, aggOf_v, pSl_v, pInt_v, pI64, pU64, pU32, pU8, List.getElem?_cons_zero, List.getElem?_cons_succ, cells_v, cells_sl, cells_agg, isCell_v, isCell_sl, cnd_t, cnd_f, tt_and, ff_and, nt_t, nt_f, len1, len3, len5, len8, len10, hlen1, clen1, clen5]
      rw [w64 (x := 8 * ((wordsT d : Nat) : Int)) (by omega), bs_len, show ((8 * ((wordsT d : Nat) : Int)) != (d.length : Int)) = false from by simp; omega, V_rptrs hk]
      dsimp only [callT_ret, callT_pan, onlyPV_v, Option.bind_some, pBool_v, pTup_v, pAgg_v, aggOf_v, pSl_v, pInt_v, pI64, pU64, pU32, pU8, List.getElem?_cons_zero, List.getElem?_cons_succ, cells_v, cells_sl, cells_agg, isCell_v, isCell_sl, cnd_t, cnd_f, tt_and, ff_and, nt_t, nt_f, len1, len3, len5, len8, len10, hlen1, clen1, clen5]
      rw [pvs_len, show (((ptrsT ks : Nat) : Int) != (ks.length : Int)) = false from by simp; omega]
      exact hlp
    · rw [beq_eq_false_iff_ne.2 h1]
      exact hlp
theorem V_Trimmed {x : Nd} (h : good x) (t : TrN x) : ev 23 [.pv x.x] [] = ok (Bo true) := by
  have := V_Trimmed_pv x h t
  rwa [pv_x] at this
end Go.Proofs.YtdkmbkdgojiebaaDoor.E

set_option linter.unusedVariables false
set_option linter.unusedSimpArgs false
namespace Go.Proofs.YtdkmbkdgojiebaaDoor.E
/-! A denotation is well-formed, and as deep as its limit at most. -/
def tgt (x : Nd) : List Nd := if x.kind = 2 ∧ x.elem = 7 then x.kids.flatMap Nd.kids else x.kids
def Dp : Nat → Nd → Prop
  | 0, x => x.kind = 0
  | D + 1, x => x.kind = 0 ∨ ((tgt x).length ≤ 1073741824 ∧ ∀ y ∈ tgt x, Dp D y)
theorem dp_nil {D : Nat} {x : Nd} (h : x.kind = 0) : Dp D x := by
  cases D with
  | zero => exact h
  | succ D => exact .inl h
def Shp (k e n : Int) (d : List Int) (q : Nat) : Prop :=
  (k = 0 ∧ e = 0 ∧ n = 0 ∧ d.length = 0 ∧ q = 0) ∨ (k = 1 ∧ e = 0 ∧ n = 0 ∧ d.length % 8 = 0 ∧ d.length ≤ 524280 ∧ q ≤ 65535) ∨
  (k = 2 ∧ (0 ≤ n ∧ n ≤ 536870911) ∧ (0 ≤ e ∧ e ≤ 7) ∧ (6 ≤ e → d.length = 0 ∧ (q : Int) = n) ∧ (e < 6 → q = 0 ∧ (d.length : Int) = bytesN e n ∧ trimB e n d = d))
/-- Well-formed. -/
inductive VN : Nd → Prop
  | mk {k e n : Int} {d : List Int} {ks : List Nd} : (∀ x ∈ ks, VN x) → (k = 2 → e = 7 → ∀ x ∈ ks, x.kind = 1) → Shp k e n d ks.length → VN (.mk k e n d ks)
theorem vn0 : VN nd0 := .mk (fun x h => by cases h) (fun _ _ x h => by cases h) (.inl ⟨rfl, rfl, rfl, rfl, rfl⟩)
theorem kids_all {G : Int → Nat → Nd × Int × Int} {Q : Nd → Prop} (h : ∀ m i, (G m i).2.2 = 0 → Q (G m i).1) : ∀ c i m acc, (∀ x ∈ acc, Q x) → ∀ x ∈ (kidsF G c i m acc).1, Q x := by
  intro c
  induction c with
  | zero => intro i m acc ha; exact ha
  | succ c ih =>
    intro i m acc ha
    by_cases h0 : (G m i).2.2 = 0
    · rw [kidsF_go h0]
      refine ih _ _ _ fun x hx => ?_
      rcases List.mem_append.1 hx with h1 | h1
      · exact ha x h1
      · rw [List.mem_singleton.1 h1]; exact h m i h0
    · rw [kidsF_err h0]
      exact fun x hx => by cases hx
theorem kids_len {G : Int → Nat → Nd × Int × Int} : ∀ c i m acc, (kidsF G c i m acc).2.2 = 0 → (kidsF G c i m acc).1.length = acc.length + c := by
  intro c
  induction c with
  | zero => intro i m acc _; rfl
  | succ c ih =>
    intro i m acc hz
    by_cases h0 : (G m i).2.2 = 0
    · rw [kidsF_go h0] at hz ⊢
      rw [ih _ _ _ hz]
      simp
      omega
    · rw [kidsF_err h0] at hz
      exact absurd hz h0
/-- What is known of a success. -/
def Okd (D : Nat) (F : Int → Int → Int → Nd × Int × Int) : Prop := ∀ m s a, (F m s a).2.2 = 0 → VN (F m s a).1 ∧ Dp D (F m s a).1
theorem strct_okd {D : Nat} {F : Int → Int → Int → Nd × Int × Int} (h : Okd D F) (l : List (List Int)) (m : Int) {o : Ob} (hd : o.data ≤ 65535) (hq : 0 ≤ o.ptrs ∧ o.ptrs ≤ 65535) (hz : (strct F l m o).2.2 = 0) : VN (strct F l m o).1 ∧ (strct F l m o).1.kind = 1 ∧ (strct F l m o).1.kids.length = o.ptrs.toNat ∧ ∀ y ∈ (strct F l m o).1.kids, Dp D y := by
  unfold strct at hz ⊢
  have hz' : (kidsF (fun m (i : Nat) => F m o.seg (o.at_ + o.data + i)) o.ptrs.toNat 0 m []).2.2 = 0 := hz
  have ha := kids_all (G := fun m (i : Nat) => F m o.seg (o.at_ + o.data + i)) (Q := fun x => VN x ∧ Dp D x) (fun m i h0 => h m _ _ h0) o.ptrs.toNat 0 m [] (fun x hx => by cases hx)
  have hl := kids_len (G := fun m (i : Nat) => F m o.seg (o.at_ + o.data + i)) o.ptrs.toNat 0 m [] hz'
  rw [wrapK_ok0 hz']
  generalize kidsF (fun m (i : Nat) => F m o.seg (o.at_ + o.data + i)) o.ptrs.toNat 0 m [] = K at ha hl
  have hcl := cutB_len l o.seg o.at_ o.data
  refine ⟨.mk (fun x hx => (ha x hx).1) (fun h2 => absurd h2 (by decide)) (.inr (.inl ⟨rfl, rfl, rfl, byt_words8 l _ _ _, ?_, ?_⟩)), rfl, ?_, fun y hy => (ha y hy).2⟩
  · rw [byt_len]; omega
  · simp at hl; omega
  · show K.1.length = _
    simpa using hl
theorem strct_dp {D : Nat} {F : Int → Int → Int → Nd × Int × Int} (h : Okd D F) (l : List (List Int)) (m : Int) {o : Ob} (hd : o.data ≤ 65535) (hq : 0 ≤ o.ptrs ∧ o.ptrs ≤ 65535) (hz : (strct F l m o).2.2 = 0) : VN (strct F l m o).1 ∧ Dp (D + 1) (strct F l m o).1 := by
  obtain ⟨a1, a2, a3, a4⟩ := strct_okd h l m hd hq hz
  refine ⟨a1, .inr ?_⟩
  have : tgt (strct F l m o).1 = (strct F l m o).1.kids := by unfold tgt; rw [if_neg (fun x => by rw [a2] at x; exact absurd x.1 (by decide))]
  rw [this]
  exact ⟨by rw [a3]; omega, a4⟩
theorem trimB_ok {e c : Int} {b : List Int} (hc : 0 ≤ c ∧ c ≤ 536870911) (hn : bytesN e c ≤ b.length) : ((trimB e c b).length : Int) = bytesN e c ∧ trimB e c (trimB e c b) = trimB e c b := by
  have hr := bytesN_range (e := e) hc
  unfold trimB
  by_cases h1 : e = 1 ∧ 0 < c % 8
  · simp only [if_pos h1]
    have hb1 : 1 ≤ bytesN e c := by
      obtain ⟨rfl, h8⟩ := h1
      have hbn : bytesN 1 c = (c + 7) / 8 := by unfold bytesN bitsOf; simp
      omega
    have hlen : (b.take (bytesN e c - 1).toNat).length = (bytesN e c - 1).toNat := by rw [List.length_take]; omega
    refine ⟨by rw [List.length_append, hlen]; simp; omega, ?_⟩
    rw [List.take_append_of_le_length (by omega), List.take_of_length_le (by omega)]
    congr 2
    have : rd (b.take (bytesN e c - 1).toNat ++ [rd b (bytesN e c - 1) % 2 ^ (c % 8).toNat]) (bytesN e c - 1) = rd b (bytesN e c - 1) % 2 ^ (c % 8).toNat := by
      conv => lhs; unfold rd
      rw [List.getD_eq_getElem?_getD, List.getElem?_append_right (by omega), hlen, Nat.sub_self]
      rfl
    rw [this, Int.emod_emod_of_dvd _ (Int.dvd_refl _)]
  · simp only [if_neg h1]
    refine ⟨by rw [List.length_take]; omega, ?_⟩
    rw [List.take_take, Nat.min_self]
theorem objC_n {l : List (List Int)} {s st c : Int} (h : (objC l s st c).2 = 0) : (objC l s st c).1.n * (objC l s st c).1.ptrs ≤ c ∨ (objC l s st c).1.data < 0 ∨ (objC l s st c).1.n < 0 := by
  unfold objC at h ⊢
  by_cases hb : inB l s st (c + 1)
  · rw [if_pos hb] at h ⊢
    generalize decI (wd l s st) = p at h ⊢
    by_cases hk : p.1 = 0 ∧ 0 ≤ p.2.1 ∧ p.2.1 * (p.2.2.1 + p.2.2.2.1) ≤ c
    · rw [if_pos hk]
      dsimp only
      by_cases h0 : p.2.2.1 < 0
      · exact .inr (.inl h0)
      · refine .inl ?_
        have : p.2.1 * p.2.2.2.1 ≤ p.2.1 * (p.2.2.1 + p.2.2.2.1) := Int.mul_le_mul_of_nonneg_left (by omega) hk.2.1
        omega
    · rw [if_neg hk] at h
      exact bad_no h (by decide)
  · rw [if_neg hb] at h
    exact bad_no h (by decide)
/-- How many pointers a composite list has. -/
def Np (o : Ob) : Prop := o.kind = 2 → o.elem = 7 → o.n * o.ptrs ≤ 536870911
theorem obj_np {l : List (List Int)} (hl : Segs l) (hs : Sm l) {s a : Int} (h0 : (fol l s a).1 ≠ 0) (he : (fol l s a).2.2.2 = 0) (h : (obj l s a).2 = 0) : Np (obj l s a).1 := by
  have hok := obj_ok hl hs h0 he h
  obtain ⟨_, hdt, _, _, hn, _⟩ := hok
  have hd := dec_small (fol_word hl s a)
  unfold obj at h hdt hn ⊢
  rw [if_pos he, if_neg h0] at h hdt hn ⊢
  unfold objP at h hdt hn ⊢
  generalize decI (fol l s a).1 = p at h hdt hn hd ⊢
  by_cases k0 : p.1 = 0
  · rw [if_pos k0] at h hdt hn ⊢
    intro k2
    unfold objS at k2
    split at k2 <;> first | exact absurd k2 (show ¬ ((1 : Int) = 2) by decide) | exact absurd k2 (show ¬ ((0 : Int) = 2) by decide)
  · rw [if_neg k0] at h hdt hn ⊢
    by_cases k1 : p.1 = 1
    · rw [if_pos k1] at h hdt hn ⊢
      unfold objL at h hdt hn ⊢
      by_cases h7 : p.2.2.2.2.1 = 7
      · rw [if_pos h7] at h hdt hn ⊢
        intro _ _
        have := objC_n h
        omega
      · rw [if_neg h7] at h ⊢
        split
        · exact fun _ h => absurd h h7
        · rename_i hb
          rw [if_neg hb] at h
          exact bad_no h (by decide)
    · rw [if_neg k1] at h
      split at h
      · exact bad_no h (by decide)
      · exact bad_no h (by decide)
theorem flat_len {l : List Nd} {q : Nat} (h : ∀ x ∈ l, x.kids.length = q) : (l.flatMap Nd.kids).length = l.length * q := by
  induction l with
  | nil => simp
  | cons x l ih =>
    rw [List.flatMap_cons, List.length_append, ih (fun y hy => h y (List.mem_cons_of_mem _ hy)), h x List.mem_cons_self, List.length_cons, Nat.succ_mul]
    omega
theorem denL_okd {D : Nat} {F : Int → Int → Int → Nd × Int × Int} (h : Okd D F) (l : List (List Int)) (m : Int) {o : Ob} (ho : ObOk l o) (hp : Np o) (hk : o.kind = 2) (hz : (denL F l m o).2.2 = 0) : VN (denL F l m o).1 ∧ Dp (D + 1) (denL F l m o).1 := by
  obtain ⟨hat, hd, hq, he, hn, hc, _, hw, _⟩ := ho
  unfold denL at hz ⊢
  by_cases h6 : o.elem < 6
  · rw [if_pos h6]
    have ht := trimB_ok hn (bytes_room hn (hw hk h6) h6)
    refine ⟨.mk (fun x hx => by cases hx) (fun _ _ x hx => by cases hx) (.inr (.inr ⟨rfl, hn, he, fun h => absurd h (by omega), fun _ => ⟨rfl, ht.1, ht.2⟩⟩)), .inr ?_⟩
    have : tgt (.mk 2 o.elem o.n (trimB o.elem o.n (byt (cutB l o.seg o.at_ o.cost))) []) = [] := by unfold tgt; split <;> rfl
    rw [this]
    exact ⟨by simp, fun y hy => by cases hy⟩
  · rw [if_neg h6] at hz ⊢
    have hz' : (kidsF (fun m (i : Nat) => if o.elem = 6 then F m o.seg (o.at_ + i) else strct F l m (elt o i)) o.n.toNat 0 m []).2.2 = 0 := hz
    have ha := kids_all (G := fun m (i : Nat) => if o.elem = 6 then F m o.seg (o.at_ + i) else strct F l m (elt o i)) (Q := fun x => VN x ∧ (o.elem = 6 → Dp D x) ∧ (o.elem ≠ 6 → x.kind = 1 ∧ x.kids.length = o.ptrs.toNat ∧ ∀ y ∈ x.kids, Dp D y)) (fun m i h0 => by
      by_cases h7 : o.elem = 6
      · simp only [if_pos h7] at h0 ⊢
        obtain ⟨b1, b2⟩ := h m _ _ h0
        exact ⟨b1, fun _ => b2, fun h => absurd h7 h⟩
      · simp only [if_neg h7] at h0 ⊢
        obtain ⟨b1, b2, b3, b4⟩ := strct_okd h l m (o := elt o i) hd.2 hq h0
        exact ⟨b1, fun h => absurd h h7, fun _ => ⟨b2, b3, b4⟩⟩) o.n.toNat 0 m [] (fun x hx => by cases hx)
    have hl := kids_len (G := fun m (i : Nat) => if o.elem = 6 then F m o.seg (o.at_ + i) else strct F l m (elt o i)) o.n.toNat 0 m [] hz'
    rw [wrapK_ok0 hz']
    generalize kidsF (fun m (i : Nat) => if o.elem = 6 then F m o.seg (o.at_ + i) else strct F l m (elt o i)) o.n.toNat 0 m [] = K at ha hl
    have hl' : K.1.length = o.n.toNat := by simpa using hl
    refine ⟨.mk (fun x hx => (ha x hx).1) (fun _ h7 x hx => ((ha x hx).2.2 (by omega)).1) (.inr (.inr ⟨rfl, hn, he, fun _ => ⟨rfl, by omega⟩, fun h => absurd h h6⟩)), .inr ?_⟩
    dsimp only
    by_cases h7 : o.elem = 7
    · have ht : tgt (.mk 2 o.elem o.n [] K.1) = K.1.flatMap Nd.kids := by unfold tgt; exact if_pos ⟨rfl, h7⟩
      rw [ht]
      refine ⟨?_, fun y hy => ?_⟩
      · rw [flat_len (fun x hx => ((ha x hx).2.2 (by omega)).2.1), hl']
        have := hp hk h7
        have e : ((o.n.toNat * o.ptrs.toNat : Nat) : Int) = o.n * o.ptrs := by rw [Int.natCast_mul, Int.toNat_of_nonneg hn.1, Int.toNat_of_nonneg hq.1]
        omega
      · obtain ⟨x, hx, hy⟩ := List.mem_flatMap.1 hy
        exact ((ha x hx).2.2 (by omega)).2.2 y hy
    · have ht : tgt (.mk 2 o.elem o.n [] K.1) = K.1 := by unfold tgt; exact if_neg (fun x => h7 x.2)
      rw [ht]
      exact ⟨by rw [hl']; omega, fun y hy => (ha y hy).2.1 (by omega)⟩
theorem den_okd {l : List (List Int)} (hl : Segs l) (hs : Sm l) : ∀ D, Okd D (den l D) := by
  intro D
  induction D with
  | zero =>
    intro m s a hz
    by_cases he : (fol l s a).2.2.2 = 0
    · by_cases h0 : (fol l s a).1 = 0
      · rw [den_nil he h0]; exact ⟨vn0, rfl⟩
      · rw [den_deep he h0] at hz; exact absurd hz (by show ¬ ((7 : Int) = 0); decide)
    · rw [den_err he] at hz; exact absurd hz he
  | succ D ih =>
    intro m s a hz
    by_cases he : (fol l s a).2.2.2 = 0
    · by_cases h0 : (fol l s a).1 = 0
      · rw [den_nil he h0]; exact ⟨vn0, .inl rfl⟩
      · rw [den_obj he h0] at hz ⊢
        unfold denO at hz ⊢
        by_cases hf : (obj l s a).2 = 0
        · rw [if_pos hf] at hz ⊢
          have hok := obj_ok hl hs h0 he hf
          have hnp := obj_np hl hs h0 he hf
          by_cases h8 : (obj l s a).1.cost > m
          · rw [if_pos h8] at hz; exact absurd hz (by show ¬ ((8 : Int) = 0); decide)
          · rw [if_neg h8] at hz ⊢
            obtain ⟨hat, hd, hq, _, _, _, hk, _⟩ := id hok
            by_cases h1 : (obj l s a).1.kind = 1
            · rw [if_pos h1] at hz ⊢
              exact strct_dp ih l _ hd.2 hq hz
            · rw [if_neg h1] at hz ⊢
              exact denL_okd ih l _ hok hnp (by omega) hz
        · rw [if_neg hf] at hz; exact absurd hz hf
    · rw [den_err he] at hz; exact absurd hz he
-- trimming keeps this
theorem vn_trim (x : Nd) : VN x → VN (trimN x) := by
  induction x using Nd.ind with
  | h k e n d ks ih =>
    intro hv
    cases hv with
    | mk v1 v2 v3 =>
    rw [trimN, trimNs_eq]
    have hm : ∀ y ∈ ks.map trimN, VN y := fun y hy => by
      obtain ⟨x, hx, rfl⟩ := List.mem_map.1 hy
      exact ih x hx (v1 x hx)
    by_cases h1 : k = 1
    · rw [if_pos h1]
      refine .mk (fun x hx => hm x (List.mem_of_mem_take hx)) (fun h2 => absurd h2 (by omega)) ?_
      unfold Shp at v3 ⊢
      rw [List.length_take, List.length_take, List.length_map]
      rcases v3 with v3 | v3 | v3
      · omega
      · obtain ⟨_, a2, a3, a4, a5, a6⟩ := v3
        have := keptN_le (· == 0) d
        refine .inr (.inl ⟨h1, a2, a3, ?_, by omega, by omega⟩)
        unfold wordsT
        omega
      · omega
    · rw [if_neg h1]
      refine .mk hm (fun h2 h7 y hy => ?_) ?_
      · obtain ⟨x, hx, rfl⟩ := List.mem_map.1 hy
        rw [trimN_kind]
        exact v2 h2 h7 x hx
      · rw [List.length_map]; exact v3
theorem kids_trim (x : Nd) : (trimN x).kids.length ≤ x.kids.length ∧ ∀ y ∈ (trimN x).kids, ∃ z ∈ x.kids, y = trimN z := by
  cases x with
  | mk k e n d ks =>
    rw [trimN, trimNs_eq]
    split
    · refine ⟨by show ((ks.map trimN).take _).length ≤ ks.length; rw [List.length_take, List.length_map]; omega, fun y hy => ?_⟩
      have hy' : y ∈ (ks.map trimN).take (ptrsT ks) := hy
      obtain ⟨z, hz, rfl⟩ := List.mem_map.1 (List.mem_of_mem_take hy')
      exact ⟨z, hz, rfl⟩
    · refine ⟨by show (ks.map trimN).length ≤ ks.length; rw [List.length_map]; omega, fun y hy => ?_⟩
      have hy' : y ∈ ks.map trimN := hy
      obtain ⟨z, hz, rfl⟩ := List.mem_map.1 hy'
      exact ⟨z, hz, rfl⟩
theorem trimN_elem (x : Nd) : (trimN x).elem = x.elem := by
  cases x with
  | mk k e n d ks => rw [trimN]; split <;> rfl
theorem flat_trim : ∀ l : List Nd, ((l.map trimN).flatMap Nd.kids).length ≤ (l.flatMap Nd.kids).length
  | [] => Nat.le_refl _
  | x :: l => by
    have := flat_trim l
    have := (kids_trim x).1
    rw [List.map_cons, List.flatMap_cons, List.flatMap_cons, List.length_append, List.length_append]
    omega
theorem tgt_trim (x : Nd) : (tgt (trimN x)).length ≤ (tgt x).length ∧ ∀ y ∈ tgt (trimN x), ∃ z ∈ tgt x, y = trimN z := by
  unfold tgt
  rw [trimN_kind, trimN_elem]
  by_cases h : x.kind = 2 ∧ x.elem = 7
  · rw [if_pos h, if_pos h]
    have hk : (trimN x).kids = x.kids.map trimN := by
      cases x with
      | mk k e n d ks =>
        rw [trimN, trimNs_eq, if_neg (fun h1 => by have : k = 2 := h.1; omega)]
        rfl
    rw [hk]
    refine ⟨flat_trim _, fun y hy => ?_⟩
    obtain ⟨u, hu, hy⟩ := List.mem_flatMap.1 hy
    obtain ⟨v, hv, rfl⟩ := List.mem_map.1 hu
    obtain ⟨z, hz, rfl⟩ := (kids_trim v).2 y hy
    exact ⟨z, List.mem_flatMap.2 ⟨v, hv, hz⟩, rfl⟩
  · rw [if_neg h, if_neg h]
    exact kids_trim x
theorem dp_trim : ∀ (D : Nat) (x : Nd), Dp D x → Dp D (trimN x) := by
  intro D
  induction D with
  | zero => intro x h; exact (trimN_kind x).trans h
  | succ D ih =>
    intro x h
    rcases h with h | ⟨h1, h2⟩
    · exact .inl ((trimN_kind x).trans h)
    · obtain ⟨a1, a2⟩ := tgt_trim x
      exact .inr ⟨by omega, fun y hy => by obtain ⟨z, hz, rfl⟩ := a2 y hy; exact ih z (h2 z hz)⟩
end Go.Proofs.YtdkmbkdgojiebaaDoor.E

set_option linter.unusedVariables false
set_option linter.unusedSimpArgs false
namespace Go.Proofs.YtdkmbkdgojiebaaDoor.E
/-! The reference's checks of a node; the law DenoteIsBounded. -/
theorem valid_loop {k e n : Int} {d : List Int} {l : List Nd} (hl : l.length ≤ 1073741824) (hd : d.length ≤ 17592186044416) (hb : ∀ b ∈ d, Byte b) (hv : ∀ x ∈ l, ev 22 [.pv x.pv] [] = ok (Bo true)) (h1 : k = 2 → e = 7 → ∀ x ∈ l, x.kind = 1) (hs : Shp k e n d l.length) : ∀ (c0 i : Nat), i + c0 = l.length → capnpref10_Valid_L0 i k e n (bs d) (pvs l) = ok (Bo true) := by
  intro c0
  induction c0 with
  | zero =>
    intro i hi
    rw [capnpref10_Valid_L0_eq, decide_eq_false (by simp; omega), bs_len, pvs_len]
    dsimp only [callT_ret, callT_pan, onlyPV_v, Option.bind_some, pBool_v, pTup_v, pAgg_v, aggOf_v, pSl_v, pInt_v, pI64, pU64, pU32, pU8, List.getElem?_cons_zero, List.getElem?_cons_succ, cells_v, cells_sl, cells_agg, isCell_v, isCell_sl, cnd_t, cnd_f, tt_and, ff_and, nt_t, nt_f, len1, len3, len5, len8, len10, hlen1, clen1, clen5]
    rcases hs with ⟨rfl, rfl, rfl, hs1, hs2⟩ | ⟨rfl, rfl, rfl, hs1, hs2, hs3⟩ | ⟨rfl, hn, he, hs1, hs2⟩
    · rw [hs1, hs2]; rfl
    · rw [show ((1 : Int) == 0) = false from rfl, show ((1 : Int) == 1) = true from rfl, show ((0 : Int) == 0) = true from rfl, Int.tmod_eq_emod_of_nonneg (by omega), beq_iff_eq.2 (show (d.length : Int) % 8 = 0 by omega), decide_eq_true (show (d.length : Int) ≤ 524280 by omega), decide_eq_true (show (l.length : Int) ≤ 65535 by omega)]
      rfl
    · rw [show ((2 : Int) == 0) = false from rfl, show ((2 : Int) == 1) = false from rfl, show ((2 : Int) == 2) = true from rfl, decide_eq_false (show ¬ n < 0 by omega), decide_eq_false (show ¬ n > 536870911 by omega), decide_eq_false (show ¬ e < 0 by omega), decide_eq_false (show ¬ e > 7 by omega)]
      dsimp only [callT_ret, callT_pan, onlyPV_v, Option.bind_some, pBool_v, pTup_v, pAgg_v, aggOf_v, pSl_v, pInt_v, pI64, pU64, pU32, pU8, List.getElem?_cons_zero, List.getElem?_cons_succ, cells_v, cells_sl, cells_agg, isCell_v, isCell_sl, cnd_t, cnd_f, tt_and, ff_and, nt_t, nt_f, len1, len3, len5, len8, len10, hlen1, clen1, clen5]
      by_cases h6 : 6 ≤ e
      · obtain ⟨a1, a2⟩ := hs1 h6
        rw [decide_eq_true (show e ≥ 6 from h6), a1, show (((0 : Nat) : Int) == 0) = true from rfl, beq_iff_eq.2 a2]
        rfl
      · obtain ⟨a1, a2, a3⟩ := hs2 (by omega)
        have hbn : bytesN e n ≤ (d.length : Int) := by omega
        rw [decide_eq_false (show ¬ e ≥ 6 from h6), a1, show (((0 : Nat) : Int) != 0) = false from rfl, V_rBytesN hn]
        dsimp only [callT_ret, callT_pan, onlyPV_v, Option.bind_some, pBool_v, pTup_v, pAgg_v, aggOf_v, pSl_v, pInt_v, pI64, pU64, pU32, pU8, List.getElem?_cons_zero, List.getElem?_cons_succ, cells_v, cells_sl, cells_agg, isCell_v, isCell_sl, cnd_t, cnd_f, tt_and, ff_and, nt_t, nt_f, len1, len3, len5, len8, len10, hlen1, clen1, clen5]
        rw [show ((d.length : Int) != bytesN e n) = false from by simpa using a2, V_rTrim hn hb hbn, a3]
        dsimp only [callT_ret, callT_pan, onlyPV_v, Option.bind_some, pBool_v, pTup_v, pAgg_v, aggOf_v, pSl_v, pInt_v, pI64, pU64, pU32, pU8, List.getElem?_cons_zero, List.getElem?_cons_succ, cells_v, cells_sl, cells_agg, isCell_v, isCell_sl, cnd_t, cnd_f, tt_and, ff_and, nt_t, nt_f, len1, len3, len5, len8, len10, hlen1, clen1, clen5]
        rw [V_SameR hd]
        rfl
  | succ c0 ih =>
    intro i hi
    have hil : i < l.length := by omega
    rw [capnpref10_Valid_L0_eq, decide_eq_true (show (i : Int) < ((pvs l).length : Int) by simp; omega), decide_eq_true (show 0 ≤ (i : Int) by omega)]
    dsimp only [callT_ret, callT_pan, onlyPV_v, Option.bind_some, pBool_v, pTup_v, pAgg_v, aggOf_v, pSl_v, pInt_v, pI64, pU64, pU32, pU8, List.getElem?_cons_zero, List.getElem?_cons_succ, cells_v, cells_sl, cells_agg, isCell_v, isCell_sl, cnd_t, cnd_f, tt_and, ff_and, nt_t, nt_f, len1, len3, len5, len8, len10, hlen1, clen1, clen5]
    rw [Int.toNat_natCast, pvs_get hil]
    dsimp only [callT_ret, callT_pan, onlyPV_v, Option.bind_some, pBool_v, pTup_v, pAgg_v, aggOf_v, pSl_v, pInt_v, pI64, pU64, pU32, pU8, List.getElem?_cons_zero, List.getElem?_cons_succ, cells_v, cells_sl, cells_agg, isCell_v, isCell_sl, cnd_t, cnd_f, tt_and, ff_and, nt_t, nt_f, len1, len3, len5, len8, len10, hlen1, clen1, clen5]
    rw [nd_five, nd_take5, hv _ (List.getElem_mem hil), w64 (x := (i : Int) + 1) (by omega)]
    dsimp only [callT_ret, callT_pan, onlyPV_v, Option.bind_some, pBool_v, pTup_v, pAgg_v, aggOf_v, pSl_v, pInt_v, pI64, pU64, pU32, pU8, List.getElem?_cons_zero, List.getElem?_cons_succ, cells_v, cells_sl, cells_agg, isCell_v, isCell_sl, cnd_t, cnd_f, tt_and, ff_and, nt_t, nt_f, len1, len3, len5, len8, len10, hlen1, clen1, clen5]
    have hn := ih (i + 1) (by omega)
    have hn' : capnpref10_Valid_L0 ((i : Int) + 1) k e n (bs d) (pvs l) = ok (Bo true) := hn
    rw [hn']
    by_cases k2 : k = 2
    · rw [beq_iff_eq.2 k2]
      dsimp only [callT_ret, callT_pan, onlyPV_v, Option.bind_some, pBool_v, pTup_v, pAgg_v, aggOf_v, pSl_v, pInt_v, pI64, pU64, pU32, pU8, List.getElem?_cons_zero, List.getElem?_cons_succ, cells_v, cells_sl, cells_agg, isCell_v, isCell_sl, cnd_t, cnd_f, tt_and, ff_and, nt_t, nt_f, len1, len3, len5, len8, len10, hlen1, clen1, clen5]
      by_cases e7 : e = 7
      · rw [beq_iff_eq.2 e7, nd_cell0, h1 k2 e7 _ (List.getElem_mem hil)]
        rfl
      · rw [beq_eq_false_iff_ne.2 e7]
        rfl
    · rw [beq_eq_false_iff_ne.2 k2]
      rfl
theorem V_Valid_pv (x : Nd) : good x → VN x → ev 22 [.pv x.pv] [] = ok (Bo true) := by
  induction x using Nd.ind with
  | h k e n d ks ih =>
    intro hg hv
    rw [good, goods_iff] at hg
    obtain ⟨⟨hd, hb, hk, h8⟩, hks⟩ := hg
    cases hv with
    | mk v1 v2 v3 =>
    rw [Nd.pv, capnpref10_Valid_eq]
    exact valid_loop hk hd hb (fun x hx => ih x hx (hks x hx) (v1 x hx)) v2 v3 ks.length 0 (by omega)
theorem V_Valid {x : Nd} (h : good x) (v : VN x) : ev 22 [.pv x.x] [] = ok (Bo true) := by
  have := V_Valid_pv x h v
  rwa [pv_x] at this
theorem targets_loop {l : List Nd} (hl : l.length ≤ 1073741824) (a b c : Int) (x : List PV) : ∀ (c0 i : Nat), i + c0 = l.length → (l.flatMap Nd.kids).length ≤ 1073741824 → capnpref10_Targets_L0 (pvs ((l.take i).flatMap Nd.kids)) i a b c x (pvs l) = ok (.sl 5 (pvs (l.flatMap Nd.kids))) := by
  intro c0
  induction c0 with
  | zero =>
    intro i hi hf
    rw [capnpref10_Targets_L0_eq, decide_eq_false (by simp; omega), List.take_of_length_le (by omega)]
    rfl
  | succ c0 ih =>
    intro i hi hf
    have hil : i < l.length := by omega
    rw [capnpref10_Targets_L0_eq, decide_eq_true (show (i : Int) < ((pvs l).length : Int) by simp; omega), decide_eq_true (show 0 ≤ (i : Int) by omega)]
    dsimp only [callT_ret, callT_pan, onlyPV_v, Option.bind_some, pBool_v, pTup_v, pAgg_v, aggOf_v, pSl_v, pInt_v, pI64, pU64, pU32, pU8, List.getElem?_cons_zero, List.getElem?_cons_succ, cells_v, cells_sl, cells_agg, isCell_v, isCell_sl, cnd_t, cnd_f, tt_and, ff_and, nt_t, nt_f, len1, len3, len5, len8, len10, hlen1, clen1, clen5]
    rw [Int.toNat_natCast, pvs_get hil]
    dsimp only [callT_ret, callT_pan, onlyPV_v, Option.bind_some, pBool_v, pTup_v, pAgg_v, aggOf_v, pSl_v, pInt_v, pI64, pU64, pU32, pU8, List.getElem?_cons_zero, List.getElem?_cons_succ, cells_v, cells_sl, cells_agg, isCell_v, isCell_sl, cnd_t, cnd_f, tt_and, ff_and, nt_t, nt_f, len1, len3, len5, len8, len10, hlen1, clen1, clen5]
    rw [nd_cells]
    dsimp only [Nd.c, callT_ret, callT_pan, onlyPV_v, Option.bind_some, pBool_v, pTup_v, pAgg_v, aggOf_v, pSl_v, pInt_v, pI64, pU64, pU32, pU8, List.getElem?_cons_zero, List.getElem?_cons_succ, cells_v, cells_sl, cells_agg, isCell_v, isCell_sl, cnd_t, cnd_f, tt_and, ff_and, nt_t, nt_f, len1, len3, len5, len8, len10, hlen1, clen1, clen5]
    have hnext : pvs ((l.take i).flatMap Nd.kids) ++ pvs l[i].kids = pvs ((l.take (i + 1)).flatMap Nd.kids) := by
      rw [take_snoc hil, List.flatMap_append, pvs_app]
      simp
    have hlen : ((l.take (i + 1)).flatMap Nd.kids).length ≤ (l.flatMap Nd.kids).length := by
      conv => rhs; rw [← List.take_append_drop (i + 1) l, List.flatMap_append, List.length_append]
      omega
    have hadd : (pvs ((l.take i).flatMap Nd.kids)).length + (pvs l[i].kids).length = ((l.take (i + 1)).flatMap Nd.kids).length := by
      rw [← List.length_append, hnext, pvs_len]
    rw [hadd, roomy_ok (by omega) (by omega), hnext, w64 (x := (i : Int) + 1) (by omega)]
    exact ih (i + 1) (by omega) hf
theorem tgt_mk (k e n : Int) (d : List Int) (ks : List Nd) : tgt (.mk k e n d ks) = if k = 2 ∧ e = 7 then ks.flatMap Nd.kids else ks := rfl
theorem V_Targets {x : Nd} (hg : good x) (hf : (tgt x).length ≤ 1073741824) : ev 51 [.pv x.x] [] = ok (.sl 5 (pvs (tgt x))) := by
  cases x with
  | mk k e n d ks =>
    rw [good] at hg
    obtain ⟨⟨hd, hb, hk, h8⟩, hks⟩ := hg
    rw [tgt_mk] at hf ⊢
    rw [Nd.x]
    dsimp only [Nd.kind, Nd.elem, Nd.n, Nd.data, Nd.kids]
    rw [capnpref10_Targets_eq]
    by_cases k2 : k = 2
    · by_cases e7 : e = 7
      · rw [if_pos ⟨k2, e7⟩] at hf ⊢
        rw [show (k != 2) = false from by simpa using k2, show (e != 7) = false from by simpa using e7]
        exact targets_loop hk k e n (bs d) ks.length 0 (by omega) hf
      · rw [if_neg (fun h => e7 h.2), show (k != 2) = false from by simpa using k2, show (e != 7) = true from by simpa using e7]
        rfl
    · rw [if_neg (fun h => k2 h.1), show (k != 2) = true from by simpa using k2]
      rfl
theorem good_tgt {x : Nd} (hg : good x) : ∀ y ∈ tgt x, good y := by
  have kid : ∀ {x : Nd}, good x → ∀ y ∈ x.kids, good y := fun {x} h y hy => by
    cases x with
    | mk k e n d ks => rw [good, goods_iff] at h; exact h.2 y hy
  unfold tgt
  split
  · intro y hy
    obtain ⟨z, hz, hy⟩ := List.mem_flatMap.1 hy
    exact kid (kid hg z hz) y hy
  · exact kid hg
theorem depth_loop {D : Nat} (hD : D ≤ 1099511627776) {l : List Nd} (hl : l.length ≤ 1073741824) (hv : ∀ x ∈ l, ∃ v : Int, ev 24 [.pv x.pv] [] = ok (I v) ∧ 0 ≤ v ∧ v ≤ D) (a b c : Int) (x y : List PV) : ∀ (c0 i : Nat) (m : Int), i + c0 = l.length → 0 ≤ m → m ≤ D → ∃ v : Int, capnpref10_Depth_L0 (.sl 5 (pvs l)) (I m) i a b c x y = ok (I v) ∧ 0 ≤ v ∧ v ≤ D + 1 := by
  intro c0
  induction c0 with
  | zero =>
    intro i m hi h0 h1
    refine ⟨1 + m, ?_, by omega, by omega⟩
    rw [capnpref10_Depth_L0_eq]
    dsimp only [callT_ret, callT_pan, onlyPV_v, Option.bind_some, pBool_v, pTup_v, pAgg_v, aggOf_v, pSl_v, pInt_v, pI64, pU64, pU32, pU8, List.getElem?_cons_zero, List.getElem?_cons_succ, cells_v, cells_sl, cells_agg, isCell_v, isCell_sl, cnd_t, cnd_f, tt_and, ff_and, nt_t, nt_f, len1, len3, len5, len8, len10, hlen1, clen1, clen5]
    rw [decide_eq_false (by simp; omega), w64 (x := 1 + m) (by omega)]
    rfl
  | succ c0 ih =>
    intro i m hi h0 h1
    have hil : i < l.length := by omega
    obtain ⟨v, e, hv0, hv1⟩ := hv _ (List.getElem_mem hil)
    rw [capnpref10_Depth_L0_eq]
    dsimp only [callT_ret, callT_pan, onlyPV_v, Option.bind_some, pBool_v, pTup_v, pAgg_v, aggOf_v, pSl_v, pInt_v, pI64, pU64, pU32, pU8, List.getElem?_cons_zero, List.getElem?_cons_succ, cells_v, cells_sl, cells_agg, isCell_v, isCell_sl, cnd_t, cnd_f, tt_and, ff_and, nt_t, nt_f, len1, len3, len5, len8, len10, hlen1, clen1, clen5]
    rw [decide_eq_true (show (i : Int) < ((pvs l).length : Int) by simp; omega), decide_eq_true (show 0 ≤ (i : Int) by omega)]
    dsimp only [callT_ret, callT_pan, onlyPV_v, Option.bind_some, pBool_v, pTup_v, pAgg_v, aggOf_v, pSl_v, pInt_v, pI64, pU64, pU32, pU8, List.getElem?_cons_zero, List.getElem?_cons_succ, cells_v, cells_sl, cells_agg, isCell_v, isCell_sl, cnd_t, cnd_f, tt_and, ff_and, nt_t, nt_f, len1, len3, len5, len8, len10, hlen1, clen1, clen5]
    rw [Int.toNat_natCast, pvs_get hil, show decide (5 = 5) = true from rfl]
    dsimp only [callT_ret, callT_pan, onlyPV_v, Option.bind_some, pBool_v, pTup_v, pAgg_v, aggOf_v, pSl_v, pInt_v, pI64, pU64, pU32, pU8, List.getElem?_cons_zero, List.getElem?_cons_succ, cells_v, cells_sl, cells_agg, isCell_v, isCell_sl, cnd_t, cnd_f, tt_and, ff_and, nt_t, nt_f, len1, len3, len5, len8, len10, hlen1, clen1, clen5]
    rw [nd_five, nd_take5, e, w64 (x := (i : Int) + 1) (by omega)]
    dsimp only [callT_ret, callT_pan, onlyPV_v, Option.bind_some, pBool_v, pTup_v, pAgg_v, aggOf_v, pSl_v, pInt_v, pI64, pU64, pU32, pU8, List.getElem?_cons_zero, List.getElem?_cons_succ, cells_v, cells_sl, cells_agg, isCell_v, isCell_sl, cnd_t, cnd_f, tt_and, ff_and, nt_t, nt_f, len1, len3, len5, len8, len10, hlen1, clen1, clen5]
    by_cases hm : v > m
    · rw [decide_eq_true hm]
      exact ih (i + 1) v (by omega) hv0 hv1
    · rw [decide_eq_false hm]
      exact ih (i + 1) m (by omega) h0 h1
theorem V_Depth : ∀ (D : Nat) (x : Nd), D ≤ 1099511627776 → good x → Dp D x → ∃ v : Int, ev 24 [.pv x.pv] [] = ok (I v) ∧ 0 ≤ v ∧ v ≤ D := by
  intro D
  induction D with
  | zero =>
    intro x _ hg hd
    have hk : x.kind = 0 := hd
    refine ⟨0, ?_, by omega, by omega⟩
    rw [pv_x, Nd.x, capnpref10_Depth_eq, beq_iff_eq.2 hk]
    rfl
  | succ D ih =>
    intro x hD hg hd
    rcases hd with hk | ⟨h1, h2⟩
    · refine ⟨0, ?_, by omega, by omega⟩
      rw [pv_x, Nd.x, capnpref10_Depth_eq, beq_iff_eq.2 hk]
      rfl
    · by_cases hk : x.kind = 0
      · refine ⟨0, ?_, by omega, by omega⟩
        rw [pv_x, Nd.x, capnpref10_Depth_eq, beq_iff_eq.2 hk]
        rfl
      · have ht := V_Targets hg h1
        obtain ⟨v, e, hv⟩ := depth_loop (D := D) (by omega) h1 (fun y hy => ih y (by omega) (good_tgt hg y hy) (h2 y hy)) x.kind x.elem x.n (bs x.data) (pvs x.kids) (tgt x).length 0 0 (by omega) (by omega) (by omega)
        refine ⟨v, ?_, hv.1, by have := hv.2; push_cast; omega⟩
        rw [Nd.x] at ht
        rw [pv_x, Nd.x, capnpref10_Depth_eq, beq_eq_false_iff_ne.2 hk]
        dsimp only [callT_ret, callT_pan, onlyPV_v, Option.bind_some, pBool_v, pTup_v, pAgg_v, aggOf_v, pSl_v, pInt_v, pI64, pU64, pU32, pU8, List.getElem?_cons_zero, List.getElem?_cons_succ, cells_v, cells_sl, cells_agg, isCell_v, isCell_sl, cnd_t, cnd_f, tt_and, ff_and, nt_t, nt_f, len1, len3, len5, len8, len10, hlen1, clen1, clen5]
        rw [ht]
        exact e
theorem cl5 (a b c d e : PV) : decide ((PV.agg [a, b, c, d, e]).cells.length = 5) = true := rfl
theorem runT_okd {l : List (List Int)} (hl : Segs l) (hs : Sm l) {d w : Int} (h : (runT l d w).2.2 = 0) : VN (runT l d w).1 ∧ Dp d.toNat (runT l d w).1 := by
  by_cases he : emp l
  · rw [runT, if_pos he]
    exact ⟨vn0, dp_nil rfl⟩
  · have e1 : runT l d w = den l d.toNat (max w 0) 0 0 := by rw [runT, if_neg he]
    rw [e1] at h ⊢
    exact den_okd hl hs _ _ _ _ h
theorem runT_er (l : List (List Int)) (d w : Int) : Er (runT l d w).2.2 := by
  unfold runT
  split
  · exact .inl rfl
  · exact den_er l _ _ _ _
/-- A success takes no more than there is. -/
theorem kids_le {G : Int → Nat → Nd × Int × Int} (h : ∀ m i, (G m i).2.2 = 0 → (G m i).2.1 ≤ m) : ∀ c i m acc, (kidsF G c i m acc).2.2 = 0 → (kidsF G c i m acc).2.1 ≤ m := by
  intro c
  induction c with
  | zero => intro i m acc _; exact Int.le_refl _
  | succ c ih =>
    intro i m acc hz
    by_cases h0 : (G m i).2.2 = 0
    · rw [kidsF_go h0] at hz ⊢
      have := h m i h0
      have := ih _ _ _ hz
      omega
    · rw [kidsF_err h0] at hz
      exact absurd hz h0
theorem den_le {l : List (List Int)} (hl : Segs l) (hs : Sm l) : ∀ D m s a, (den l D m s a).2.2 = 0 → (den l D m s a).2.1 ≤ m := by
  intro D
  induction D with
  | zero =>
    intro m s a _
    unfold den
    split
    · split <;> exact Int.le_refl _
    · exact Int.le_refl _
  | succ D ih =>
    intro m s a hz
    by_cases he : (fol l s a).2.2.2 = 0
    · by_cases h0 : (fol l s a).1 = 0
      · rw [den_nil he h0]; exact Int.le_refl _
      · rw [den_obj he h0] at hz ⊢
        unfold denO at hz ⊢
        by_cases hf : (obj l s a).2 = 0
        · rw [if_pos hf] at hz ⊢
          have hc := (obj_ok hl hs h0 he hf).2.2.2.2.2.1
          by_cases h8 : (obj l s a).1.cost > m
          · rw [if_pos h8]; exact Int.le_refl _
          · rw [if_neg h8] at hz ⊢
            have st : ∀ (m : Int) (o : Ob), (strct (den l D) l m o).2.2 = 0 → (strct (den l D) l m o).2.1 ≤ m := fun m o hz => kids_le (G := fun m (i : Nat) => den l D m o.seg (o.at_ + o.data + i)) (fun m i h => ih m _ _ h) o.ptrs.toNat 0 m [] hz
            by_cases h1 : (obj l s a).1.kind = 1
            · rw [if_pos h1] at hz ⊢
              have := st _ _ hz
              omega
            · rw [if_neg h1] at hz ⊢
              unfold denL at hz ⊢
              by_cases h6 : (obj l s a).1.elem < 6
              · rw [if_pos h6]
                show m - _ ≤ m
                omega
              · rw [if_neg h6] at hz ⊢
                have := kids_le (G := fun m (i : Nat) => if (obj l s a).1.elem = 6 then den l D m (obj l s a).1.seg ((obj l s a).1.at_ + i) else strct (den l D) l m (elt (obj l s a).1 i)) (fun m i h => by
                  by_cases h7 : (obj l s a).1.elem = 6
                  · simp only [if_pos h7] at h ⊢; exact ih m _ _ h
                  · simp only [if_neg h7] at h ⊢; exact st m _ h) (obj l s a).1.n.toNat 0 (m - (obj l s a).1.cost) [] hz
                show (kidsF _ _ _ _ _).2.1 ≤ m
                omega
        · rw [if_neg hf]; exact Int.le_refl _
    · rw [den_err he]; exact Int.le_refl _
theorem run_le' {l : List (List Int)} (hl : Segs l) (hs : Sm l) {d w : Int} (h0 : (runT l d w).2.2 = 0) : (runT l d w).2.1 ≤ max w 0 := by
  by_cases he : emp l
  · rw [runT, if_pos he]
    exact Int.le_refl _
  · have e1 : runT l d w = den l d.toNat (max w 0) 0 0 := by rw [runT, if_neg he]
    rw [e1] at h0 ⊢
    exact den_le hl hs _ _ _ _ h0
/-- What a success costs. -/
theorem runT_cost {l : List (List Int)} (hl : Segs l) (hs : Sm l) {d w : Int} (hw : w ≤ 4611686018427387904) : 0 ≤ (runT l d w).2.1 := by
  have := (runT_ok hl hs (d := d) hw).1
  exact this.1
/-- The law DenoteIsBounded. -/
theorem law_DenoteIsBounded {l : List (List Int)} (hl : Segs l) (d w b : Int) : ev 4 [.pv (.sl 1 (sgs l)), .pv (.agg [I d, I w, I b])] [] = ok (Bo true) := by
  obtain ⟨bl, e, hb⟩ := V_Small hl d w b
  rw [capnplaw12_DenoteIsBounded_eq, V_awake12]
  dsimp only [↓cl5, callT_ret, callT_pan, onlyPV_v, Option.bind_some, pBool_v, pTup_v, pAgg_v, aggOf_v, pSl_v, pInt_v, pI64, pU64, pU32, pU8, List.getElem?_cons_zero, List.getElem?_cons_succ, cells_v, cells_sl, cells_agg, isCell_v, isCell_sl, cnd_t, cnd_f, tt_and, ff_and, nt_t, nt_f, len1, len3, len5, len8, len10, hlen1, clen1, clen5]
  rw [e]
  dsimp only [↓cl5, callT_ret, callT_pan, onlyPV_v, Option.bind_some, pBool_v, pTup_v, pAgg_v, aggOf_v, pSl_v, pInt_v, pI64, pU64, pU32, pU8, List.getElem?_cons_zero, List.getElem?_cons_succ, cells_v, cells_sl, cells_agg, isCell_v, isCell_sl, cnd_t, cnd_f, tt_and, ff_and, nt_t, nt_f, len1, len3, len5, len8, len10, hlen1, clen1, clen5]
  cases bl with
  | false => rfl
  | true =>
    obtain ⟨hd, hw, _, h300⟩ := hb rfl
    have hs := sm_of h300
    dsimp only [↓cl5, callT_ret, callT_pan, onlyPV_v, Option.bind_some, pBool_v, pTup_v, pAgg_v, aggOf_v, pSl_v, pInt_v, pI64, pU64, pU32, pU8, List.getElem?_cons_zero, List.getElem?_cons_succ, cells_v, cells_sl, cells_agg, isCell_v, isCell_sl, cnd_t, cnd_f, tt_and, ff_and, nt_t, nt_f, len1, len3, len5, len8, len10, hlen1, clen1, clen5]
    rw [V_Message hl hs (by omega) (by omega)]
    dsimp only [Nd.x, ↓cl5, callT_ret, callT_pan, onlyPV_v, Option.bind_some, pBool_v, pTup_v, pAgg_v, aggOf_v, pSl_v, pInt_v, pI64, pU64, pU32, pU8, List.getElem?_cons_zero, List.getElem?_cons_succ, cells_v, cells_sl, cells_agg, isCell_v, isCell_sl, cnd_t, cnd_f, tt_and, ff_and, nt_t, nt_f, len1, len3, len5, len8, len10, hlen1, clen1, clen5]
    rw [V_Measure hl hs (by omega) (by omega)]
    dsimp only [↓cl5, callT_ret, callT_pan, onlyPV_v, Option.bind_some, pBool_v, pTup_v, pAgg_v, aggOf_v, pSl_v, pInt_v, pI64, pU64, pU32, pU8, List.getElem?_cons_zero, List.getElem?_cons_succ, cells_v, cells_sl, cells_agg, isCell_v, isCell_sl, cnd_t, cnd_f, tt_and, ff_and, nt_t, nt_f, len1, len3, len5, len8, len10, hlen1, clen1, clen5]
    rw [show (msgE l d w != msgE l d w) = false from by simp]
    dsimp only [↓cl5, callT_ret, callT_pan, onlyPV_v, Option.bind_some, pBool_v, pTup_v, pAgg_v, aggOf_v, pSl_v, pInt_v, pI64, pU64, pU32, pU8, List.getElem?_cons_zero, List.getElem?_cons_succ, cells_v, cells_sl, cells_agg, isCell_v, isCell_sl, cnd_t, cnd_f, tt_and, ff_and, nt_t, nt_f, len1, len3, len5, len8, len10, hlen1, clen1, clen5]
    have hg := msgN_ok hl hs (d := d) (w := w) (by omega)
    by_cases h0 : msgE l d w = 0
    · have h0' : (runT l d w).2.2 = 0 := h0
      have hn : msgN l d w = trimN (runT l d w).1 := by rw [msgN, if_pos h0']
      have hc : meaC l d w = max w 0 - (runT l d w).2.1 := by rw [meaC, if_pos h0']
      have hr := runT_ok hl hs (d := d) (w := w) (by omega)
      have hle := run_le' hl hs h0'
      obtain ⟨k1, k2⟩ := runT_okd hl hs h0'
      have hv := V_Valid hg (hn ▸ vn_trim _ k1)
      have ht := V_Trimmed hg (hn ▸ tr_trim _ hr.2)
      obtain ⟨v, hd1, hd2, hd3⟩ := V_Depth d.toNat (msgN l d w) (by omega) hg (hn ▸ dp_trim _ _ k2)
      rw [pv_x] at hd1
      dsimp only [Nd.x] at hv ht hd1
      have m1 : (if 0 > d then 0 else d) = max d 0 := by omega
      have m2 : (if 0 > w then 0 else w) = max w 0 := by omega
      have h1 := hr.1.1
      rw [h0, show ((0 : Int) != 0) = false from rfl]
      dsimp only [↓cl5, callT_ret, callT_pan, onlyPV_v, Option.bind_some, pBool_v, pTup_v, pAgg_v, aggOf_v, pSl_v, pInt_v, pI64, pU64, pU32, pU8, List.getElem?_cons_zero, List.getElem?_cons_succ, cells_v, cells_sl, cells_agg, isCell_v, isCell_sl, cnd_t, cnd_f, tt_and, ff_and, nt_t, nt_f, len1, len3, len5, len8, len10, hlen1, clen1, clen5]
      rw [hv]
      dsimp only [↓cl5, callT_ret, callT_pan, onlyPV_v, Option.bind_some, pBool_v, pTup_v, pAgg_v, aggOf_v, pSl_v, pInt_v, pI64, pU64, pU32, pU8, List.getElem?_cons_zero, List.getElem?_cons_succ, cells_v, cells_sl, cells_agg, isCell_v, isCell_sl, cnd_t, cnd_f, tt_and, ff_and, nt_t, nt_f, len1, len3, len5, len8, len10, hlen1, clen1, clen5]
      rw [ht]
      dsimp only [↓cl5, callT_ret, callT_pan, onlyPV_v, Option.bind_some, pBool_v, pTup_v, pAgg_v, aggOf_v, pSl_v, pInt_v, pI64, pU64, pU32, pU8, List.getElem?_cons_zero, List.getElem?_cons_succ, cells_v, cells_sl, cells_agg, isCell_v, isCell_sl, cnd_t, cnd_f, tt_and, ff_and, nt_t, nt_f, len1, len3, len5, len8, len10, hlen1, clen1, clen5]
      rw [hd1]
      dsimp only [↓cl5, callT_ret, callT_pan, onlyPV_v, Option.bind_some, pBool_v, pTup_v, pAgg_v, aggOf_v, pSl_v, pInt_v, pI64, pU64, pU32, pU8, List.getElem?_cons_zero, List.getElem?_cons_succ, cells_v, cells_sl, cells_agg, isCell_v, isCell_sl, cnd_t, cnd_f, tt_and, ff_and, nt_t, nt_f, len1, len3, len5, len8, len10, hlen1, clen1, clen5]
      rw [m1, m2, decide_eq_true (show v ≤ max d 0 by omega), decide_eq_true (show meaC l d w ≥ 0 by omega), decide_eq_true (show meaC l d w ≤ max w 0 by omega)]
      rfl
    · have h0' : (runT l d w).2.2 ≠ 0 := h0
      have hn : msgN l d w = nd0 := by rw [msgN, if_neg h0']
      have hc : meaC l d w = 0 := by rw [meaC, if_neg h0']
      have her : Er (msgE l d w) := runT_er l d w
      unfold Er at her
      have q := V_Equal good0
      rw [bne_t h0, hc, hn, show ((0 : Int) == 0) = true from rfl]
      dsimp only [↓cl5, callT_ret, callT_pan, onlyPV_v, Option.bind_some, pBool_v, pTup_v, pAgg_v, aggOf_v, pSl_v, pInt_v, pI64, pU64, pU32, pU8, List.getElem?_cons_zero, List.getElem?_cons_succ, cells_v, cells_sl, cells_agg, isCell_v, isCell_sl, cnd_t, cnd_f, tt_and, ff_and, nt_t, nt_f, len1, len3, len5, len8, len10, hlen1, clen1, clen5]
      have q' : ev 21 [.pv (.agg [I nd0.kind, I nd0.elem, I nd0.n, .sl 1 (bs nd0.data), .sl 5 (pvs nd0.kids)]), .pv (.agg [I 0, I 0, I 0, .sl 1 [], .sl 5 []])] [] = ok (Bo true) := q
      rw [q']
      dsimp only [↓cl5, callT_ret, callT_pan, onlyPV_v, Option.bind_some, pBool_v, pTup_v, pAgg_v, aggOf_v, pSl_v, pInt_v, pI64, pU64, pU32, pU8, List.getElem?_cons_zero, List.getElem?_cons_succ, cells_v, cells_sl, cells_agg, isCell_v, isCell_sl, cnd_t, cnd_f, tt_and, ff_and, nt_t, nt_f, len1, len3, len5, len8, len10, hlen1, clen1, clen5]
      rw [decide_eq_true (show msgE l d w ≥ 2 by omega), decide_eq_true (show msgE l d w ≤ 8 by omega)]
      rfl
end Go.Proofs.YtdkmbkdgojiebaaDoor.E

set_option linter.unusedVariables false
set_option linter.unusedSimpArgs false
namespace Go.Proofs.YtdkmbkdgojiebaaDoor.E
/-! Equality of nodes; the words of data. -/
noncomputable def eqB {α : Type} (x y : α) : Bool := @decide (x = y) (Classical.propDecidable _)
theorem eqB_t {α : Type} {x y : α} (h : x = y) : eqB x y = true := by unfold eqB; exact @decide_eq_true _ (Classical.propDecidable _) h
theorem eqB_f {α : Type} {x y : α} (h : ¬ x = y) : eqB x y = false := by unfold eqB; exact @decide_eq_false _ (Classical.propDecidable _) h
theorem eqB_iff {α β : Type} {x y : α} {u v : β} (h : x = y ↔ u = v) : eqB x y = eqB u v := by
  by_cases hx : x = y
  · rw [eqB_t hx, eqB_t (h.1 hx)]
  · rw [eqB_f hx, eqB_f (fun e => hx (h.2 e))]
theorem take_eq {α : Type} {a b : List α} {i : Nat} (ha : i < a.length) (hb : i < b.length) (h : a.take i = b.take i) (e : a[i] = b[i]) : a.take (i + 1) = b.take (i + 1) := by
  rw [take_snoc ha, take_snoc hb, h, e]
theorem same_loop2 {d d' : List Int} (hd : d.length ≤ 17592186044416) (hl : d.length = d'.length) : ∀ (c i : Nat), i + c = d.length → d.take i = d'.take i → capnpref01_Same_L0 (bs d) (bs d') i = ok (Bo (eqB d d')) := by
  intro c
  induction c with
  | zero =>
    intro i hi ht
    rw [List.take_of_length_le (by omega), List.take_of_length_le (by omega)] at ht
    rw [capnpref01_Same_L0_eq, decide_eq_false (by simp; omega), eqB_t ht]
    rfl
  | succ c ih =>
    intro i hi ht
    rw [capnpref01_Same_L0_eq, decide_eq_true (show (i : Int) < ((bs d).length : Int) by simp; omega), decide_eq_true (show 0 ≤ (i : Int) by omega), decide_eq_true (show (i : Int) < ((bs d').length : Int) by simp; omega)]
    dsimp only [callT_ret, callT_pan, onlyPV_v, Option.bind_some, pBool_v, pTup_v, pAgg_v, aggOf_v, pSl_v, pInt_v, pI64, pU64, pU32, pU8, List.getElem?_cons_zero, List.getElem?_cons_succ, cells_v, cells_sl, cells_agg, isCell_v, isCell_sl, cnd_t, cnd_f, tt_and, ff_and, nt_t, nt_f, len1, len3, len5, len8, len10, hlen1, clen1, clen5]
    rw [Int.toNat_natCast, bs_get (l := d) (by omega)]
    dsimp only [callT_ret, callT_pan, onlyPV_v, Option.bind_some, pBool_v, pTup_v, pAgg_v, aggOf_v, pSl_v, pInt_v, pI64, pU64, pU32, pU8, List.getElem?_cons_zero, List.getElem?_cons_succ, cells_v, cells_sl, cells_agg, isCell_v, isCell_sl, cnd_t, cnd_f, tt_and, ff_and, nt_t, nt_f, len1, len3, len5, len8, len10, hlen1, clen1, clen5]
    rw [bs_get (l := d') (by omega)]
    dsimp only [callT_ret, callT_pan, onlyPV_v, Option.bind_some, pBool_v, pTup_v, pAgg_v, aggOf_v, pSl_v, pInt_v, pI64, pU64, pU32, pU8, List.getElem?_cons_zero, List.getElem?_cons_succ, cells_v, cells_sl, cells_agg, isCell_v, isCell_sl, cnd_t, cnd_f, tt_and, ff_and, nt_t, nt_f, len1, len3, len5, len8, len10, hlen1, clen1, clen5]
    by_cases he : d[i] = d'[i]
    · rw [show (d[i] != d'[i]) = false from by simpa using he, w64 (x := (i : Int) + 1) (by omega)]
      exact ih (i + 1) (by omega) (take_eq (by omega) (by omega) ht he)
    · rw [bne_iff_ne.2 he, eqB_f (fun h => he (by subst h; rfl))]
      rfl
theorem V_SameB {d d' : List Int} (hd : d.length ≤ 17592186044416) (hd' : d'.length ≤ 17592186044416) : ev 39 [.pv (.sl 1 (bs d)), .pv (.sl 1 (bs d'))] [] = ok (Bo (eqB d d')) := by
  rw [capnpref01_Same_eq, bs_len, bs_len]
  by_cases hl : d.length = d'.length
  · rw [show ((d.length : Int) != (d'.length : Int)) = false from by simp; omega]
    exact same_loop2 hd hl d.length 0 (by omega) (by rw [List.take_zero, List.take_zero])
  · rw [show ((d.length : Int) != (d'.length : Int)) = true from by simp; omega, eqB_f (fun h => hl (by rw [h]))]
    rfl
theorem equal_loop2 {l l' : List Nd} (hl : l.length ≤ 1073741824) (he : l.length = l'.length) (hv : ∀ x ∈ l, ∀ y ∈ l', ev 21 [.pv x.pv, .pv y.pv] [] = ok (Bo (eqB x y))) (a b c a' b' c' : Int) (x y : List PV) : ∀ (c0 i : Nat), i + c0 = l.length → l.take i = l'.take i → capnpref10_Equal_L0 i a b c x (pvs l) a' b' c' y (pvs l') = ok (Bo (eqB l l')) := by
  intro c0
  induction c0 with
  | zero =>
    intro i hi ht
    rw [List.take_of_length_le (by omega), List.take_of_length_le (by omega)] at ht
    rw [capnpref10_Equal_L0_eq, decide_eq_false (by simp; omega), eqB_t ht]
    rfl
  | succ c0 ih =>
    intro i hi ht
    have hil : i < l.length := by omega
    have hil' : i < l'.length := by omega
    rw [capnpref10_Equal_L0_eq, decide_eq_true (show (i : Int) < ((pvs l).length : Int) by simp; omega), decide_eq_true (show 0 ≤ (i : Int) by omega), decide_eq_true (show (i : Int) < ((pvs l').length : Int) by simp; omega)]
    dsimp only [callT_ret, callT_pan, onlyPV_v, Option.bind_some, pBool_v, pTup_v, pAgg_v, aggOf_v, pSl_v, pInt_v, pI64, pU64, pU32, pU8, List.getElem?_cons_zero, List.getElem?_cons_succ, cells_v, cells_sl, cells_agg, isCell_v, isCell_sl, cnd_t, cnd_f, tt_and, ff_and, nt_t, nt_f, len1, len3, len5, len8, len10, hlen1, clen1, clen5]
    rw [Int.toNat_natCast, pvs_get hil, pvs_get hil']
    dsimp only [callT_ret, callT_pan, onlyPV_v, Option.bind_some, pBool_v, pTup_v, pAgg_v, aggOf_v, pSl_v, pInt_v, pI64, pU64, pU32, pU8, List.getElem?_cons_zero, List.getElem?_cons_succ, cells_v, cells_sl, cells_agg, isCell_v, isCell_sl, cnd_t, cnd_f, tt_and, ff_and, nt_t, nt_f, len1, len3, len5, len8, len10, hlen1, clen1, clen5]
    rw [nd_five, nd_five, nd_take5, nd_take5, hv _ (List.getElem_mem hil) _ (List.getElem_mem hil')]
    dsimp only [callT_ret, callT_pan, onlyPV_v, Option.bind_some, pBool_v, pTup_v, pAgg_v, aggOf_v, pSl_v, pInt_v, pI64, pU64, pU32, pU8, List.getElem?_cons_zero, List.getElem?_cons_succ, cells_v, cells_sl, cells_agg, isCell_v, isCell_sl, cnd_t, cnd_f, tt_and, ff_and, nt_t, nt_f, len1, len3, len5, len8, len10, hlen1, clen1, clen5]
    by_cases hx : l[i] = l'[i]
    · rw [eqB_t hx, w64 (x := (i : Int) + 1) (by omega)]
      exact ih (i + 1) (by omega) (take_eq hil hil' ht hx)
    · rw [eqB_f hx, eqB_f (fun h => hx (by subst h; rfl))]
      rfl
theorem V_EqualB_pv (x : Nd) : ∀ y : Nd, good x → good y → ev 21 [.pv x.pv, .pv y.pv] [] = ok (Bo (eqB x y)) := by
  induction x using Nd.ind with
  | h k e n d ks ih =>
    intro y hg hg'
    cases y with
    | mk k' e' n' d' ks' =>
    rw [good, goods_iff] at hg hg'
    obtain ⟨⟨hd, hb, hk, h8⟩, hks⟩ := hg
    obtain ⟨⟨hd', hb', hk', h8'⟩, hks'⟩ := hg'
    rw [Nd.pv, Nd.pv, capnpref10_Equal_eq]
    by_cases q1 : k = k'
    · by_cases q2 : e = e'
      · by_cases q3 : n = n'
        · rw [show (k != k') = false from by simpa using q1, show (e != e') = false from by simpa using q2, show (n != n') = false from by simpa using q3, V_SameB hd hd']
          dsimp only [callT_ret, callT_pan, onlyPV_v, Option.bind_some, pBool_v, pTup_v, pAgg_v, aggOf_v, pSl_v, pInt_v, pI64, pU64, pU32, pU8, List.getElem?_cons_zero, List.getElem?_cons_succ, cells_v, cells_sl, cells_agg, isCell_v, isCell_sl, cnd_t, cnd_f, tt_and, ff_and, nt_t, nt_f, len1, len3, len5, len8, len10, hlen1, clen1, clen5]
          by_cases q4 : d = d'
          · rw [eqB_t q4, pvs_len, pvs_len]
            dsimp only [callT_ret, callT_pan, onlyPV_v, Option.bind_some, pBool_v, pTup_v, pAgg_v, aggOf_v, pSl_v, pInt_v, pI64, pU64, pU32, pU8, List.getElem?_cons_zero, List.getElem?_cons_succ, cells_v, cells_sl, cells_agg, isCell_v, isCell_sl, cnd_t, cnd_f, tt_and, ff_and, nt_t, nt_f, len1, len3, len5, len8, len10, hlen1, clen1, clen5]
            by_cases q5 : ks.length = ks'.length
            · rw [show ((ks.length : Int) != (ks'.length : Int)) = false from by simp; omega]
              dsimp only [callT_ret, callT_pan, onlyPV_v, Option.bind_some, pBool_v, pTup_v, pAgg_v, aggOf_v, pSl_v, pInt_v, pI64, pU64, pU32, pU8, List.getElem?_cons_zero, List.getElem?_cons_succ, cells_v, cells_sl, cells_agg, isCell_v, isCell_sl, cnd_t, cnd_f, tt_and, ff_and, nt_t, nt_f, len1, len3, len5, len8, len10, hlen1, clen1, clen5]
              refine (equal_loop2 hk q5 (fun x hx y hy => ih x hx y (hks x hx) (hks' y hy)) k e n k' e' n' (bs d) (bs d') ks.length 0 (by omega) (by rw [List.take_zero, List.take_zero])).trans ?_
              rw [eqB_iff (x := ks) (y := ks') (u := Nd.mk k e n d ks) (v := Nd.mk k' e' n' d' ks') (by subst q1; subst q2; subst q3; subst q4; simp)]
            · rw [show ((ks.length : Int) != (ks'.length : Int)) = true from by simp; omega, eqB_f (fun h => q5 (by cases h; rfl))]
              rfl
          · rw [eqB_f q4, eqB_f (fun h => q4 (by cases h; rfl))]
            rfl
        · rw [show (k != k') = false from by simpa using q1, show (e != e') = false from by simpa using q2, show (n != n') = true from by simpa using q3, eqB_f (fun h => q3 (by cases h; rfl))]
          rfl
      · rw [show (k != k') = false from by simpa using q1, show (e != e') = true from by simpa using q2, eqB_f (fun h => q2 (by cases h; rfl))]
        rfl
    · rw [show (k != k') = true from by simpa using q1, eqB_f (fun h => q1 (by cases h; rfl))]
      rfl
theorem V_EqualB {x y : Nd} (h : good x) (h' : good y) : ev 21 [.pv x.x, .pv y.x] [] = ok (Bo (eqB x y)) := by
  have := V_EqualB_pv x y h h'
  rwa [pv_x, pv_x] at this
-- data: words extended by zeros
/-- The words without the zeros at their end. -/
def cutZ (l : List Int) : List Int := l.take (keptN (· == 0) l)
theorem cutZ_snoc (l : List Int) (x : Int) : cutZ (l ++ [x]) = if x = 0 then cutZ l else l ++ [x] := by
  unfold cutZ
  rw [keptN_snoc]
  by_cases h : x = 0
  · subst h
    rw [if_pos (by rfl), if_pos rfl, List.take_append_of_le_length (keptN_le _ _)]
  · rw [if_neg (by simpa using h), if_neg h, List.take_of_length_le (by simp)]
theorem cutZ_zeros : ∀ (n : Nat) (l : List Int), cutZ (l ++ List.replicate n 0) = cutZ l
  | 0, l => by simp
  | n + 1, l => by rw [List.replicate_succ', ← List.append_assoc, cutZ_snoc, if_pos rfl, cutZ_zeros n l]
/-- A list is its words, then zeros. -/
theorem cutZ_app (l : List Int) : ∃ n, l = cutZ l ++ List.replicate n 0 := by
  induction hn : l.length generalizing l with
  | zero => have := List.length_eq_zero_iff.1 hn; subst this; exact ⟨0, rfl⟩
  | succ n ih =>
    rcases List.eq_nil_or_concat l with rfl | ⟨l', x, rfl⟩
    · exact ⟨0, rfl⟩
    · rw [List.concat_eq_append] at hn ⊢
      rw [cutZ_snoc]
      by_cases h : x = 0
      · subst h
        obtain ⟨m, hm⟩ := ih l' (by simpa using hn)
        refine ⟨m + 1, ?_⟩
        rw [if_pos rfl, List.replicate_succ', ← List.append_assoc, ← hm]
      · rw [if_neg h]
        exact ⟨0, by simp⟩
theorem cutZ_get {a b : List Int} (h : cutZ a = cutZ b) (i : Nat) : a.getD i 0 = b.getD i 0 := by
  obtain ⟨n, hn⟩ := cutZ_app a
  obtain ⟨m, hm⟩ := cutZ_app b
  have key : ∀ (c : List Int) (n i : Nat), (c ++ List.replicate n 0).getD i 0 = c.getD i 0 := fun c n i => by
    simp only [List.getD_eq_getElem?_getD]
    rcases Nat.lt_or_ge i c.length with h | h
    · rw [List.getElem?_append_left h]
    · rw [List.getElem?_append_right h, List.getElem?_eq_none h, List.getElem?_replicate]
      split <;> rfl
  rw [hn, hm, key, key, h]
theorem cutZ_of_get {a b : List Int} (hl : a.length ≤ b.length) (h : ∀ i, a.getD i 0 = b.getD i 0) : cutZ a = cutZ b := by
  have : b = a ++ List.replicate (b.length - a.length) 0 := by
    apply List.ext_getElem
    · simp; omega
    · intro i h1 h2
      have := h i
      simp only [List.getD_eq_getElem?_getD, List.getElem?_eq_getElem h1, Option.getD_some] at this
      rw [← this]
      rcases Nat.lt_or_ge i a.length with h3 | h3
      · rw [List.getElem_append_left h3, List.getElem?_eq_getElem h3]; rfl
      · rw [List.getElem_append_right h3, List.getElem?_eq_none h3]; simp
  rw [this, cutZ_zeros]
theorem data_loop {a b : List Int} (hb : b.length ≤ 17592186044416) (hl : a.length ≤ b.length) : ∀ (c i : Nat), i + c = b.length → (∀ j, j < i → a.getD j 0 = b.getD j 0) → equal_Data_L0 (ws a) (ws b) b.length i = ok (Bo (eqB (cutZ a) (cutZ b))) := by
  intro c
  induction c with
  | zero =>
    intro i hi ht
    rw [equal_Data_L0_eq, decide_eq_false (by omega), eqB_t (cutZ_of_get hl fun j => by
      rcases Nat.lt_or_ge j i with h | h
      · exact ht j h
      · simp only [List.getD_eq_getElem?_getD]
        rw [List.getElem?_eq_none (by omega), List.getElem?_eq_none (by omega)])]
    rfl
  | succ c ih =>
    intro i hi ht
    have hib : i < b.length := by omega
    have hgb : b.getD i 0 = b[i] := by simp only [List.getD_eq_getElem?_getD, List.getElem?_eq_getElem hib]; rfl
    have next : a.getD i 0 = b.getD i 0 → equal_Data_L0 (ws a) (ws b) b.length ((i : Int) + 1) = ok (Bo (eqB (cutZ a) (cutZ b))) := fun he => ih (i + 1) (by omega) fun j hj => by
      rcases Nat.lt_or_ge j i with h | h
      · exact ht j h
      · rw [show j = i by omega]; exact he
    rw [equal_Data_L0_eq, decide_eq_true (show (i : Int) < (b.length : Int) by omega), decide_eq_true (show 0 ≤ (i : Int) by omega), ws_len, ws_len, decide_eq_true (show (i : Int) < (b.length : Int) by omega)]
    dsimp only [callT_ret, callT_pan, onlyPV_v, Option.bind_some, pBool_v, pTup_v, pAgg_v, aggOf_v, pSl_v, pInt_v, pI64, pU64, pU32, pU8, List.getElem?_cons_zero, List.getElem?_cons_succ, cells_v, cells_sl, cells_agg, isCell_v, isCell_sl, cnd_t, cnd_f, tt_and, ff_and, nt_t, nt_f, len1, len3, len5, len8, len10, hlen1, clen1, clen5]
    rw [Int.toNat_natCast, ws_get hib]
    dsimp only [callT_ret, callT_pan, onlyPV_v, Option.bind_some, pBool_v, pTup_v, pAgg_v, aggOf_v, pSl_v, pInt_v, pI64, pU64, pU32, pU8, List.getElem?_cons_zero, List.getElem?_cons_succ, cells_v, cells_sl, cells_agg, isCell_v, isCell_sl, cnd_t, cnd_f, tt_and, ff_and, nt_t, nt_f, len1, len3, len5, len8, len10, hlen1, clen1, clen5]
    rw [w64 (x := (i : Int) + 1) (by omega)]
    by_cases hia : i < a.length
    · have hga : a.getD i 0 = a[i] := by simp only [List.getD_eq_getElem?_getD, List.getElem?_eq_getElem hia]; rfl
      rw [decide_eq_true (show (i : Int) < (a.length : Int) by omega), ws_get hia, decide_eq_false (show ¬ (i : Int) ≥ (a.length : Int) by omega)]
      dsimp only [callT_ret, callT_pan, onlyPV_v, Option.bind_some, pBool_v, pTup_v, pAgg_v, aggOf_v, pSl_v, pInt_v, pI64, pU64, pU32, pU8, List.getElem?_cons_zero, List.getElem?_cons_succ, cells_v, cells_sl, cells_agg, isCell_v, isCell_sl, cnd_t, cnd_f, tt_and, ff_and, nt_t, nt_f, len1, len3, len5, len8, len10, hlen1, clen1, clen5]
      by_cases he : a[i] = b[i]
      · rw [show (a[i] != b[i]) = false from by simpa using he]
        exact next (by rw [hga, hgb, he])
      · rw [bne_iff_ne.2 he, eqB_f (fun h => he (by have := cutZ_get h i; rw [hga, hgb] at this; exact this))]
        rfl
    · have hga : a.getD i 0 = 0 := by simp only [List.getD_eq_getElem?_getD]; rw [List.getElem?_eq_none (by omega)]; rfl
      rw [decide_eq_false (show ¬ (i : Int) < (a.length : Int) by omega), decide_eq_true (show (i : Int) ≥ (a.length : Int) by omega)]
      dsimp only [callT_ret, callT_pan, onlyPV_v, Option.bind_some, pBool_v, pTup_v, pAgg_v, aggOf_v, pSl_v, pInt_v, pI64, pU64, pU32, pU8, List.getElem?_cons_zero, List.getElem?_cons_succ, cells_v, cells_sl, cells_agg, isCell_v, isCell_sl, cnd_t, cnd_f, tt_and, ff_and, nt_t, nt_f, len1, len3, len5, len8, len10, hlen1, clen1, clen5]
      by_cases he : b[i] = 0
      · rw [show (b[i] != 0) = false from by simpa using he]
        exact next (by rw [hga, hgb, he])
      · rw [bne_t he, eqB_f (fun h => he (by have := cutZ_get h i; rw [hga, hgb] at this; exact this.symm))]
        rfl
theorem eqB_comm {α : Type} (x y : α) : eqB x y = eqB y x := eqB_iff ⟨Eq.symm, Eq.symm⟩
/-- Data: whether the words are the same, but for zeros at the end. -/
theorem V_Data {a b : List Int} (ha : a.length ≤ 17592186044416) (hb : b.length ≤ 17592186044416) : ev 29 [.pv (.sl 1 (ws a)), .pv (.sl 1 (ws b))] [] = ok (Bo (eqB (cutZ a) (cutZ b))) := by
  rw [equal_Data_eq, ws_len, ws_len]
  by_cases hl : a.length < b.length
  · rw [decide_eq_true (show (a.length : Int) < (b.length : Int) by omega)]
    exact data_loop hb (by omega) b.length 0 (by omega) (fun j h => absurd h (by omega))
  · rw [decide_eq_false (show ¬ (a.length : Int) < (b.length : Int) by omega), eqB_comm]
    exact data_loop ha (by omega) a.length 0 (by omega) (fun j h => absurd h (by omega))
end Go.Proofs.YtdkmbkdgojiebaaDoor.E

set_option linter.unusedVariables false
set_option linter.unusedSimpArgs false
namespace Go.Proofs.YtdkmbkdgojiebaaDoor.E
/-! What comparing in place looks at. -/
theorem keptN_app {α : Type} (p : α → Bool) (a : List α) : ∀ b : List α, keptN p (a ++ b) = if keptN p b = 0 then keptN p a else a.length + keptN p b := by
  intro b
  induction hn : b.length generalizing b with
  | zero => have := List.length_eq_zero_iff.1 hn; subst this; rw [List.append_nil, if_pos (by rfl)]
  | succ n ih =>
    rcases List.eq_nil_or_concat b with rfl | ⟨b', x, rfl⟩
    · rw [List.append_nil, if_pos (by rfl)]
    · rw [List.concat_eq_append] at hn ⊢
      rw [← List.append_assoc, keptN_snoc, keptN_snoc, ih b' (by simpa using hn)]
      by_cases hp : p x = true
      · rw [if_pos hp, if_pos hp]
      · rw [if_neg hp, if_neg hp, if_neg (by omega), List.length_append]
        omega
theorem byt_snoc (u : List Int) (x : Int) : byt (u ++ [x]) = byt u ++ w8 x := by simp [byt]
theorem w8_zero : w8 0 = List.replicate 8 0 := rfl
/-- A word, out of its bytes. -/
theorem w8_sum {w : Int} (h : Word w) : w = w / 256 ^ 0 % 256 + 256 * (w / 256 ^ 1 % 256) + 65536 * (w / 256 ^ 2 % 256) + 16777216 * (w / 256 ^ 3 % 256) + 4294967296 * (w / 256 ^ 4 % 256) + 1099511627776 * (w / 256 ^ 5 % 256) + 281474976710656 * (w / 256 ^ 6 % 256) + 72057594037927936 * (w / 256 ^ 7 % 256) := by
  obtain ⟨h1, h2⟩ := h
  simp only [show (256 : Int) ^ 0 = 1 from rfl, show (256 : Int) ^ 1 = 256 from rfl, show (256 : Int) ^ 2 = 65536 from rfl, show (256 : Int) ^ 3 = 16777216 from rfl, show (256 : Int) ^ 4 = 4294967296 from rfl, show (256 : Int) ^ 5 = 1099511627776 from rfl, show (256 : Int) ^ 6 = 281474976710656 from rfl, show (256 : Int) ^ 7 = 72057594037927936 from rfl]
  omega
theorem w8_list (w : Int) : w8 w = [w / 256 ^ 0 % 256, w / 256 ^ 1 % 256, w / 256 ^ 2 % 256, w / 256 ^ 3 % 256, w / 256 ^ 4 % 256, w / 256 ^ 5 % 256, w / 256 ^ 6 % 256, w / 256 ^ 7 % 256] := rfl
theorem w8_inj {a b : Int} (ha : Word a) (hb : Word b) (h : w8 a = w8 b) : a = b := by
  rw [w8_list, w8_list] at h
  simp only [List.cons.injEq, and_true] at h
  obtain ⟨e0, e1, e2, e3, e4, e5, e6, e7⟩ := h
  rw [w8_sum ha, w8_sum hb, e0, e1, e2, e3, e4, e5, e6, e7]
theorem w8_kept {x : Int} (hx : Word x) : (x = 0 → keptN (· == 0) (w8 x) = 0) ∧ (x ≠ 0 → 1 ≤ keptN (· == 0) (w8 x) ∧ keptN (· == 0) (w8 x) ≤ 8) := by
  refine ⟨fun h => by subst h; rfl, fun h => ⟨?_, ?_⟩⟩
  · by_cases h0 : keptN (· == 0) (w8 x) = 0
    · exfalso
      apply h
      have hall : ∀ y ∈ w8 x, y = 0 := by
        have key : ∀ (l : List Int), keptN (· == 0) l = 0 → ∀ y ∈ l, y = 0 := by
          intro l
          induction hn : l.length generalizing l with
          | zero => have := List.length_eq_zero_iff.1 hn; subst this; intro _ y hy; cases hy
          | succ n ih =>
            rcases List.eq_nil_or_concat l with rfl | ⟨l', z, rfl⟩
            · intro _ y hy; cases hy
            · rw [List.concat_eq_append] at hn ⊢
              rw [keptN_snoc]
              intro hk y hy
              split at hk
              · rename_i hz
                rcases List.mem_append.1 hy with h1 | h1
                · exact ih l' (by simpa using hn) hk y h1
                · rw [List.mem_singleton.1 h1]; simpa using hz
              · omega
        exact key _ h0
      rw [w8_sum hx]
      rw [w8_list] at hall
      simp only [List.mem_cons, List.not_mem_nil, or_false, forall_eq_or_imp, forall_eq] at hall
      obtain ⟨e0, e1, e2, e3, e4, e5, e6, e7⟩ := hall
      rw [e0, e1, e2, e3, e4, e5, e6, e7]
      rfl
    · omega
  · have := keptN_le (· == 0) (w8 x)
    rw [w8_len] at this
    exact this
theorem wordsT_byt : ∀ (u : List Int), (∀ x ∈ u, Word x) → wordsT (byt u) = keptN (· == 0) u := by
  intro u
  induction hn : u.length generalizing u with
  | zero => have := List.length_eq_zero_iff.1 hn; subst this; intro _; rfl
  | succ n ih =>
    rcases List.eq_nil_or_concat u with rfl | ⟨u', x, rfl⟩
    · intro _; rfl
    · rw [List.concat_eq_append] at hn ⊢
      intro hw
      have hx := hw x (by simp)
      have hu := ih u' (by simpa using hn) fun y hy => hw y (List.mem_append_left _ hy)
      obtain ⟨k1, k2⟩ := w8_kept hx
      unfold wordsT at hu ⊢
      rw [byt_snoc, keptN_app, keptN_snoc]
      by_cases h0 : x = 0
      · rw [if_pos (k1 h0), hu, if_pos (by simpa using h0)]
      · obtain ⟨a1, a2⟩ := k2 h0
        rw [if_neg (by omega), if_neg (by simpa using h0), byt_len]
        omega
theorem byt_take : ∀ (u : List Int) (k : Nat), (byt u).take (8 * k) = byt (u.take k)
  | [], k => by simp [byt]
  | x :: u, 0 => by simp [byt]
  | x :: u, k + 1 => by
    have e : byt (x :: u) = w8 x ++ byt u := rfl
    rw [e, List.take_append, w8_len, List.take_of_length_le (by rw [w8_len]; omega), show 8 * (k + 1) - 8 = 8 * k by omega, byt_take u k, List.take_succ_cons]
    rfl
/-- What is left of data when it is trimmed. -/
theorem trim_byt {u : List Int} (h : ∀ x ∈ u, Word x) : (byt u).take (8 * wordsT (byt u)) = byt (cutZ u) := by
  rw [wordsT_byt u h, byt_take]
  rfl
theorem byt_inj : ∀ {a b : List Int}, (∀ x ∈ a, Word x) → (∀ x ∈ b, Word x) → byt a = byt b → a = b
  | [], [], _, _, _ => rfl
  | [], y :: b, _, _, h => by have := congrArg List.length h; rw [byt_len, byt_len] at this; simp at this
  | x :: a, [], _, _, h => by have := congrArg List.length h; rw [byt_len, byt_len] at this; simp at this
  | x :: a, y :: b, ha, hb, h => by
    have e : w8 x ++ byt a = w8 y ++ byt b := h
    obtain ⟨e1, e2⟩ := List.append_inj e (by rw [w8_len, w8_len])
    rw [w8_inj (ha x List.mem_cons_self) (hb y List.mem_cons_self) e1, byt_inj (fun z hz => ha z (List.mem_cons_of_mem _ hz)) (fun z hz => hb z (List.mem_cons_of_mem _ hz)) e2]
-- pointers: nodes without the nulls at their end
theorem vn_null {x : Nd} (h : VN x) (hk : x.kind = 0) : x = nd0 := by
  cases h with
  | mk v1 v2 v3 =>
    rename_i k e n d ks
    have hk' : k = 0 := hk
    rcases v3 with ⟨a1, a2, a3, a4, a5⟩ | ⟨a1, _⟩ | ⟨a1, _⟩
    · rw [a1, a2, a3, List.length_eq_zero_iff.1 a4, List.length_eq_zero_iff.1 a5]; rfl
    · omega
    · omega
theorem cutN_app : ∀ (l : List Nd), (∀ x ∈ l, VN x) → ∃ n, l = l.take (ptrsT l) ++ List.replicate n nd0 := by
  intro l
  induction hn : l.length generalizing l with
  | zero => have := List.length_eq_zero_iff.1 hn; subst this; exact fun _ => ⟨0, rfl⟩
  | succ n ih =>
    rcases List.eq_nil_or_concat l with rfl | ⟨l', x, rfl⟩
    · exact fun _ => ⟨0, rfl⟩
    · rw [List.concat_eq_append] at hn ⊢
      intro hv
      obtain ⟨m, hm⟩ := ih l' (by simpa using hn) fun y hy => hv y (List.mem_append_left _ hy)
      have hle := keptN_le (fun x : Nd => x.kind == 0) l'
      unfold ptrsT at hm ⊢
      rw [keptN_snoc]
      by_cases h : x.kind = 0
      · rw [if_pos (by simpa using h), List.take_append_of_le_length hle]
        refine ⟨m + 1, ?_⟩
        rw [List.replicate_succ', ← List.append_assoc, ← hm, vn_null (hv x (by simp)) h]
      · rw [if_neg (by simpa using h), List.take_of_length_le (by simp)]
        exact ⟨0, by simp⟩
theorem getD_rep (c : List Nd) (n i : Nat) : (c ++ List.replicate n nd0).getD i nd0 = c.getD i nd0 := by
  simp only [List.getD_eq_getElem?_getD]
  rcases Nat.lt_or_ge i c.length with h | h
  · rw [List.getElem?_append_left h]
  · rw [List.getElem?_append_right h, List.getElem?_eq_none h, List.getElem?_replicate]
    split <;> rfl
theorem ptrsT_rep (c : List Nd) : ∀ n, (c ++ List.replicate n nd0).take (ptrsT (c ++ List.replicate n nd0)) = c.take (ptrsT c)
  | 0 => by simp
  | n + 1 => by
    have ih := ptrsT_rep c n
    have hle := keptN_le (fun x : Nd => x.kind == 0) (c ++ List.replicate n nd0)
    unfold ptrsT at ih ⊢
    rw [List.replicate_succ', ← List.append_assoc, keptN_snoc, if_pos (by rfl), List.take_append_of_le_length hle, ih]
theorem cutN_of_get {a b : List Nd} (hl : a.length ≤ b.length) (h : ∀ i, i < b.length → a.getD i nd0 = b.getD i nd0) : a.take (ptrsT a) = b.take (ptrsT b) := by
  have : b = a ++ List.replicate (b.length - a.length) nd0 := by
    apply List.ext_getElem
    · simp; omega
    · intro i h1 h2
      have := h i h1
      simp only [List.getD_eq_getElem?_getD, List.getElem?_eq_getElem h1, Option.getD_some] at this
      rw [← this]
      rcases Nat.lt_or_ge i a.length with h3 | h3
      · rw [List.getElem_append_left h3, List.getElem?_eq_getElem h3]; rfl
      · rw [List.getElem_append_right h3, List.getElem?_eq_none h3]; simp
  rw [this, ptrsT_rep]
/-- The same pointers, but for nulls at the end. -/
theorem cutN_iff {a b : List Nd} (ha : ∀ x ∈ a, VN x) (hb : ∀ x ∈ b, VN x) {q : Nat} (hq : a.length ≤ q) (hq' : b.length ≤ q) : a.take (ptrsT a) = b.take (ptrsT b) ↔ ∀ i, i < q → a.getD i nd0 = b.getD i nd0 := by
  constructor
  · intro h i _
    obtain ⟨n, hn⟩ := cutN_app a ha
    obtain ⟨m, hm⟩ := cutN_app b hb
    rw [hn, hm, getD_rep, getD_rep, h]
  · intro h
    rcases Nat.le_total a.length b.length with hl | hl
    · exact cutN_of_get hl fun i hi => h i (by omega)
    · exact (cutN_of_get hl fun i hi => (h i (by omega)).symm).symm
theorem kids_nth {G : Int → Nat → Nd × Int × Int} : ∀ c i m acc, (kidsF G c i m acc).2.2 = 0 → ∃ l', (kidsF G c i m acc).1 = acc ++ l' ∧ l'.length = c ∧ ∀ (j : Nat) (h : j < l'.length), ∃ m1, (G m1 (i + j)).2.2 = 0 ∧ (G m1 (i + j)).1 = l'[j] := by
  intro c
  induction c with
  | zero => intro i m acc _; exact ⟨[], by simp [kidsF], rfl, fun j h => absurd h (by simp)⟩
  | succ c ih =>
    intro i m acc hz
    by_cases h0 : (G m i).2.2 = 0
    · rw [kidsF_go h0] at hz ⊢
      obtain ⟨l', e1, e2, e3⟩ := ih _ _ _ hz
      refine ⟨(G m i).1 :: l', by rw [e1, List.append_assoc]; rfl, by simp [e2], fun j h => ?_⟩
      cases j with
      | zero => exact ⟨m, h0, rfl⟩
      | succ j =>
        obtain ⟨m1, f1, f2⟩ := e3 j (by simpa using h)
        refine ⟨m1, ?_, ?_⟩
        · rw [show i + (j + 1) = i + 1 + j by omega]; exact f1
        · rw [show i + (j + 1) = i + 1 + j by omega]; exact f2
    · rw [kidsF_err h0] at hz
      exact absurd hz h0
end Go.Proofs.YtdkmbkdgojiebaaDoor.E

set_option linter.unusedVariables false
set_option linter.unusedSimpArgs false
namespace Go.Proofs.YtdkmbkdgojiebaaDoor.E
/-! Comparing in place: whether the trimmed denotations are the same. -/
theorem eqB_true {α : Type} {x y : α} : eqB x y = true ↔ x = y := by
  by_cases h : x = y
  · exact ⟨fun _ => h, fun _ => eqB_t h⟩
  · exact ⟨fun e => by (rw [eqB_f h] at e; cases e), fun e => absurd e h⟩
theorem ba_loop (b : ByteArray) : ∀ (c i : Nat) (r : List UInt8), i + c = b.size → ByteArray.toList.loop b i r = r.reverse ++ b.data.toList.drop i := by
  intro c
  induction c with
  | zero =>
    intro i r hi
    unfold ByteArray.toList.loop
    rw [if_neg (by omega), List.drop_of_length_le (by rw [Array.length_toList]; have : b.size = b.data.size := rfl; omega), List.append_nil]
  | succ c ih =>
    intro i r hi
    have hib : i < b.data.size := by show i < b.size; omega
    unfold ByteArray.toList.loop
    rw [if_pos (by omega), ih (i + 1) _ (by omega), List.reverse_cons, List.append_assoc]
    congr 1
    conv => rhs; rw [List.drop_eq_getElem_cons (by rw [Array.length_toList]; exact hib)]
    have : b.get! i = b.data[i] := by
      show b.data[i]! = b.data[i]
      rw [getElem!_pos b.data i hib]
    rw [this, Array.getElem_toList]
    rfl
theorem ba_toList (b : ByteArray) : b.toList = b.data.toList := by
  unfold ByteArray.toList
  rw [ba_loop b b.size 0 [] (by omega)]
  rfl
theorem strOf_inj {a b : List Int} (ha : ∀ x ∈ a, Byte x) (hb : ∀ x ∈ b, Byte x) (h : (strOfNums a).toList = (strOfNums b).toList) : a = b := by
  rw [ba_toList, ba_toList, strOfNums_data, strOfNums_data] at h
  have hl : a.length = b.length := by have := congrArg List.length h; simpa using this
  apply List.ext_getElem hl
  intro i h1 h2
  have e := congrArg (fun l : List UInt8 => l[i]?) h
  simp only [List.getElem?_map, List.getElem?_eq_getElem h1, List.getElem?_eq_getElem h2, Option.map_some, Option.some.injEq] at e
  obtain ⟨p1, p2⟩ := ha _ (List.getElem_mem h1)
  obtain ⟨q1, q2⟩ := hb _ (List.getElem_mem h2)
  have := congrArg UInt8.toNat e
  rw [UInt8.toNat_ofNat', UInt8.toNat_ofNat', Nat.mod_eq_of_lt (by omega), Nat.mod_eq_of_lt (by omega)] at this
  omega
theorem pBytes_bs : ∀ a : List Int, pBytes (bs a) = some a
  | [] => rfl
  | x :: a => by
    show (pBytes (bs a)).map (fun l => x :: l) = some (x :: a)
    rw [pBytes_bs a]; rfl
theorem V_bytesEq {a b : List Int} (ha : ∀ x ∈ a, Byte x) (hb : ∀ x ∈ b, Byte x) : ev 104 [.pv (.sl 1 (bs a)), .pv (.sl 1 (bs b))] [] = ok (Bo (eqB a b)) := by
  rw [bytes_Equal_eq, pBytes_bs, Option.bind_some, pBytes_bs, Option.bind_some]
  by_cases h : a = b
  · rw [eqB_t h, beq_iff_eq.2 (by rw [h])]
  · rw [eqB_f h, beq_eq_false_iff_ne.2 (fun e => h (strOf_inj ha hb e))]
-- objects and what they denote
def denOb (l : List (List Int)) (D : Nat) (m : Int) (o : Ob) : Nd × Int × Int := if o.kind = 1 then strct (den l D) l m o else denL (den l D) l m o
def K1 (o : Ob) : Prop := o.kind = 1 → o.elem = 0 ∧ o.n = 0
theorem obj_k1 (l : List (List Int)) (s a : Int) : K1 (obj l s a).1 := by
  have hb : ∀ e, K1 (bad e).1 := fun e h => ⟨rfl, rfl⟩
  unfold obj objP objS objL objC
  repeat' split
  all_goals first
    | exact hb _
    | exact fun _ => ⟨rfl, rfl⟩
    | exact fun h => absurd h (show ¬ ((2 : Int) = 1) by decide)
/-- What an object denotes, with this many levels left. -/
def Dn (l : List (List Int)) (D : Nat) (o : Ob) (n : Nd) : Prop := (o = ob0 ∧ n = nd0) ∨ ∃ D', D = D' + 1 ∧ ObOk l o ∧ Np o ∧ K1 o ∧ ∃ m, (denOb l D' m o).2.2 = 0 ∧ (denOb l D' m o).1 = n
theorem den_dn {l : List (List Int)} (hl : Segs l) (hs : Sm l) {D : Nat} {m s a : Int} (h : (den l D m s a).2.2 = 0) : Dn l D (obj l s a).1 (den l D m s a).1 := by
  by_cases he : (fol l s a).2.2.2 = 0
  · by_cases h0 : (fol l s a).1 = 0
    · rw [den_nil he h0]
      refine .inl ⟨?_, rfl⟩
      unfold obj
      rw [if_pos he, if_pos h0]
      rfl
    · cases D with
      | zero => rw [den_deep he h0] at h; exact absurd h (by show ¬ ((7 : Int) = 0); decide)
      | succ D =>
        rw [den_obj he h0] at h ⊢
        unfold denO at h ⊢
        by_cases hf : (obj l s a).2 = 0
        · rw [if_pos hf] at h ⊢
          by_cases h8 : (obj l s a).1.cost > m
          · rw [if_pos h8] at h; exact absurd h (by show ¬ ((8 : Int) = 0); decide)
          · rw [if_neg h8] at h ⊢
            exact .inr ⟨D, rfl, obj_ok hl hs h0 he hf, obj_np hl hs h0 he hf, obj_k1 l s a, m - (obj l s a).1.cost, h, rfl⟩
        · rw [if_neg hf] at h; exact absurd h hf
  · rw [den_err he] at h; exact absurd h he
theorem dn_head {l : List (List Int)} {D : Nat} {o : Ob} {n : Nd} (h : Dn l D o n) : n.kind = o.kind ∧ n.elem = o.elem ∧ n.n = o.n := by
  rcases h with ⟨rfl, rfl⟩ | ⟨D', _, hok, _, hk1, m, hz, rfl⟩
  · exact ⟨rfl, rfl, rfl⟩
  · obtain ⟨_, _, _, _, _, _, hk, _⟩ := hok
    unfold denOb at hz ⊢
    by_cases h1 : o.kind = 1
    · rw [if_pos h1] at hz ⊢
      have hz' : (kidsF (fun m (i : Nat) => den l D' m o.seg (o.at_ + o.data + i)) o.ptrs.toNat 0 m []).2.2 = 0 := hz
      unfold strct
      rw [wrapK_ok0 hz']
      exact ⟨h1.symm, (hk1 h1).1.symm, (hk1 h1).2.symm⟩
    · rw [if_neg h1] at hz ⊢
      have h2 : o.kind = 2 := by omega
      unfold denL at hz ⊢
      by_cases h6 : o.elem < 6
      · rw [if_pos h6]; exact ⟨h2.symm, rfl, rfl⟩
      · rw [if_neg h6] at hz ⊢
        have hz' : (kidsF (fun m (i : Nat) => if o.elem = 6 then den l D' m o.seg (o.at_ + i) else strct (den l D') l m (elt o i)) o.n.toNat 0 m []).2.2 = 0 := hz
        rw [wrapK_ok0 hz']
        exact ⟨h2.symm, rfl, rfl⟩
/-- The object of a pointer. -/
def obAt (l : List (List Int)) (o : Ob) (i : Nat) : Ob := if (i : Int) ≥ ptsN o then ob0 else (obj l o.seg (ptsA o + i)).1
theorem strct_kids {l : List (List Int)} (hl : Segs l) (hs : Sm l) {D : Nat} {m : Int} {o : Ob} (hk : o.kind = 1) (hq : 0 ≤ o.ptrs) (h : (strct (den l D) l m o).2.2 = 0) : ∃ ks, (strct (den l D) l m o).1 = .mk 1 0 0 (byt (cutB l o.seg o.at_ o.data)) ks ∧ ks.length = o.ptrs.toNat ∧ ∀ i, Dn l D (obAt l o i) (ks.getD i nd0) := by
  have hz : (kidsF (fun m (i : Nat) => den l D m o.seg (o.at_ + o.data + i)) o.ptrs.toNat 0 m []).2.2 = 0 := h
  obtain ⟨ks, e1, e2, e3⟩ := kids_nth (G := fun m (i : Nat) => den l D m o.seg (o.at_ + o.data + i)) o.ptrs.toNat 0 m [] hz
  refine ⟨ks, ?_, e2, fun i => ?_⟩
  · unfold strct
    rw [wrapK_ok0 hz]
    dsimp only
    rw [e1, List.nil_append]
  · have hN : ptsN o = o.ptrs := by
      unfold ptsN
      by_cases h0 : 0 < o.ptrs
      · rw [if_pos ⟨hk, h0⟩]
      · rw [if_neg (fun x => h0 x.2), if_neg (fun x => absurd x.1 (by omega))]; omega
    unfold obAt
    rw [hN]
    by_cases hi : (i : Int) ≥ o.ptrs
    · rw [if_pos hi, List.getD_eq_getElem?_getD, List.getElem?_eq_none (by omega)]
      exact .inl ⟨rfl, rfl⟩
    · rw [if_neg hi]
      have hik : i < ks.length := by omega
      obtain ⟨m1, f1, f2⟩ := e3 i hik
      rw [List.getD_eq_getElem?_getD, List.getElem?_eq_getElem hik, Option.getD_some, ← f2, Nat.zero_add]
      rw [Nat.zero_add] at f1
      have hA : ptsA o = o.at_ + o.data := by unfold ptsA; rw [if_pos ⟨hk, by omega⟩]
      rw [hA]
      exact den_dn hl hs f1
abbrev pairV (la lb : List (List Int)) : AV := .pv (.agg [.sl 1 (sgs la), .sl 1 (sgs lb)])
theorem V_object {l : List (List Int)} (hl : Segs l) (hs : Sm l) {o : Ob} (hat : 0 ≤ o.at_ ∧ o.at_ ≤ 1125899906842624) (hdt : 0 ≤ o.data ∧ o.data ≤ 65535) (hA : 0 ≤ ptsA o ∧ ptsA o ≤ 2251799813685248) {i : Nat} (hi : i ≤ 1073741824) : ev 106 [.pv (.sl 1 (sgs l)), .pv (.agg o.c), .pv (I i)] [] = ok (.agg (obAt l o i).c) := by
  have hp := V_Pointers o (by omega)
  rw [Ob.c] at hp ⊢
  rw [equal_object_eq, hp]
  dsimp only [callT_ret, callT_pan, onlyPV_v, Option.bind_some, pBool_v, pTup_v, pAgg_v, aggOf_v, pSl_v, pInt_v, pI64, pU64, pU32, pU8, List.getElem?_cons_zero, List.getElem?_cons_succ, cells_v, cells_sl, cells_agg, isCell_v, isCell_sl, cnd_t, cnd_f, tt_and, ff_and, nt_t, nt_f, len1, len3, len5, len8, len10, hlen1, clen1, clen5]
  unfold obAt
  by_cases h : (i : Int) ≥ ptsN o
  · rw [decide_eq_true h, if_pos h]; rfl
  · rw [decide_eq_false h, if_neg h, w64 (x := ptsA o + i) (by omega), V_Object hl hs]
    rfl
theorem V_wordsO {l : List (List Int)} (hl : Segs l) (o : Ob) {n : Int} (hn : n ≤ 17592186044416) : ev 103 [.pv (.sl 1 (sgs l)), .pv (.agg o.c), .pv (I n)] [] = ok (.sl 1 (ws (cutB l o.seg o.at_ n))) := by
  rw [Ob.c, equal_words_eq, V_SliceB hl _ _ _ hn]
  rfl
theorem pts_loop {la lb : List (List Int)} {x y : Ob} {q : Nat} (hq : q ≤ 1073741824) (f : Nat → Bool)
    (hx : ∀ i, i < q → ev 106 [.pv (.sl 1 (sgs la)), .pv (.agg x.c), .pv (I i)] [] = ok (.agg (obAt la x i).c)) (hy : ∀ i, i < q → ev 106 [.pv (.sl 1 (sgs lb)), .pv (.agg y.c), .pv (I i)] [] = ok (.agg (obAt lb y i).c))
    (hf : ∀ i, i < q → ev 53 [pairV la lb, .pv (.agg (obAt la x i).c), .pv (.agg (obAt lb y i).c)] [] = ok (Bo (f i))) : ∀ (c i : Nat), i + c = q → (∀ j, j < i → f j = true) →
    equal_pair_pointers_L0 q i (sgs la) (sgs lb) x.kind x.seg x.at_ x.data x.ptrs x.elem x.n x.cost y.kind y.seg y.at_ y.data y.ptrs y.elem y.n y.cost = ok (Bo ((List.range q).all f)) := by
  intro c
  induction c with
  | zero =>
    intro i hi hj
    rw [equal_pair_pointers_L0_eq, decide_eq_false (by omega), List.all_eq_true.2 (fun j h => hj j (by have := List.mem_range.1 h; omega))]
    rfl
  | succ c ih =>
    intro i hi hj
    have e1 := hx i (by omega)
    have e2 := hy i (by omega)
    have e3 := hf i (by omega)
    rw [Ob.c] at e1 e2
    rw [equal_pair_pointers_L0_eq, decide_eq_true (by omega), e1]
    dsimp only [callT_ret, callT_pan, onlyPV_v, Option.bind_some, pBool_v, pTup_v, pAgg_v, aggOf_v, pSl_v, pInt_v, pI64, pU64, pU32, pU8, List.getElem?_cons_zero, List.getElem?_cons_succ, cells_v, cells_sl, cells_agg, isCell_v, isCell_sl, cnd_t, cnd_f, tt_and, ff_and, nt_t, nt_f, len1, len3, len5, len8, len10, hlen1, clen1, clen5]
    rw [e2]
    dsimp only [callT_ret, callT_pan, onlyPV_v, Option.bind_some, pBool_v, pTup_v, pAgg_v, aggOf_v, pSl_v, pInt_v, pI64, pU64, pU32, pU8, List.getElem?_cons_zero, List.getElem?_cons_succ, cells_v, cells_sl, cells_agg, isCell_v, isCell_sl, cnd_t, cnd_f, tt_and, ff_and, nt_t, nt_f, len1, len3, len5, len8, len10, hlen1, clen1, clen5]
    rw [e3]
    dsimp only [callT_ret, callT_pan, onlyPV_v, Option.bind_some, pBool_v, pTup_v, pAgg_v, aggOf_v, pSl_v, pInt_v, pI64, pU64, pU32, pU8, List.getElem?_cons_zero, List.getElem?_cons_succ, cells_v, cells_sl, cells_agg, isCell_v, isCell_sl, cnd_t, cnd_f, tt_and, ff_and, nt_t, nt_f, len1, len3, len5, len8, len10, hlen1, clen1, clen5]
    cases hfi : f i with
    | true =>
      dsimp only [callT_ret, callT_pan, onlyPV_v, Option.bind_some, pBool_v, pTup_v, pAgg_v, aggOf_v, pSl_v, pInt_v, pI64, pU64, pU32, pU8, List.getElem?_cons_zero, List.getElem?_cons_succ, cells_v, cells_sl, cells_agg, isCell_v, isCell_sl, cnd_t, cnd_f, tt_and, ff_and, nt_t, nt_f, len1, len3, len5, len8, len10, hlen1, clen1, clen5]
      rw [w64 (x := (i : Int) + 1) (by omega)]
      exact ih (i + 1) (by omega) fun j h => by
        rcases Nat.lt_or_ge j i with h1 | h1
        · exact hj j h1
        · rw [show j = i by omega]; exact hfi
    | false =>
      rw [show (List.range q).all f = false from by
        rw [Bool.eq_false_iff]
        intro h
        have := List.all_eq_true.1 h i (List.mem_range.2 (by omega))
        rw [hfi] at this; cases this]
      rfl
theorem getD_map (l : List Nd) (i : Nat) : (l.map trimN).getD i nd0 = trimN (l.getD i nd0) := by
  simp only [List.getD_eq_getElem?_getD, List.getElem?_map]
  cases l[i]? with
  | none => rfl
  | some x => rfl
theorem bo_eq {p q : Bool} (h : p = true ↔ q = true) : p = q := Bool.eq_iff_iff.2 h
end Go.Proofs.YtdkmbkdgojiebaaDoor.E

set_option linter.unusedVariables false
set_option linter.unusedSimpArgs false
namespace Go.Proofs.YtdkmbkdgojiebaaDoor.E
/-! same = the trimmed denotations are the same. -/
/-- Objects compared, at a depth. -/
def SameOk (la lb : List (List Int)) (D : Nat) : Prop := ∀ x y nx ny, Dn la D x nx → Dn lb D y ny → ev 53 [pairV la lb, .pv (.agg x.c), .pv (.agg y.c)] [] = ok (Bo (eqB (trimN nx) (trimN ny)))
/-- A struct's place, well within. -/
def Wi (o : Ob) : Prop := (0 ≤ o.at_ ∧ o.at_ ≤ 1125899906842624) ∧ (0 ≤ o.data ∧ o.data ≤ 65535) ∧ (0 ≤ o.ptrs ∧ o.ptrs ≤ 65535)
theorem wi_pts {o : Ob} (h : Wi o) (hk : o.kind = 1) : 0 ≤ ptsA o ∧ ptsA o ≤ 2251799813685248 := by
  obtain ⟨h1, h2, h3⟩ := h
  unfold ptsA
  split
  · omega
  · rw [if_neg (fun x => absurd x.1 (by omega))]; omega
theorem V_pts {la lb : List (List Int)} (hla : Segs la) (hsa : Sm la) (hlb : Segs lb) (hsb : Sm lb) {D : Nat} (ih : SameOk la lb D) {x y : Ob} (hx1 : 0 ≤ x.at_ ∧ x.at_ ≤ 1125899906842624) (hx2 : 0 ≤ x.data ∧ x.data ≤ 65535) (hx3 : 0 ≤ ptsA x ∧ ptsA x ≤ 2251799813685248) (hy1 : 0 ≤ y.at_ ∧ y.at_ ≤ 1125899906842624) (hy2 : 0 ≤ y.data ∧ y.data ≤ 65535) (hy3 : 0 ≤ ptsA y ∧ ptsA y ≤ 2251799813685248) {q : Nat} (hq : q ≤ 1073741824) {kx ky : List Nd}
    (dx : ∀ i, i < q → Dn la D (obAt la x i) (kx.getD i nd0)) (dy : ∀ i, i < q → Dn lb D (obAt lb y i) (ky.getD i nd0)) : ev 77 [pairV la lb, .pv (.agg x.c), .pv (.agg y.c), .pv (I q)] [] = ok (Bo ((List.range q).all fun i => eqB (trimN (kx.getD i nd0)) (trimN (ky.getD i nd0)))) := by
  have := pts_loop (la := la) (lb := lb) (x := x) (y := y) hq (fun i => eqB (trimN (kx.getD i nd0)) (trimN (ky.getD i nd0))) (fun i hi => V_object hla hsa hx1 hx2 hx3 (by omega)) (fun i hi => V_object hlb hsb hy1 hy2 hy3 (by omega)) (fun i hi => ih _ _ _ _ (dx i hi) (dy i hi)) q 0 (by omega) (fun j h => absurd h (by omega))
  rw [Ob.c, Ob.c, equal_pair_pointers_eq]
  exact this
theorem all_get {q : Nat} {kx ky : List Nd} : ((List.range q).all fun i => eqB (trimN (kx.getD i nd0)) (trimN (ky.getD i nd0))) = true ↔ ∀ i, i < q → (kx.map trimN).getD i nd0 = (ky.map trimN).getD i nd0 := by
  rw [List.all_eq_true]
  constructor
  · intro h i hi
    rw [getD_map, getD_map]
    exact eqB_true.1 (h i (List.mem_range.2 hi))
  · intro h i hi
    have := h i (List.mem_range.1 hi)
    rw [getD_map, getD_map] at this
    exact eqB_true.2 this
theorem vn_kids {k e n : Int} {d : List Int} {ks : List Nd} (h : VN (.mk k e n d ks)) : ∀ y ∈ ks, VN y := by
  cases h with
  | mk v1 v2 v3 => exact v1
theorem trim_struct (d : List Int) (ks : List Nd) : trimN (.mk 1 0 0 d ks) = .mk 1 0 0 (d.take (8 * wordsT d)) ((ks.map trimN).take (ptrsT (ks.map trimN))) := by
  rw [trimN, if_pos rfl, trimNs_eq]
  have := ptrsT_map ks
  rw [trimNs_eq] at this
  rw [this]
theorem vn_shp' {k e n : Int} {d : List Int} {ks : List Nd} (h : VN (.mk k e n d ks)) : ∀ y ∈ ks, VN y := (vn_kids h)
theorem V_structs {la lb : List (List Int)} (hla : Segs la) (hsa : Sm la) (hlb : Segs lb) (hsb : Sm lb) {D : Nat} (ih : SameOk la lb D) {x y : Ob} (hx : Wi x) (hy : Wi y) (kx : x.kind = 1) (ky : y.kind = 1) {m m' : Int} (zx : (strct (den la D) la m x).2.2 = 0) (zy : (strct (den lb D) lb m' y).2.2 = 0) : ev 75 [pairV la lb, .pv (.agg x.c), .pv (.agg y.c)] [] = ok (Bo (eqB (trimN (strct (den la D) la m x).1) (trimN (strct (den lb D) lb m' y).1))) := by
  obtain ⟨cx, e1, e2, e3⟩ := strct_kids hla hsa kx hx.2.2.1 zx
  obtain ⟨cy, f1, f2, f3⟩ := strct_kids hlb hsb ky hy.2.2.1 zy
  have vx := (strct_okd (den_okd hla hsa D) la m hx.2.1.2 hx.2.2 zx).1
  have vy := (strct_okd (den_okd hlb hsb D) lb m' hy.2.1.2 hy.2.2 zy).1
  rw [e1] at vx ⊢
  rw [f1] at vy ⊢
  have px := V_pts (D := D) hla hsa hlb hsb ih (x := x) (y := y) hx.1 hx.2.1 (wi_pts hx kx) hy.1 hy.2.1 (wi_pts hy ky) (q := max cx.length cy.length) (by obtain ⟨_, _, a⟩ := hx; obtain ⟨_, _, b⟩ := hy; omega) (kx := cx) (ky := cy) (fun i _ => e3 i) (fun i _ => f3 i)
  have hq : (if y.ptrs > x.ptrs then y.ptrs else x.ptrs) = ((max cx.length cy.length : Nat) : Int) := by
    obtain ⟨_, _, a⟩ := hx
    obtain ⟨_, _, b⟩ := hy
    split <;> omega
  have wx := V_wordsO hla x (n := x.data) (by obtain ⟨_, a, _⟩ := hx; omega)
  have wy := V_wordsO hlb y (n := y.data) (by obtain ⟨_, a, _⟩ := hy; omega)
  have lx := cutB_len la x.seg x.at_ x.data
  have ly := cutB_len lb y.seg y.at_ y.data
  have dd := V_Data (a := cutB la x.seg x.at_ x.data) (b := cutB lb y.seg y.at_ y.data) (by obtain ⟨_, a, _⟩ := hx; omega) (by obtain ⟨_, a, _⟩ := hy; omega)
  have hwx := (cutB_words hla x.seg x.at_ x.data).2
  have hwy := (cutB_words hlb y.seg y.at_ y.data).2
  rw [trim_struct, trim_struct, trim_byt hwx, trim_byt hwy]
  generalize cutB la x.seg x.at_ x.data = ux at *
  generalize cutB lb y.seg y.at_ y.data = uy at *
  have kxv : ∀ z ∈ cx.map trimN, VN z := fun z hz => by
    obtain ⟨u, hu, rfl⟩ := List.mem_map.1 hz
    exact vn_trim u ((vn_shp' vx) u hu)
  have kyv : ∀ z ∈ cy.map trimN, VN z := fun z hz => by
    obtain ⟨u, hu, rfl⟩ := List.mem_map.1 hz
    exact vn_trim u ((vn_shp' vy) u hu)
  have hcut := cutN_iff kxv kyv (q := max cx.length cy.length) (by rw [List.length_map]; omega) (by rw [List.length_map]; omega)
  rw [Ob.c] at wx wy px
  rw [Ob.c] at px
  rw [Ob.c, Ob.c, equal_pair_structs_eq, wx]
  dsimp only [callT_ret, callT_pan, onlyPV_v, Option.bind_some, pBool_v, pTup_v, pAgg_v, aggOf_v, pSl_v, pInt_v, pI64, pU64, pU32, pU8, List.getElem?_cons_zero, List.getElem?_cons_succ, cells_v, cells_sl, cells_agg, isCell_v, isCell_sl, cnd_t, cnd_f, tt_and, ff_and, nt_t, nt_f, len1, len3, len5, len8, len10, hlen1, clen1, clen5]
  rw [wy]
  dsimp only [callT_ret, callT_pan, onlyPV_v, Option.bind_some, pBool_v, pTup_v, pAgg_v, aggOf_v, pSl_v, pInt_v, pI64, pU64, pU32, pU8, List.getElem?_cons_zero, List.getElem?_cons_succ, cells_v, cells_sl, cells_agg, isCell_v, isCell_sl, cnd_t, cnd_f, tt_and, ff_and, nt_t, nt_f, len1, len3, len5, len8, len10, hlen1, clen1, clen5]
  rw [dd, hq]
  dsimp only [callT_ret, callT_pan, onlyPV_v, Option.bind_some, pBool_v, pTup_v, pAgg_v, aggOf_v, pSl_v, pInt_v, pI64, pU64, pU32, pU8, List.getElem?_cons_zero, List.getElem?_cons_succ, cells_v, cells_sl, cells_agg, isCell_v, isCell_sl, cnd_t, cnd_f, tt_and, ff_and, nt_t, nt_f, len1, len3, len5, len8, len10, hlen1, clen1, clen5]
  by_cases hd : cutZ ux = cutZ uy
  · rw [eqB_t hd]
    dsimp only [callT_ret, callT_pan, onlyPV_v, Option.bind_some, pBool_v, pTup_v, pAgg_v, aggOf_v, pSl_v, pInt_v, pI64, pU64, pU32, pU8, List.getElem?_cons_zero, List.getElem?_cons_succ, cells_v, cells_sl, cells_agg, isCell_v, isCell_sl, cnd_t, cnd_f, tt_and, ff_and, nt_t, nt_f, len1, len3, len5, len8, len10, hlen1, clen1, clen5]
    rw [px]
    dsimp only [callT_ret, callT_pan, onlyPV_v, Option.bind_some, pBool_v, pTup_v, pAgg_v, aggOf_v, pSl_v, pInt_v, pI64, pU64, pU32, pU8, List.getElem?_cons_zero, List.getElem?_cons_succ, cells_v, cells_sl, cells_agg, isCell_v, isCell_sl, cnd_t, cnd_f, tt_and, ff_and, nt_t, nt_f, len1, len3, len5, len8, len10, hlen1, clen1, clen5]
    refine congrArg (fun b => ok (Bo b)) (bo_eq ?_)
    rw [all_get, eqB_true, ← hcut, hd]
    simp
  · have hne : ¬ (Nd.mk 1 0 0 (byt (cutZ ux)) ((cx.map trimN).take (ptrsT (cx.map trimN))) = Nd.mk 1 0 0 (byt (cutZ uy)) ((cy.map trimN).take (ptrsT (cy.map trimN)))) := fun h => hd (byt_inj (fun z hz => hwx z (List.mem_of_mem_take hz)) (fun z hz => hwy z (List.mem_of_mem_take hz)) (by injection h))
    rw [eqB_f hd, eqB_f hne]
    rfl
theorem cmps_loop {la lb : List (List Int)} {x y : Ob} {q : Nat} (hq : q ≤ 536870911) (f : Nat → Bool)
    (hx : ∀ i : Nat, i < q → ev 105 [.pv (.agg x.c), .pv (I i)] [] = ok (.agg (elt x i).c)) (hy : ∀ i : Nat, i < q → ev 105 [.pv (.agg y.c), .pv (I i)] [] = ok (.agg (elt y i).c))
    (hf : ∀ i : Nat, i < q → ev 75 [pairV la lb, .pv (.agg (elt x i).c), .pv (.agg (elt y i).c)] [] = ok (Bo (f i))) : ∀ (c i : Nat), i + c = q → (∀ j, j < i → f j = true) →
    equal_pair_composites_L0 q i (sgs la) (sgs lb) x.kind x.seg x.at_ x.data x.ptrs x.elem x.n x.cost y.kind y.seg y.at_ y.data y.ptrs y.elem y.n y.cost = ok (Bo ((List.range q).all f)) := by
  intro c
  induction c with
  | zero =>
    intro i hi hj
    rw [equal_pair_composites_L0_eq, decide_eq_false (by omega), List.all_eq_true.2 (fun j h => hj j (by have := List.mem_range.1 h; omega))]
    rfl
  | succ c ih =>
    intro i hi hj
    have e1 := hx i (by omega)
    have e2 := hy i (by omega)
    have e3 := hf i (by omega)
    rw [Ob.c] at e1 e2
    rw [equal_pair_composites_L0_eq, decide_eq_true (by omega), e1]
    dsimp only [callT_ret, callT_pan, onlyPV_v, Option.bind_some, pBool_v, pTup_v, pAgg_v, aggOf_v, pSl_v, pInt_v, pI64, pU64, pU32, pU8, List.getElem?_cons_zero, List.getElem?_cons_succ, cells_v, cells_sl, cells_agg, isCell_v, isCell_sl, cnd_t, cnd_f, tt_and, ff_and, nt_t, nt_f, len1, len3, len5, len8, len10, hlen1, clen1, clen5]
    rw [e2]
    dsimp only [callT_ret, callT_pan, onlyPV_v, Option.bind_some, pBool_v, pTup_v, pAgg_v, aggOf_v, pSl_v, pInt_v, pI64, pU64, pU32, pU8, List.getElem?_cons_zero, List.getElem?_cons_succ, cells_v, cells_sl, cells_agg, isCell_v, isCell_sl, cnd_t, cnd_f, tt_and, ff_and, nt_t, nt_f, len1, len3, len5, len8, len10, hlen1, clen1, clen5]
    rw [e3]
    dsimp only [callT_ret, callT_pan, onlyPV_v, Option.bind_some, pBool_v, pTup_v, pAgg_v, aggOf_v, pSl_v, pInt_v, pI64, pU64, pU32, pU8, List.getElem?_cons_zero, List.getElem?_cons_succ, cells_v, cells_sl, cells_agg, isCell_v, isCell_sl, cnd_t, cnd_f, tt_and, ff_and, nt_t, nt_f, len1, len3, len5, len8, len10, hlen1, clen1, clen5]
    cases hfi : f i with
    | true =>
      dsimp only [callT_ret, callT_pan, onlyPV_v, Option.bind_some, pBool_v, pTup_v, pAgg_v, aggOf_v, pSl_v, pInt_v, pI64, pU64, pU32, pU8, List.getElem?_cons_zero, List.getElem?_cons_succ, cells_v, cells_sl, cells_agg, isCell_v, isCell_sl, cnd_t, cnd_f, tt_and, ff_and, nt_t, nt_f, len1, len3, len5, len8, len10, hlen1, clen1, clen5]
      rw [w64 (x := (i : Int) + 1) (by omega)]
      exact ih (i + 1) (by omega) fun j h => by
        rcases Nat.lt_or_ge j i with h1 | h1
        · exact hj j h1
        · rw [show j = i by omega]; exact hfi
    | false =>
      rw [show (List.range q).all f = false from by
        rw [Bool.eq_false_iff]
        intro h
        have := List.all_eq_true.1 h i (List.mem_range.2 (by omega))
        rw [hfi] at this; cases this]
      rfl
/-- The kids of a list. -/
theorem list_kids {l : List (List Int)} {D : Nat} {m : Int} {o : Ob} (h6 : ¬ o.elem < 6) (h : (denL (den l D) l m o).2.2 = 0) : ∃ ks, (denL (den l D) l m o).1 = .mk 2 o.elem o.n [] ks ∧ ks.length = o.n.toNat ∧ ∀ (j : Nat) (hj : j < ks.length), ∃ m1, (if o.elem = 6 then den l D m1 o.seg (o.at_ + j) else strct (den l D) l m1 (elt o j)).2.2 = 0 ∧ (if o.elem = 6 then den l D m1 o.seg (o.at_ + j) else strct (den l D) l m1 (elt o j)).1 = ks[j] := by
  unfold denL at h ⊢
  rw [if_neg h6] at h ⊢
  have hz : (kidsF (fun m (i : Nat) => if o.elem = 6 then den l D m o.seg (o.at_ + i) else strct (den l D) l m (elt o i)) o.n.toNat 0 m []).2.2 = 0 := h
  obtain ⟨ks, e1, e2, e3⟩ := kids_nth (G := fun m (i : Nat) => if o.elem = 6 then den l D m o.seg (o.at_ + i) else strct (den l D) l m (elt o i)) o.n.toNat 0 m [] hz
  refine ⟨ks, ?_, e2, fun j hj => ?_⟩
  · rw [wrapK_ok0 hz]
    dsimp only
    rw [e1, List.nil_append]
  · have := e3 j hj
    rw [Nat.zero_add] at this
    exact this
theorem trim_list {k e n : Int} (hk : k = 2) (d : List Int) (ks : List Nd) : trimN (.mk k e n d ks) = .mk k e n d (ks.map trimN) := by
  rw [trimN, if_neg (by omega), trimNs_eq]
theorem get_ext {a b : List Nd} {q : Nat} (ha : a.length = q) (hb : b.length = q) : a = b ↔ ∀ i, i < q → a.getD i nd0 = b.getD i nd0 := by
  constructor
  · intro h i _; rw [h]
  · intro h
    apply List.ext_getElem (by omega)
    intro i h1 h2
    have := h i (by omega)
    simp only [List.getD_eq_getElem?_getD, List.getElem?_eq_getElem h1, List.getElem?_eq_getElem h2, Option.getD_some] at this
    exact this
end Go.Proofs.YtdkmbkdgojiebaaDoor.E

set_option linter.unusedVariables false
set_option linter.unusedSimpArgs false
namespace Go.Proofs.YtdkmbkdgojiebaaDoor.E
/-! Messages compared; the laws of chapter 17. -/
theorem trimN_n (x : Nd) : (trimN x).n = x.n := by
  cases x with
  | mk k e n d ks => rw [trimN]; split <;> rfl
theorem pts_list {o : Ob} (hk : o.kind = 2) (h7 : o.elem = 6) : (0 < o.n → ptsA o = o.at_ ∧ ptsN o = o.n) ∧ (ptsA o = o.at_ ∨ ptsA o = 0) := by
  have hA : ptsA o = if 0 < o.n then o.at_ else 0 := by
    unfold ptsA
    rw [if_neg (fun x => absurd x.1 (by omega))]
    by_cases h : 0 < o.n
    · rw [if_pos ⟨hk, h7, h⟩, if_pos h]
    · rw [if_neg (fun x => h x.2.2), if_neg h]
  have hN : ptsN o = if 0 < o.n then o.n else 0 := by
    unfold ptsN
    rw [if_neg (fun x => absurd x.1 (by omega))]
    by_cases h : 0 < o.n
    · rw [if_pos ⟨hk, h7, h⟩, if_pos h]
    · rw [if_neg (fun x => h x.2.2), if_neg h]
  rw [hA, hN]
  by_cases h : 0 < o.n
  · rw [if_pos h, if_pos h]; exact ⟨fun _ => ⟨rfl, rfl⟩, .inl rfl⟩
  · rw [if_neg h]; exact ⟨fun h' => absurd h' h, .inr rfl⟩
theorem same_ok {la lb : List (List Int)} (hla : Segs la) (hsa : Sm la) (hlb : Segs lb) (hsb : Sm lb) : ∀ D, SameOk la lb D := by
  have main : ∀ D, (∀ D', D = D' + 1 → SameOk la lb D') → SameOk la lb D := by
    intro D ih x y nx ny dx dy
    obtain ⟨a1, a2, a3⟩ := dn_head dx
    obtain ⟨b1, b2, b3⟩ := dn_head dy
    rw [Ob.c, Ob.c, equal_pair_same_eq]
    by_cases hk : x.kind = y.kind
    · by_cases he : x.elem = y.elem
      · by_cases hn : x.n = y.n
        · rw [show (x.kind != y.kind) = false from by simpa using hk, show (x.elem != y.elem) = false from by simpa using he, show (x.n != y.n) = false from by simpa using hn]
          dsimp only [callT_ret, callT_pan, onlyPV_v, Option.bind_some, pBool_v, pTup_v, pAgg_v, aggOf_v, pSl_v, pInt_v, pI64, pU64, pU32, pU8, List.getElem?_cons_zero, List.getElem?_cons_succ, cells_v, cells_sl, cells_agg, isCell_v, isCell_sl, cnd_t, cnd_f, tt_and, ff_and, nt_t, nt_f, len1, len3, len5, len8, len10, hlen1, clen1, clen5]
          by_cases h0 : x.kind = 0
          · rw [beq_iff_eq.2 h0]
            have nul : ∀ {l : List (List Int)} {o : Ob} {n : Nd}, Dn l D o n → o.kind = 0 → n = nd0 := fun {l o n} h hk0 => by
              rcases h with ⟨_, h⟩ | ⟨D', _, hok, _⟩
              · exact h
              · obtain ⟨_, _, _, _, _, _, hkk, _⟩ := hok; omega
            rw [nul dx h0, nul dy (by omega), eqB_t rfl]
            rfl
          · rw [beq_eq_false_iff_ne.2 h0]
            rcases dx with ⟨rfl, _⟩ | ⟨D', hD, okx, npx, _, m, zx, rfl⟩
            · exact absurd rfl h0
            rcases dy with ⟨rfl, _⟩ | ⟨D'', hD', oky, npy, _, m', zy, rfl⟩
            · exact absurd hk h0
            obtain rfl : D' = D'' := by omega
            have ih' := ih D' hD
            obtain ⟨hat, hdt, hq, hel, hnn, hc, hkk, hw, hz⟩ := id okx
            obtain ⟨hat', hdt', hq', hel', hnn', hc', hkk', hw', hz'⟩ := id oky
            unfold denOb at zx zy ⊢
            dsimp only [callT_ret, callT_pan, onlyPV_v, Option.bind_some, pBool_v, pTup_v, pAgg_v, aggOf_v, pSl_v, pInt_v, pI64, pU64, pU32, pU8, List.getElem?_cons_zero, List.getElem?_cons_succ, cells_v, cells_sl, cells_agg, isCell_v, isCell_sl, cnd_t, cnd_f, tt_and, ff_and, nt_t, nt_f, len1, len3, len5, len8, len10, hlen1, clen1, clen5]
            by_cases h1 : x.kind = 1
            · rw [beq_iff_eq.2 h1]
              rw [if_pos h1] at zx ⊢
              rw [if_pos (show y.kind = 1 by omega)] at zy ⊢
              have := V_structs hla hsa hlb hsb ih' (x := x) (y := y) ⟨⟨hat.1, by omega⟩, hdt, hq⟩ ⟨⟨hat'.1, by omega⟩, hdt', hq'⟩ h1 (by omega) zx zy
              rw [Ob.c, Ob.c] at this
              dsimp only [callT_ret, callT_pan, onlyPV_v, Option.bind_some, pBool_v, pTup_v, pAgg_v, aggOf_v, pSl_v, pInt_v, pI64, pU64, pU32, pU8, List.getElem?_cons_zero, List.getElem?_cons_succ, cells_v, cells_sl, cells_agg, isCell_v, isCell_sl, cnd_t, cnd_f, tt_and, ff_and, nt_t, nt_f, len1, len3, len5, len8, len10, hlen1, clen1, clen5]
              rw [this]
              rfl
            · rw [beq_eq_false_iff_ne.2 h1]
              rw [if_neg h1] at zx ⊢
              rw [if_neg (show ¬ y.kind = 1 by omega)] at zy ⊢
              dsimp only [callT_ret, callT_pan, onlyPV_v, Option.bind_some, pBool_v, pTup_v, pAgg_v, aggOf_v, pSl_v, pInt_v, pI64, pU64, pU32, pU8, List.getElem?_cons_zero, List.getElem?_cons_succ, cells_v, cells_sl, cells_agg, isCell_v, isCell_sl, cnd_t, cnd_f, tt_and, ff_and, nt_t, nt_f, len1, len3, len5, len8, len10, hlen1, clen1, clen5]
              by_cases h6 : x.elem < 6
              · rw [beq_eq_false_iff_ne.2 (show x.elem ≠ 7 by omega), beq_eq_false_iff_ne.2 (show x.elem ≠ 6 by omega)]
                dsimp only [callT_ret, callT_pan, onlyPV_v, Option.bind_some, pBool_v, pTup_v, pAgg_v, aggOf_v, pSl_v, pInt_v, pI64, pU64, pU32, pU8, List.getElem?_cons_zero, List.getElem?_cons_succ, cells_v, cells_sl, cells_agg, isCell_v, isCell_sl, cnd_t, cnd_f, tt_and, ff_and, nt_t, nt_f, len1, len3, len5, len8, len10, hlen1, clen1, clen5]
                have h6' : y.elem < 6 := by omega
                unfold denL
                rw [if_pos h6, if_pos h6']
                dsimp only
                have wx := V_wordsO hla x (n := x.cost) (by omega)
                have wy := V_wordsO hlb y (n := y.cost) (by omega)
                have lx := cutB_len la x.seg x.at_ x.cost
                have ly := cutB_len lb y.seg y.at_ y.cost
                have rx := bytes_room hnn (hw (by omega) h6) h6
                have ry := bytes_room hnn' (hw' (by omega) h6') h6'
                rw [trim_list rfl, trim_list rfl]
                rw [Ob.c] at wx wy
                rw [equal_pair_plain_eq, wx]
                dsimp only [callT_ret, callT_pan, onlyPV_v, Option.bind_some, pBool_v, pTup_v, pAgg_v, aggOf_v, pSl_v, pInt_v, pI64, pU64, pU32, pU8, List.getElem?_cons_zero, List.getElem?_cons_succ, cells_v, cells_sl, cells_agg, isCell_v, isCell_sl, cnd_t, cnd_f, tt_and, ff_and, nt_t, nt_f, len1, len3, len5, len8, len10, hlen1, clen1, clen5]
                rw [V_Bytes _ (by omega)]
                dsimp only [callT_ret, callT_pan, onlyPV_v, Option.bind_some, pBool_v, pTup_v, pAgg_v, aggOf_v, pSl_v, pInt_v, pI64, pU64, pU32, pU8, List.getElem?_cons_zero, List.getElem?_cons_succ, cells_v, cells_sl, cells_agg, isCell_v, isCell_sl, cnd_t, cnd_f, tt_and, ff_and, nt_t, nt_f, len1, len3, len5, len8, len10, hlen1, clen1, clen5]
                rw [V_Trim hel hnn (byt_byte _) rx]
                dsimp only [callT_ret, callT_pan, onlyPV_v, Option.bind_some, pBool_v, pTup_v, pAgg_v, aggOf_v, pSl_v, pInt_v, pI64, pU64, pU32, pU8, List.getElem?_cons_zero, List.getElem?_cons_succ, cells_v, cells_sl, cells_agg, isCell_v, isCell_sl, cnd_t, cnd_f, tt_and, ff_and, nt_t, nt_f, len1, len3, len5, len8, len10, hlen1, clen1, clen5]
                rw [wy]
                dsimp only [callT_ret, callT_pan, onlyPV_v, Option.bind_some, pBool_v, pTup_v, pAgg_v, aggOf_v, pSl_v, pInt_v, pI64, pU64, pU32, pU8, List.getElem?_cons_zero, List.getElem?_cons_succ, cells_v, cells_sl, cells_agg, isCell_v, isCell_sl, cnd_t, cnd_f, tt_and, ff_and, nt_t, nt_f, len1, len3, len5, len8, len10, hlen1, clen1, clen5]
                rw [V_Bytes _ (by omega)]
                dsimp only [callT_ret, callT_pan, onlyPV_v, Option.bind_some, pBool_v, pTup_v, pAgg_v, aggOf_v, pSl_v, pInt_v, pI64, pU64, pU32, pU8, List.getElem?_cons_zero, List.getElem?_cons_succ, cells_v, cells_sl, cells_agg, isCell_v, isCell_sl, cnd_t, cnd_f, tt_and, ff_and, nt_t, nt_f, len1, len3, len5, len8, len10, hlen1, clen1, clen5]
                rw [V_Trim hel' hnn' (byt_byte _) ry]
                dsimp only [callT_ret, callT_pan, onlyPV_v, Option.bind_some, pBool_v, pTup_v, pAgg_v, aggOf_v, pSl_v, pInt_v, pI64, pU64, pU32, pU8, List.getElem?_cons_zero, List.getElem?_cons_succ, cells_v, cells_sl, cells_agg, isCell_v, isCell_sl, cnd_t, cnd_f, tt_and, ff_and, nt_t, nt_f, len1, len3, len5, len8, len10, hlen1, clen1, clen5]
                rw [V_bytesEq (trimB_byte _ _ _ (byt_byte _)) (trimB_byte _ _ _ (byt_byte _))]
                dsimp only [callT_ret, callT_pan, onlyPV_v, Option.bind_some, pBool_v, pTup_v, pAgg_v, aggOf_v, pSl_v, pInt_v, pI64, pU64, pU32, pU8, List.getElem?_cons_zero, List.getElem?_cons_succ, cells_v, cells_sl, cells_agg, isCell_v, isCell_sl, cnd_t, cnd_f, tt_and, ff_and, nt_t, nt_f, len1, len3, len5, len8, len10, hlen1, clen1, clen5]
                refine congrArg (fun b => ok (Bo b)) (eqB_iff ?_)
                rw [he, hn]
                simp
              · obtain ⟨cx, e1, e2, e3⟩ := list_kids h6 zx
                obtain ⟨cy, f1, f2, f3⟩ := list_kids (show ¬ y.elem < 6 by omega) zy
                rw [e1, f1, trim_list rfl, trim_list rfl]
                have hlen : cx.length = cy.length := by omega
                have hxn : x.n = ((cx.length : Nat) : Int) := by omega
                have fin : eqB (cx.map trimN) (cy.map trimN) = eqB (Nd.mk 2 x.elem x.n [] (cx.map trimN)) (Nd.mk 2 y.elem y.n [] (cy.map trimN)) := eqB_iff (by rw [he, hn]; simp)
                have getx : ∀ i, (h : i < cx.length) → cx.getD i nd0 = cx[i] := fun i h => by rw [List.getD_eq_getElem?_getD, List.getElem?_eq_getElem h, Option.getD_some]
                have gety : ∀ i, (h : i < cy.length) → cy.getD i nd0 = cy[i] := fun i h => by rw [List.getD_eq_getElem?_getD, List.getElem?_eq_getElem h, Option.getD_some]
                have res : ∀ {e : Option (Out × Heap)}, e = ok (Bo ((List.range cx.length).all fun i => eqB (trimN (cx.getD i nd0)) (trimN (cy.getD i nd0)))) → e = ok (Bo (eqB (cx.map trimN) (cy.map trimN))) := fun {e} h => by
                  rw [h]
                  refine congrArg (fun b => ok (Bo b)) (bo_eq ?_)
                  rw [all_get, eqB_true, get_ext (q := cx.length) (by simp) (by simp; omega)]
                rw [← fin]
                by_cases h7 : x.elem = 7
                · rw [beq_iff_eq.2 h7]
                  dsimp only [callT_ret, callT_pan, onlyPV_v, Option.bind_some, pBool_v, pTup_v, pAgg_v, aggOf_v, pSl_v, pInt_v, pI64, pU64, pU32, pU8, List.getElem?_cons_zero, List.getElem?_cons_succ, cells_v, cells_sl, cells_agg, isCell_v, isCell_sl, cnd_t, cnd_f, tt_and, ff_and, nt_t, nt_f, len1, len3, len5, len8, len10, hlen1, clen1, clen5]
                  have mul : ∀ (o : Ob) (i : Nat), ObOk la o ∨ ObOk lb o → i < cx.length → 0 ≤ (i : Int) * (o.data + o.ptrs) ∧ (i : Int) * (o.data + o.ptrs) ≤ 536870911 * 131070 := fun o i ho hi => by
                    have hd : 0 ≤ o.data ∧ o.data ≤ 65535 ∧ 0 ≤ o.ptrs ∧ o.ptrs ≤ 65535 := by
                      rcases ho with ho | ho
                      · obtain ⟨_, d, q, _⟩ := ho; omega
                      · obtain ⟨_, d, q, _⟩ := ho; omega
                    exact size_small (by omega) (by omega)
                  have lp := cmps_loop (la := la) (lb := lb) (x := x) (y := y) (q := cx.length) (by omega) (fun i => eqB (trimN (cx.getD i nd0)) (trimN (cy.getD i nd0))) (fun i hi => by have := mul x i (.inl okx) hi; exact V_Element x i (by omega) (by omega) (by omega)) (fun i hi => by have := mul y i (.inr oky) hi; exact V_Element y i (by omega) (by omega) (by omega)) (fun i hi => by
                    obtain ⟨m1, g1, g2⟩ := e3 i hi
                    obtain ⟨m2, k1, k2⟩ := f3 i (by omega)
                    rw [if_neg (by omega)] at g1 g2
                    rw [if_neg (by omega)] at k1 k2
                    have mx := mul x i (.inl okx) hi
                    have my := mul y i (.inr oky) hi
                    have := V_structs hla hsa hlb hsb ih' (x := elt x i) (y := elt y i) ⟨⟨by dsimp only [elt]; omega, by dsimp only [elt]; omega⟩, hdt, hq⟩ ⟨⟨by dsimp only [elt]; omega, by dsimp only [elt]; omega⟩, hdt', hq'⟩ rfl rfl g1 k1
                    rw [g2, k2] at this
                    rw [getx i hi, gety i (by omega)]
                    exact this) cx.length 0 (by omega) (fun j h => absurd h (by omega))
                  rw [equal_pair_composites_eq]
                  conv => lhs; rw [show equal_pair_composites_L0 x.n 0 = equal_pair_composites_L0 ((cx.length : Nat) : Int) ((0 : Nat) : Int) from by rw [hxn]; rfl]
                  rw [lp]
                  exact res rfl
                · have h66 : x.elem = 6 := by omega
                  rw [beq_eq_false_iff_ne.2 h7, beq_iff_eq.2 h66]
                  dsimp only [callT_ret, callT_pan, onlyPV_v, Option.bind_some, pBool_v, pTup_v, pAgg_v, aggOf_v, pSl_v, pInt_v, pI64, pU64, pU32, pU8, List.getElem?_cons_zero, List.getElem?_cons_succ, cells_v, cells_sl, cells_agg, isCell_v, isCell_sl, cnd_t, cnd_f, tt_and, ff_and, nt_t, nt_f, len1, len3, len5, len8, len10, hlen1, clen1, clen5]
                  have hAx : ∀ (o : Ob), o.kind = 2 → o.elem = 6 → (0 < o.n → ptsA o = o.at_ ∧ ptsN o = o.n) ∧ (ptsA o = o.at_ ∨ ptsA o = 0) := fun o k e => pts_list k e
                  have kx2 : x.kind = 2 := by omega
                  have ky2 : y.kind = 2 := by omega
                  obtain ⟨pa, pb⟩ := hAx x kx2 h66
                  obtain ⟨qa, qb⟩ := hAx y ky2 (by omega)
                  have lp := V_pts (D := D') hla hsa hlb hsb ih' (x := x) (y := y) ⟨hat.1, by omega⟩ hdt (by omega) ⟨hat'.1, by omega⟩ hdt' (by omega) (q := cx.length) (by omega) (kx := cx) (ky := cy) (fun i hi => by
                    obtain ⟨m1, g1, g2⟩ := e3 i hi
                    rw [if_pos h66] at g1 g2
                    obtain ⟨p1, p2⟩ := pa (by omega)
                    rw [getx i hi, ← g2]
                    unfold obAt
                    rw [p1, p2, if_neg (by omega)]
                    exact den_dn hla hsa g1) (fun i hi => by
                    obtain ⟨m1, g1, g2⟩ := f3 i (by omega)
                    rw [if_pos (show y.elem = 6 by omega)] at g1 g2
                    obtain ⟨p1, p2⟩ := qa (by omega)
                    rw [gety i (by omega), ← g2]
                    unfold obAt
                    rw [p1, p2, if_neg (by omega)]
                    exact den_dn hlb hsb g1)
                  rw [← hxn, Ob.c, Ob.c] at lp
                  rw [lp]
                  exact res rfl
        · rw [show (x.kind != y.kind) = false from by simpa using hk, show (x.elem != y.elem) = false from by simpa using he, show (x.n != y.n) = true from by simpa using hn, eqB_f (fun h => hn (by have := congrArg Nd.n h; rw [trimN_n, trimN_n] at this; omega))]
          rfl
      · rw [show (x.kind != y.kind) = false from by simpa using hk, show (x.elem != y.elem) = true from by simpa using he, eqB_f (fun h => he (by have := congrArg Nd.elem h; rw [trimN_elem, trimN_elem] at this; omega))]
        rfl
    · rw [show (x.kind != y.kind) = true from by simpa using hk, eqB_f (fun h => hk (by have := congrArg Nd.kind h; rw [trimN_kind, trimN_kind] at this; omega))]
      rfl
  intro D
  induction D with
  | zero => exact main 0 fun D' h => absurd h (by omega)
  | succ D ih => exact main (D + 1) fun D' h => by rw [show D' = D by omega]; exact ih
end Go.Proofs.YtdkmbkdgojiebaaDoor.E

set_option linter.unusedVariables false
set_option linter.unusedSimpArgs false
namespace Go.Proofs.YtdkmbkdgojiebaaDoor.E
/-! Messages compared; the laws of chapter 17. -/
def rootO (l : List (List Int)) : Ob := if (rdL l 0).length = 0 then ob0 else (obj l 0 0).1
theorem V_root {l : List (List Int)} (hl : Segs l) (hs : Sm l) (h0 : 0 < l.length) : ev 54 [.pv (.sl 1 (sgs l))] [] = ok (.agg (rootO l).c) := by
  rw [equal_root_eq, decide_eq_true (show 0 < ((sgs l).length : Int) by rw [sgs_len]; omega), sgs0 h0]
  dsimp only [callT_ret, callT_pan, onlyPV_v, Option.bind_some, pBool_v, pTup_v, pAgg_v, aggOf_v, pSl_v, pInt_v, pI64, pU64, pU32, pU8, List.getElem?_cons_zero, List.getElem?_cons_succ, cells_v, cells_sl, cells_agg, isCell_v, isCell_sl, cnd_t, cnd_f, tt_and, ff_and, nt_t, nt_f, len1, len3, len5, len8, len10, hlen1, clen1, clen5]
  unfold rootO
  by_cases he : (rdL l 0).length = 0
  · rw [ws_len, he, if_pos rfl]; rfl
  · rw [ws_len, beq_eq_false_iff_ne.2 (show ((rdL l 0).length : Int) ≠ 0 by omega), if_neg he, V_Object hl hs]
    rfl
theorem root_dn {l : List (List Int)} (hl : Segs l) (hs : Sm l) {d w : Int} (h : (runT l d w).2.2 = 0) : 0 < l.length ∧ Dn l d.toNat (rootO l) (runT l d w).1 := by
  by_cases he : emp l
  · refine ⟨he.1, ?_⟩
    rw [runT, if_pos he]
    exact .inl ⟨by unfold rootO; rw [if_pos he.2], rfl⟩
  · have e1 : runT l d w = den l d.toNat (max w 0) 0 0 := by rw [runT, if_neg he]
    rw [e1] at h ⊢
    have hpos : 0 < l.length := by
      by_cases h0 : 0 < l.length
      · exact h0
      · exfalso
        have hf : (fol l 0 0).2.2.2 = 2 := by
          unfold fol
          rw [if_neg (by unfold inB; omega)]
        rw [den_err (by rw [hf]; decide), hf] at h
        exact absurd h (by show ¬ ((2 : Int) = 0); decide)
    refine ⟨hpos, ?_⟩
    unfold rootO
    rw [if_neg (fun h' => he ⟨hpos, h'⟩)]
    exact den_dn hl hs h
def cE (la lb : List (List Int)) (d w : Int) : Int := if msgE la d w = 0 then msgE lb d w else msgE la d w
noncomputable def cB (la lb : List (List Int)) (d w : Int) : Bool := if cE la lb d w = 0 then eqB (msgN la d w) (msgN lb d w) else false
theorem V_cmp {la lb : List (List Int)} (hla : Segs la) (hsa : Sm la) (hlb : Segs lb) (hsb : Sm lb) {d w b : Int} (hd : d ≤ 1099511627775) (hw : w ≤ 4611686018427387904) : ev 27 [.pv (.sl 1 (sgs la)), .pv (.sl 1 (sgs lb)), .pv (.agg [I d, I w, I b])] [] = ok (.tup [Bo (cB la lb d w), I (cE la lb d w)]) := by
  rw [equal_Messages_eq, equal_Messages_L0_eq, show decide ((0 : Int) < 2) = true from rfl, show (decide ((0 : Int) ≤ 0) && decide ((0 : Int) < (([.sl 1 (sgs la), .sl 1 (sgs lb)] : List PV).length : Int))) = true from rfl, show ([.sl 1 (sgs la), .sl 1 (sgs lb)] : List PV)[(0 : Int).toNat]? = some (.sl 1 (sgs la)) from rfl]
  dsimp only [callT_ret, callT_pan, onlyPV_v, Option.bind_some, pBool_v, pTup_v, pAgg_v, aggOf_v, pSl_v, pInt_v, pI64, pU64, pU32, pU8, List.getElem?_cons_zero, List.getElem?_cons_succ, cells_v, cells_sl, cells_agg, isCell_v, isCell_sl, cnd_t, cnd_f, tt_and, ff_and, nt_t, nt_f, len1, len3, len5, len8, len10, hlen1, clen1, clen5]
  rw [V_Measure hla hsa hd hw]
  dsimp only [callT_ret, callT_pan, onlyPV_v, Option.bind_some, pBool_v, pTup_v, pAgg_v, aggOf_v, pSl_v, pInt_v, pI64, pU64, pU32, pU8, List.getElem?_cons_zero, List.getElem?_cons_succ, cells_v, cells_sl, cells_agg, isCell_v, isCell_sl, cnd_t, cnd_f, tt_and, ff_and, nt_t, nt_f, len1, len3, len5, len8, len10, hlen1, clen1, clen5]
  unfold cB cE
  by_cases ha : msgE la d w = 0
  · rw [ha, show ((0 : Int) != 0) = false from rfl, if_pos rfl]
    dsimp only [callT_ret, callT_pan, onlyPV_v, Option.bind_some, pBool_v, pTup_v, pAgg_v, aggOf_v, pSl_v, pInt_v, pI64, pU64, pU32, pU8, List.getElem?_cons_zero, List.getElem?_cons_succ, cells_v, cells_sl, cells_agg, isCell_v, isCell_sl, cnd_t, cnd_f, tt_and, ff_and, nt_t, nt_f, len1, len3, len5, len8, len10, hlen1, clen1, clen5]
    rw [show IntKind.wrap .i64 (0 + 1) = 1 from rfl, equal_Messages_L0v1_eq, show decide ((1 : Int) < 2) = true from rfl, show (decide ((0 : Int) ≤ 1) && decide ((1 : Int) < (([.sl 1 (sgs la), .sl 1 (sgs lb)] : List PV).length : Int))) = true from rfl, show ([.sl 1 (sgs la), .sl 1 (sgs lb)] : List PV)[(1 : Int).toNat]? = some (.sl 1 (sgs lb)) from rfl]
    dsimp only [callT_ret, callT_pan, onlyPV_v, Option.bind_some, pBool_v, pTup_v, pAgg_v, aggOf_v, pSl_v, pInt_v, pI64, pU64, pU32, pU8, List.getElem?_cons_zero, List.getElem?_cons_succ, cells_v, cells_sl, cells_agg, isCell_v, isCell_sl, cnd_t, cnd_f, tt_and, ff_and, nt_t, nt_f, len1, len3, len5, len8, len10, hlen1, clen1, clen5]
    rw [V_Measure hlb hsb hd hw]
    dsimp only [callT_ret, callT_pan, onlyPV_v, Option.bind_some, pBool_v, pTup_v, pAgg_v, aggOf_v, pSl_v, pInt_v, pI64, pU64, pU32, pU8, List.getElem?_cons_zero, List.getElem?_cons_succ, cells_v, cells_sl, cells_agg, isCell_v, isCell_sl, cnd_t, cnd_f, tt_and, ff_and, nt_t, nt_f, len1, len3, len5, len8, len10, hlen1, clen1, clen5]
    by_cases hb : msgE lb d w = 0
    · obtain ⟨pa, da⟩ := root_dn hla hsa ha
      obtain ⟨pb, db⟩ := root_dn hlb hsb hb
      rw [hb, show ((0 : Int) != 0) = false from rfl, if_pos rfl]
      dsimp only [callT_ret, callT_pan, onlyPV_v, Option.bind_some, pBool_v, pTup_v, pAgg_v, aggOf_v, pSl_v, pInt_v, pI64, pU64, pU32, pU8, List.getElem?_cons_zero, List.getElem?_cons_succ, cells_v, cells_sl, cells_agg, isCell_v, isCell_sl, cnd_t, cnd_f, tt_and, ff_and, nt_t, nt_f, len1, len3, len5, len8, len10, hlen1, clen1, clen5]
      rw [show IntKind.wrap .i64 (1 + 1) = 2 from rfl, equal_Messages_L0v1_eq, show decide ((2 : Int) < 2) = false from rfl, V_root hla hsa pa]
      dsimp only [callT_ret, callT_pan, onlyPV_v, Option.bind_some, pBool_v, pTup_v, pAgg_v, aggOf_v, pSl_v, pInt_v, pI64, pU64, pU32, pU8, List.getElem?_cons_zero, List.getElem?_cons_succ, cells_v, cells_sl, cells_agg, isCell_v, isCell_sl, cnd_t, cnd_f, tt_and, ff_and, nt_t, nt_f, len1, len3, len5, len8, len10, hlen1, clen1, clen5]
      rw [V_root hlb hsb pb]
      dsimp only [callT_ret, callT_pan, onlyPV_v, Option.bind_some, pBool_v, pTup_v, pAgg_v, aggOf_v, pSl_v, pInt_v, pI64, pU64, pU32, pU8, List.getElem?_cons_zero, List.getElem?_cons_succ, cells_v, cells_sl, cells_agg, isCell_v, isCell_sl, cnd_t, cnd_f, tt_and, ff_and, nt_t, nt_f, len1, len3, len5, len8, len10, hlen1, clen1, clen5]
      have hs := same_ok hla hsa hlb hsb d.toNat _ _ _ _ da db
      rw [hs, msgN, msgN, if_pos (show (runT la d w).2.2 = 0 from ha), if_pos (show (runT lb d w).2.2 = 0 from hb)]
      rfl
    · rw [bne_t hb, if_neg hb]
      rfl
  · rw [bne_t ha, if_neg ha, if_neg ha]
    rfl
theorem V_rcmp {la lb : List (List Int)} (hla : Segs la) (hsa : Sm la) (hlb : Segs lb) (hsb : Sm lb) {d w b : Int} (hd : d ≤ 1099511627775) (hw : w ≤ 4611686018427387904) : ev 28 [.pv (.sl 1 (sgs la)), .pv (.sl 1 (sgs lb)), .pv (.agg [I d, I w, I b])] [] = ok (.tup [Bo (cB la lb d w), I (cE la lb d w)]) := by
  have q := V_EqualB (msgN_ok hla hsa (d := d) hw) (msgN_ok hlb hsb (d := d) hw)
  rw [capnpref17_Messages_eq, V_rMessage hla hsa hd hw]
  dsimp only [Nd.x, ↓cl5, callT_ret, callT_pan, onlyPV_v, Option.bind_some, pBool_v, pTup_v, pAgg_v, aggOf_v, pSl_v, pInt_v, pI64, pU64, pU32, pU8, List.getElem?_cons_zero, List.getElem?_cons_succ, cells_v, cells_sl, cells_agg, isCell_v, isCell_sl, cnd_t, cnd_f, tt_and, ff_and, nt_t, nt_f, len1, len3, len5, len8, len10, hlen1, clen1, clen5] at q ⊢
  unfold cB cE
  by_cases ha : msgE la d w = 0
  · rw [ha, show ((0 : Int) != 0) = false from rfl, if_pos rfl]
    dsimp only [↓cl5, callT_ret, callT_pan, onlyPV_v, Option.bind_some, pBool_v, pTup_v, pAgg_v, aggOf_v, pSl_v, pInt_v, pI64, pU64, pU32, pU8, List.getElem?_cons_zero, List.getElem?_cons_succ, cells_v, cells_sl, cells_agg, isCell_v, isCell_sl, cnd_t, cnd_f, tt_and, ff_and, nt_t, nt_f, len1, len3, len5, len8, len10, hlen1, clen1, clen5]
    rw [V_rMessage hlb hsb hd hw]
    dsimp only [Nd.x, ↓cl5, callT_ret, callT_pan, onlyPV_v, Option.bind_some, pBool_v, pTup_v, pAgg_v, aggOf_v, pSl_v, pInt_v, pI64, pU64, pU32, pU8, List.getElem?_cons_zero, List.getElem?_cons_succ, cells_v, cells_sl, cells_agg, isCell_v, isCell_sl, cnd_t, cnd_f, tt_and, ff_and, nt_t, nt_f, len1, len3, len5, len8, len10, hlen1, clen1, clen5]
    by_cases hb : msgE lb d w = 0
    · rw [hb, show ((0 : Int) != 0) = false from rfl, if_pos rfl]
      dsimp only [↓cl5, callT_ret, callT_pan, onlyPV_v, Option.bind_some, pBool_v, pTup_v, pAgg_v, aggOf_v, pSl_v, pInt_v, pI64, pU64, pU32, pU8, List.getElem?_cons_zero, List.getElem?_cons_succ, cells_v, cells_sl, cells_agg, isCell_v, isCell_sl, cnd_t, cnd_f, tt_and, ff_and, nt_t, nt_f, len1, len3, len5, len8, len10, hlen1, clen1, clen5]
      rw [q]
      rfl
    · rw [bne_t hb, if_neg hb]
      rfl
  · rw [bne_t ha, if_neg ha, if_neg ha]
    rfl
theorem cutZ_all {a b : List Int} (h : ∀ i, a.getD i 0 = b.getD i 0) : cutZ a = cutZ b := by
  rcases Nat.le_total a.length b.length with hl | hl
  · exact cutZ_of_get hl h
  · exact (cutZ_of_get hl fun i => (h i).symm).symm
theorem rdata_loop {a b : List Int} (ha : a.length ≤ 17592186044416) (hb : b.length ≤ 17592186044416) : ∀ (c i : Nat), i + c = max a.length b.length → (∀ j, j < i → a.getD j 0 = b.getD j 0) → capnpref17_Data_L0 (ws a) (ws b) i = ok (Bo (eqB (cutZ a) (cutZ b))) := by
  have gd : ∀ (l : List Int) (i : Nat) (h : i < l.length), l.getD i 0 = l[i] := fun l i h => by rw [List.getD_eq_getElem?_getD, List.getElem?_eq_getElem h, Option.getD_some]
  have gn : ∀ (l : List Int) (i : Nat) (h : l.length ≤ i), l.getD i 0 = 0 := fun l i h => by rw [List.getD_eq_getElem?_getD, List.getElem?_eq_none h]; rfl
  intro c
  induction c with
  | zero =>
    intro i hi ht
    rw [capnpref17_Data_L0_eq, ws_len, ws_len, decide_eq_false (show ¬ (i : Int) < (a.length : Int) by omega), decide_eq_false (show ¬ (i : Int) < (b.length : Int) by omega), eqB_t (cutZ_all fun j => by
      rcases Nat.lt_or_ge j i with h | h
      · exact ht j h
      · rw [gn a j (by omega), gn b j (by omega)])]
    rfl
  | succ c ih =>
    intro i hi ht
    have next : a.getD i 0 = b.getD i 0 → capnpref17_Data_L0 (ws a) (ws b) ((i : Int) + 1) = ok (Bo (eqB (cutZ a) (cutZ b))) := fun he => ih (i + 1) (by omega) fun j hj => by
      rcases Nat.lt_or_ge j i with h | h
      · exact ht j h
      · rw [show j = i by omega]; exact he
    have stop : a.getD i 0 ≠ b.getD i 0 → eqB (cutZ a) (cutZ b) = false := fun hne => eqB_f fun h => hne (cutZ_get h i)
    rw [capnpref17_Data_L0_eq, ws_len, ws_len, w64 (x := (i : Int) + 1) (by omega)]
    by_cases hia : i < a.length
    · rw [decide_eq_true (show (i : Int) < (a.length : Int) by omega), decide_eq_true (show 0 ≤ (i : Int) by omega), Int.toNat_natCast, ws_get hia]
      dsimp only [callT_ret, callT_pan, onlyPV_v, Option.bind_some, pBool_v, pTup_v, pAgg_v, aggOf_v, pSl_v, pInt_v, pI64, pU64, pU32, pU8, List.getElem?_cons_zero, List.getElem?_cons_succ, cells_v, cells_sl, cells_agg, isCell_v, isCell_sl, cnd_t, cnd_f, tt_and, ff_and, nt_t, nt_f, len1, len3, len5, len8, len10, hlen1, clen1, clen5]
      by_cases hib : i < b.length
      · rw [decide_eq_true (show (i : Int) < (b.length : Int) by omega), ws_get hib]
        dsimp only [callT_ret, callT_pan, onlyPV_v, Option.bind_some, pBool_v, pTup_v, pAgg_v, aggOf_v, pSl_v, pInt_v, pI64, pU64, pU32, pU8, List.getElem?_cons_zero, List.getElem?_cons_succ, cells_v, cells_sl, cells_agg, isCell_v, isCell_sl, cnd_t, cnd_f, tt_and, ff_and, nt_t, nt_f, len1, len3, len5, len8, len10, hlen1, clen1, clen5]
        by_cases he : a[i] = b[i]
        · rw [show (a[i] != b[i]) = false from by simpa using he]
          exact next (by rw [gd a i hia, gd b i hib, he])
        · rw [bne_iff_ne.2 he, stop (by rw [gd a i hia, gd b i hib]; exact he)]
          rfl
      · rw [decide_eq_false (show ¬ (i : Int) < (b.length : Int) by omega)]
        dsimp only [callT_ret, callT_pan, onlyPV_v, Option.bind_some, pBool_v, pTup_v, pAgg_v, aggOf_v, pSl_v, pInt_v, pI64, pU64, pU32, pU8, List.getElem?_cons_zero, List.getElem?_cons_succ, cells_v, cells_sl, cells_agg, isCell_v, isCell_sl, cnd_t, cnd_f, tt_and, ff_and, nt_t, nt_f, len1, len3, len5, len8, len10, hlen1, clen1, clen5]
        by_cases he : a[i] = 0
        · rw [show (a[i] != 0) = false from by simpa using he]
          exact next (by rw [gd a i hia, gn b i (by omega), he])
        · rw [bne_t he, stop (by rw [gd a i hia, gn b i (by omega)]; exact he)]
          rfl
    · have hib : i < b.length := by omega
      rw [decide_eq_false (show ¬ (i : Int) < (a.length : Int) by omega), decide_eq_true (show (i : Int) < (b.length : Int) by omega), decide_eq_true (show 0 ≤ (i : Int) by omega), Int.toNat_natCast, ws_get hib]
      dsimp only [callT_ret, callT_pan, onlyPV_v, Option.bind_some, pBool_v, pTup_v, pAgg_v, aggOf_v, pSl_v, pInt_v, pI64, pU64, pU32, pU8, List.getElem?_cons_zero, List.getElem?_cons_succ, cells_v, cells_sl, cells_agg, isCell_v, isCell_sl, cnd_t, cnd_f, tt_and, ff_and, nt_t, nt_f, len1, len3, len5, len8, len10, hlen1, clen1, clen5]
      by_cases he : b[i] = 0
      · rw [he, show ((0 : Int) != 0) = false from rfl]
        exact next (by rw [gn a i (by omega), gd b i hib, he])
      · rw [show ((0 : Int) != b[i]) = true from by simpa using fun h => he h.symm, stop (by rw [gn a i (by omega), gd b i hib]; exact fun h => he h.symm)]
        rfl
theorem V_rData {a b : List Int} (ha : a.length ≤ 17592186044416) (hb : b.length ≤ 17592186044416) : ev 30 [.pv (.sl 1 (ws a)), .pv (.sl 1 (ws b))] [] = ok (Bo (eqB (cutZ a) (cutZ b))) := by
  rw [capnpref17_Data_eq]
  exact rdata_loop ha hb (max a.length b.length) 0 (by omega) (fun j h => absurd h (by omega))
-- the fixed results
theorem some_segs {l : List (List Int)} (h : ∀ s ∈ l, s.length ≤ 300) (hw : ∀ s ∈ l, ∀ x ∈ s, Word x) (hn : l.length ≤ 20) : Segs l ∧ Sm l := by
  refine ⟨⟨by omega, fun s hs => ⟨by have := h s hs; omega, hw s hs⟩⟩, sm_of fun j hj => ?_⟩
  unfold rdL
  rw [Int.toNat_natCast, List.getD_eq_getElem?_getD, List.getElem?_eq_getElem hj]
  exact h _ (List.getElem_mem hj)
theorem g1 : Segs [[4294967292]] ∧ Sm [[4294967292]] := one_segs (by decide) (by intro x hx; simp at hx; unfold Word; omega)
theorem g2 : Segs [[4294967296, 0]] ∧ Sm [[4294967296, 0]] := one_segs (by decide) (by intro x hx; simp at hx; unfold Word; omega)
theorem g3 : Segs [[0]] ∧ Sm [[0]] := one_segs (by decide) (by intro x hx; simp at hx; unfold Word; omega)
theorem g4 : Segs [[3]] ∧ Sm [[3]] := one_segs (by decide) (by intro x hx; simp at hx; unfold Word; omega)
theorem g5 : Segs [[7]] ∧ Sm [[7]] := one_segs (by decide) (by intro x hx; simp at hx; unfold Word; omega)
theorem g6 : Segs [[4294967298], [4294967296, 5]] ∧ Sm [[4294967298], [4294967296, 5]] := some_segs (by intro s hs; simp at hs; rcases hs with rfl | rfl <;> decide) (by intro s hs x hx; simp at hs; unfold Word; rcases hs with rfl | rfl <;> (simp at hx; omega)) (by decide)
theorem g7 : Segs [[8589934596, 9, 5, 0]] ∧ Sm [[8589934596, 9, 5, 0]] := one_segs (by decide) (by intro x hx; simp at hx; unfold Word; omega)
theorem c_ok {la lb : List (List Int)} {d w : Int} {b : Bool} (h : cE la lb d w = 0) (hb : eqB (msgN la d w) (msgN lb d w) = b) : ok (.tup [Bo (cB la lb d w), I (cE la lb d w)]) = ok (.tup [Bo b, I 0]) := by rw [cB, if_pos h, h, hb]
theorem c_no {la lb : List (List Int)} {d w e : Int} (h : cE la lb d w = e) (he : e ≠ 0) : ok (.tup [Bo (cB la lb d w), I (cE la lb d w)]) = ok (.tup [Bo false, I e]) := by rw [cB, if_neg (by rw [h]; exact he), h]
theorem x1 : ev 27 [.pv (.sl 1 [.sl 1 [U 4294967292]]), .pv (.sl 1 [.sl 1 [U 4294967296, U 0]]), .pv (.agg [I 5, I 50, I 0])] [] = ok (.tup [Bo true, I 0]) := by
  have h := V_cmp g1.1 g1.2 g2.1 g2.2 (d := 5) (w := 50) (b := 0) (by decide) (by decide)
  exact h.trans (c_ok (by kernel_rfl) (eqB_t (by kernel_rfl)))
theorem x2 : ev 27 [.pv (.sl 1 [.sl 1 [U 4294967292]]), .pv (.sl 1 [.sl 1 [U 0]]), .pv (.agg [I 5, I 50, I 0])] [] = ok (.tup [Bo false, I 0]) := by
  have h := V_cmp g1.1 g1.2 g3.1 g3.2 (d := 5) (w := 50) (b := 0) (by decide) (by decide)
  have k1 : (msgN [[4294967292]] 5 50).kind = 1 := by kernel_rfl
  have k2 : (msgN [[0]] 5 50).kind = 0 := by kernel_rfl
  exact h.trans (c_ok (by kernel_rfl) (eqB_f (fun e => by rw [e, k2] at k1; exact absurd k1 (by decide))))
theorem x3 : ev 27 [.pv (.sl 1 [.sl 1 [U 0]]), .pv (.sl 1 [.sl 1 [U 3]]), .pv (.agg [I 5, I 50, I 0])] [] = ok (.tup [Bo false, I 6]) := by
  have h := V_cmp g3.1 g3.2 g4.1 g4.2 (d := 5) (w := 50) (b := 0) (by decide) (by decide)
  exact h.trans (c_no (by kernel_rfl) (by decide))
theorem x4 : ev 27 [.pv (.sl 1 [.sl 1 [U 7]]), .pv (.sl 1 [.sl 1 [U 3]]), .pv (.agg [I 5, I 50, I 0])] [] = ok (.tup [Bo false, I 4]) := by
  have h := V_cmp g5.1 g5.2 g4.1 g4.2 (d := 5) (w := 50) (b := 0) (by decide) (by decide)
  exact h.trans (c_no (by kernel_rfl) (by decide))
theorem x5 : ev 27 [.pv (.sl 1 [.sl 1 [U 4294967298], .sl 1 [U 4294967296, U 5]]), .pv (.sl 1 [.sl 1 [U 8589934596, U 9, U 5, U 0]]), .pv (.agg [I 5, I 50, I 0])] [] = ok (.tup [Bo true, I 0]) := by
  have h := V_cmp g6.1 g6.2 g7.1 g7.2 (d := 5) (w := 50) (b := 0) (by decide) (by decide)
  exact h.trans (c_ok (by kernel_rfl) (eqB_t (by kernel_rfl)))
theorem x6 : ev 29 [.pv (.sl 1 [U 5, U 0]), .pv (.sl 1 [U 5])] [] = ok (Bo true) := by
  have h := V_Data (a := [5, 0]) (b := [5]) (by decide) (by decide)
  exact h.trans (by rw [eqB_t (by kernel_rfl)])
theorem x7 : ev 29 [.pv (.sl 1 [U 5, U 1]), .pv (.sl 1 [U 5])] [] = ok (Bo false) := by
  have h := V_Data (a := [5, 1]) (b := [5]) (by decide) (by decide)
  exact h.trans (by rw [eqB_f (by decide)])
theorem x8 : ev 29 [.pv (.sl 1 []), .pv (.sl 1 [U 0])] [] = ok (Bo true) := by
  have h := V_Data (a := []) (b := [0]) (by decide) (by decide)
  exact h.trans (by rw [eqB_t (by kernel_rfl)])
end Go.Proofs.YtdkmbkdgojiebaaDoor.E

set_option linter.unusedVariables false
set_option linter.unusedSimpArgs false
namespace Go.Proofs.YtdkmbkdgojiebaaDoor.E
/-! Layer 17: its fixed results. -/
theorem V_awake17 : ev 26 [] [] = ok (Bo true) := by
  rw [capnplaw17_awake_eq, x1, x2, x3, x4, x5, x6, x7, x8]
  rfl
end Go.Proofs.YtdkmbkdgojiebaaDoor.E

set_option linter.unusedVariables false
set_option linter.unusedSimpArgs false
namespace Go.Proofs.YtdkmbkdgojiebaaDoor.E
/-! The law EqualKeeps. -/
theorem samew_loop {d : List Int} (hd : d.length ≤ 17592186044416) : ∀ (c i : Nat), i + c = d.length → capnpref01_SameWords_L0 (ws d) (ws d) i = ok (Bo true) := by
  intro c
  induction c with
  | zero => intro i hi; rw [capnpref01_SameWords_L0_eq, decide_eq_false (by simp; omega)]; rfl
  | succ c ih =>
    intro i hi
    rw [capnpref01_SameWords_L0_eq, decide_eq_true (show (i : Int) < ((ws d).length : Int) by simp; omega), decide_eq_true (show 0 ≤ (i : Int) by omega)]
    dsimp only [callT_ret, callT_pan, onlyPV_v, Option.bind_some, pBool_v, pTup_v, pAgg_v, aggOf_v, pSl_v, pInt_v, pI64, pU64, pU32, pU8, List.getElem?_cons_zero, List.getElem?_cons_succ, cells_v, cells_sl, cells_agg, isCell_v, isCell_sl, cnd_t, cnd_f, tt_and, ff_and, nt_t, nt_f, len1, len3, len5, len8, len10, hlen1, clen1, clen5]
    rw [Int.toNat_natCast, ws_get (by omega)]
    dsimp only [callT_ret, callT_pan, onlyPV_v, Option.bind_some, pBool_v, pTup_v, pAgg_v, aggOf_v, pSl_v, pInt_v, pI64, pU64, pU32, pU8, List.getElem?_cons_zero, List.getElem?_cons_succ, cells_v, cells_sl, cells_agg, isCell_v, isCell_sl, cnd_t, cnd_f, tt_and, ff_and, nt_t, nt_f, len1, len3, len5, len8, len10, hlen1, clen1, clen5]
    rw [show (d[i] != d[i]) = false from by simp, w64 (x := (i : Int) + 1) (by omega)]
    exact ih (i + 1) (by omega)
theorem V_SameW {d : List Int} (hd : d.length ≤ 17592186044416) : ev 52 [.pv (.sl 1 (ws d)), .pv (.sl 1 (ws d))] [] = ok (Bo true) := by
  rw [capnpref01_SameWords_eq, show (((ws d).length : Int) != ((ws d).length : Int)) = false from by simp]
  exact samew_loop hd d.length 0 (by omega)
theorem same4_loop {l : List (List Int)} (hl : l.length ≤ 17592186044416) (hs : ∀ s ∈ l, s.length ≤ 17592186044416) : ∀ (c i : Nat), i + c = l.length → capnpref04_Same_L0 (sgs l) (sgs l) i = ok (Bo true) := by
  intro c
  induction c with
  | zero => intro i hi; rw [capnpref04_Same_L0_eq, decide_eq_false (by simp; omega)]; rfl
  | succ c ih =>
    intro i hi
    have hil : i < l.length := by omega
    rw [capnpref04_Same_L0_eq, decide_eq_true (show (i : Int) < ((sgs l).length : Int) by simp; omega), decide_eq_true (show 0 ≤ (i : Int) by omega)]
    dsimp only [callT_ret, callT_pan, onlyPV_v, Option.bind_some, pBool_v, pTup_v, pAgg_v, aggOf_v, pSl_v, pInt_v, pI64, pU64, pU32, pU8, List.getElem?_cons_zero, List.getElem?_cons_succ, cells_v, cells_sl, cells_agg, isCell_v, isCell_sl, cnd_t, cnd_f, tt_and, ff_and, nt_t, nt_f, len1, len3, len5, len8, len10, hlen1, clen1, clen5]
    rw [Int.toNat_natCast, sgs_get hil]
    dsimp only [callT_ret, callT_pan, onlyPV_v, Option.bind_some, pBool_v, pTup_v, pAgg_v, aggOf_v, pSl_v, pInt_v, pI64, pU64, pU32, pU8, List.getElem?_cons_zero, List.getElem?_cons_succ, cells_v, cells_sl, cells_agg, isCell_v, isCell_sl, cnd_t, cnd_f, tt_and, ff_and, nt_t, nt_f, len1, len3, len5, len8, len10, hlen1, clen1, clen5]
    rw [V_SameW (hs _ (List.getElem_mem hil)), w64 (x := (i : Int) + 1) (by omega)]
    exact ih (i + 1) (by omega)
theorem V_Same4 {l : List (List Int)} (hl : l.length ≤ 17592186044416) (hs : ∀ s ∈ l, s.length ≤ 17592186044416) : ev 25 [.pv (.sl 1 (sgs l)), .pv (.sl 1 (sgs l))] [] = ok (Bo true) := by
  rw [capnpref04_Same_eq, show (((sgs l).length : Int) != ((sgs l).length : Int)) = false from by simp]
  exact same4_loop hl hs l.length 0 (by omega)
theorem sgs_snoc (l : List (List Int)) (s : List Int) : sgs l ++ [.sl 1 (ws s)] = sgs (l ++ [s]) := by simp [sgs]
theorem keeps4 {la lb : List (List Int)} (ha : la.length ≤ 20) (hb : lb.length ≤ 20) (hsa : ∀ s ∈ la, s.length ≤ 300) (hsb : ∀ s ∈ lb, s.length ≤ 300) (d w b : Int) : ∀ (c i : Nat), i + c = la.length + 1 → capnplaw17_EqualKeeps_L4 (sgs la) (sgs lb) (sgs la) (sgs lb) i d w b = ok (Bo true) := by
  have s1 := V_Same4 (l := la) (by omega) (fun s h => by have := hsa s h; omega)
  have s2 := V_Same4 (l := lb) (by omega) (fun s h => by have := hsb s h; omega)
  intro c
  induction c with
  | zero =>
    intro i hi
    rw [capnplaw17_EqualKeeps_L4_eq, s1, s2, decide_eq_false (show ¬ (i : Int) < ((sgs la).length : Int) by rw [sgs_len]; omega)]
    rfl
  | succ c ih =>
    intro i hi
    rw [capnplaw17_EqualKeeps_L4_eq, s1, s2]
    by_cases h1 : i < la.length
    · by_cases h2 : i < lb.length
      · rw [decide_eq_true (show (i : Int) < ((sgs la).length : Int) by rw [sgs_len]; omega), decide_eq_true (show (i : Int) < ((sgs lb).length : Int) by rw [sgs_len]; omega), decide_eq_true (show 0 ≤ (i : Int) by omega), Int.toNat_natCast, sgs_get h1, sgs_get h2]
        dsimp only [callT_ret, callT_pan, onlyPV_v, Option.bind_some, pBool_v, pTup_v, pAgg_v, aggOf_v, pSl_v, pInt_v, pI64, pU64, pU32, pU8, List.getElem?_cons_zero, List.getElem?_cons_succ, cells_v, cells_sl, cells_agg, isCell_v, isCell_sl, cnd_t, cnd_f, tt_and, ff_and, nt_t, nt_f, len1, len3, len5, len8, len10, hlen1, clen1, clen5]
        rw [V_Data (by have := hsa _ (List.getElem_mem h1); omega) (by have := hsb _ (List.getElem_mem h2); omega), w64 (x := (i : Int) + 1) (by omega)]
        exact ih (i + 1) (by omega)
      · rw [decide_eq_true (show (i : Int) < ((sgs la).length : Int) by rw [sgs_len]; omega), decide_eq_false (show ¬ (i : Int) < ((sgs lb).length : Int) by rw [sgs_len]; omega)]
        rfl
    · rw [decide_eq_false (show ¬ (i : Int) < ((sgs la).length : Int) by rw [sgs_len]; omega)]
      rfl
theorem keeps2 {la lb : List (List Int)} (hla : Segs la) (hma : Sm la) (hlb : Segs lb) (hmb : Sm lb) (ha : la.length ≤ 20) (hb : lb.length ≤ 20) (hsa : ∀ s ∈ la, s.length ≤ 300) (hsb : ∀ s ∈ lb, s.length ≤ 300) {d w : Int} (b : Int) (hd : d ≤ 1099511627775) (hw : w ≤ 4611686018427387904) : ∀ (c i : Nat), i + c = lb.length → capnplaw17_EqualKeeps_L2 (sgs la) (sgs lb) (sgs la) (sgs (lb.take i)) i d w b = ok (Bo true) := by
  intro c
  induction c with
  | zero =>
    intro i hi
    rw [capnplaw17_EqualKeeps_L2_eq, List.take_of_length_le (by omega), decide_eq_false (show ¬ (i : Int) < ((sgs lb).length : Int) by rw [sgs_len]; omega), V_cmp hla hma hlb hmb hd hw]
    exact keeps4 ha hb hsa hsb d w b (la.length + 1) 0 (by omega)
  | succ c ih =>
    intro i hi
    have hil : i < lb.length := by omega
    have h3 := hsb _ (List.getElem_mem hil)
    rw [capnplaw17_EqualKeeps_L2_eq, decide_eq_true (show (i : Int) < ((sgs lb).length : Int) by rw [sgs_len]; omega), decide_eq_true (show 0 ≤ (i : Int) by omega), Int.toNat_natCast, sgs_get hil]
    dsimp only [callT_ret, callT_pan, onlyPV_v, Option.bind_some, pBool_v, pTup_v, pAgg_v, aggOf_v, pSl_v, pInt_v, pI64, pU64, pU32, pU8, List.getElem?_cons_zero, List.getElem?_cons_succ, cells_v, cells_sl, cells_agg, isCell_v, isCell_sl, cnd_t, cnd_f, tt_and, ff_and, nt_t, nt_f, len1, len3, len5, len8, len10, hlen1, clen1, clen5]
    rw [show decide (1 = 1) = true from rfl, roomy_ok (by rw [ws_len]; omega) (by rw [ws_len]; omega), roomy_ok (by rw [sgs_len, List.length_take]; omega) (by rw [sgs_len, List.length_take]; omega), sgs_snoc, ← take_snoc hil, w64 (x := (i : Int) + 1) (by omega)]
    exact ih (i + 1) (by omega)
theorem keeps0 {la lb : List (List Int)} (hla : Segs la) (hma : Sm la) (hlb : Segs lb) (hmb : Sm lb) (ha : la.length ≤ 20) (hb : lb.length ≤ 20) (hsa : ∀ s ∈ la, s.length ≤ 300) (hsb : ∀ s ∈ lb, s.length ≤ 300) {d w : Int} (b : Int) (hd : d ≤ 1099511627775) (hw : w ≤ 4611686018427387904) : ∀ (c i : Nat), i + c = la.length → capnplaw17_EqualKeeps_L0 (sgs la) (sgs lb) (sgs (la.take i)) [] i d w b = ok (Bo true) := by
  intro c
  induction c with
  | zero =>
    intro i hi
    rw [capnplaw17_EqualKeeps_L0_eq, List.take_of_length_le (by omega), decide_eq_false (show ¬ (i : Int) < ((sgs la).length : Int) by rw [sgs_len]; omega)]
    exact keeps2 hla hma hlb hmb ha hb hsa hsb b hd hw lb.length 0 (by omega)
  | succ c ih =>
    intro i hi
    have hil : i < la.length := by omega
    have h3 := hsa _ (List.getElem_mem hil)
    rw [capnplaw17_EqualKeeps_L0_eq, decide_eq_true (show (i : Int) < ((sgs la).length : Int) by rw [sgs_len]; omega), decide_eq_true (show 0 ≤ (i : Int) by omega), Int.toNat_natCast, sgs_get hil]
    dsimp only [callT_ret, callT_pan, onlyPV_v, Option.bind_some, pBool_v, pTup_v, pAgg_v, aggOf_v, pSl_v, pInt_v, pI64, pU64, pU32, pU8, List.getElem?_cons_zero, List.getElem?_cons_succ, cells_v, cells_sl, cells_agg, isCell_v, isCell_sl, cnd_t, cnd_f, tt_and, ff_and, nt_t, nt_f, len1, len3, len5, len8, len10, hlen1, clen1, clen5]
    rw [show decide (1 = 1) = true from rfl, roomy_ok (by rw [ws_len]; omega) (by rw [ws_len]; omega), roomy_ok (by rw [sgs_len, List.length_take]; omega) (by rw [sgs_len, List.length_take]; omega), sgs_snoc, ← take_snoc hil, w64 (x := (i : Int) + 1) (by omega)]
    exact ih (i + 1) (by omega)
theorem rdL_le {l : List (List Int)} (h : ∀ j : Nat, j < l.length → (rdL l j).length ≤ 300) : ∀ s ∈ l, s.length ≤ 300 := by
  intro s hs
  obtain ⟨j, hj, rfl⟩ := List.getElem_of_mem hs
  have := h j hj
  rw [rdL_nat hj] at this
  exact this
theorem law_EqualKeeps {la lb : List (List Int)} (hla : Segs la) (hlb : Segs lb) (d w b : Int) : ev 12 [.pv (.sl 1 (sgs la)), .pv (.sl 1 (sgs lb)), .pv (.agg [I d, I w, I b])] [] = ok (Bo true) := by
  obtain ⟨ba, ea, ca⟩ := V_Small hla d w b
  obtain ⟨bb, eb, cb⟩ := V_Small hlb d w b
  rw [capnplaw17_EqualKeeps_eq, V_awake17, ea, eb]
  cases ba with
  | false => rfl
  | true =>
  cases bb with
  | false => rfl
  | true =>
  obtain ⟨hd, hw, ha, ha3⟩ := ca rfl
  obtain ⟨_, _, hb, hb3⟩ := cb rfl
  exact keeps0 hla (sm_of ha3) hlb (sm_of hb3) ha hb (rdL_le ha3) (rdL_le hb3) b (by omega) (by omega) la.length 0 (by omega)
end Go.Proofs.YtdkmbkdgojiebaaDoor.E

namespace Go.Proofs.YtdkmbkdgojiebaaDoor.equalKeeps
open Go.ChangeShapes Go.WideShapes Go.ChangeAt Go.RowKit Go.Proofs.YtdkmbkdgojiebaaDoor.E
set_option linter.unusedVariables false
theorem own : ownKnob Tryd.prog.godebug = none := by kernel_rfl
theorem laidOut : laidOutB Tryd.prog = true := by kernel_rfl
theorem door_met (os : Os) (args : Array Value) : laidMetH Tryd.prog Rows.equalKeepsRow.laid ((World.doorLaid Tryd.prog 600 os).forCall (fun _ _ => 0) ⟨#[], args, []⟩).memory :=
  laidMetH_of_parts3 (fuel := 8) (laidMet_of_run' 8 (by kernel_rfl) (by kernel_rfl)) (by kernel_rfl) (by kernel_rfl)
set_option maxRecDepth 100000 in
set_option maxHeartbeats 1000000 in
theorem reads (os : Os) {H : Type} (enc : TypeId × Value → H) : DataW.whole enc Tryd.prog ((World.doorLaid Tryd.prog 600 os).forCall (fun _ _ => 0) ⟨#[], #[.slice none 0 0, .slice none 0 0, .agg #[.int .i64 0, .int .i64 0, .int .i64 0]], []⟩).memory Tryd.f12.params.toList Rows.equalKeepsSpec.vars false (#[.slice none 0 0, .slice none 0 0, .agg #[.int .i64 0, .int .i64 0, .int .i64 0]] : Array Value).toList 8 = some ([.nil, .nil, .agg [.lit (.int .i64 0), .lit (.int .i64 0), .lit (.int .i64 0)]], [], []) := by kernel_rfl
set_option maxRecDepth 100000 in
set_option maxHeartbeats 1000000 in
theorem lifted (os : Os) (started : os.Started) (H : Type) (enc : TypeId × Value → H) (F : Stop.Interp) :
    ReturnsInHanded {} Tryd.checked os 12 .any ((OpenSpec.ofChange Rows.equalKeepsSpec).preRow enc Tryd.prog Tryd.f12 Rows.equalKeepsRow.domain false Rows.equalKeepsRow.laid) (((OpenSpec.ofChange Rows.equalKeepsSpec).at F).post enc Tryd.prog Tryd.f12 false true false false) := by
  refine returnsInHanded_of_row (C := Tryd.checked) (s := (OpenSpec.ofChange Rows.equalKeepsSpec)) own started (by kernel_rfl) Tryd.func12
    (witness_row_atRef (enc := enc) (C := Tryd.checked) false (World.doorLaid Tryd.prog 600 os) #[.slice none 0 0, .slice none 0 0, .agg #[.int .i64 0, .int .i64 0, .int .i64 0]] rfl (by kernel_rfl) (by kernel_rfl) (by kernel_rfl)
      (OpenSpec.preRow_of_cond 8 (reads os enc) (by kernel_rfl) (fun k hk => by cases hk) (by kernel_rfl) (door_met os _))) ?_
  intro W base args ds gs before hval0 hW _ hcond _ hL _ _
  have hval : ∀ (j : Nat) t v, Tryd.f12.params[j]? = some t → args[j]? = some v → Value.okWide Tryd.prog W .any base t v := hval0
  have hW' := hW
  obtain ⟨p, q, hA0, hV, rfl, hfz, hnd⟩ := hW
  have hA : DataW.TrodAll enc Tryd.prog W 0 (fun _ => true) true Tryd.f12.params.toList args.toList ds p := hA0
  rw [Tryd.params12] at hA hval
  obtain ⟨v0, vs0, d0, ds0, p0, q0, hargs, rfl, rfl, h0, r0⟩ := trodAll_cons hA
  obtain ⟨v1, vs1, d1, ds1, p1, q1, rfl, rfl, rfl, h1, r1⟩ := trodAll_cons r0
  obtain ⟨v2, vs2, d2, ds2, p2, q2, rfl, rfl, rfl, h2, r2⟩ := trodAll_cons r1
  obtain ⟨rfl, rfl, rfl⟩ := trodAll_nil r2
  obtain rfl : args = #[v0, v1, v2] := by cases args; simp_all
  obtain ⟨rfl, rfl⟩ := trodVars_none hV
  have k0 := h0
  have lt0 : ∀ x ∈ p0, x.block < W.heap.size := by obtain ⟨m, hm⟩ := k0; exact DataW.trod_lt m _ _ _ hm
  obtain ⟨x0, y0, z0, rfl⟩ := okWide_slice Tryd.underlying22 (hval 0 22 v0 rfl rfl)
  obtain ⟨a0, g0, s_a0⟩ := rds_pv (d := eSegs) (S := (DS (DS (DI .u64)))) rd_segs (fun _ => rfl) (fun h => by cases h) h0
  have k1 := h1
  have lt1 : ∀ x ∈ p1, x.block < W.heap.size := by obtain ⟨m, hm⟩ := k1; exact DataW.trod_lt m _ _ _ hm
  obtain ⟨x1, y1, z1, rfl⟩ := okWide_slice Tryd.underlying22 (hval 1 22 v1 rfl rfl)
  obtain ⟨a1, g1, s_a1⟩ := rds_pv (d := eSegs) (S := (DS (DS (DI .u64)))) rd_segs (fun _ => rfl) (fun h => by cases h) h1
  have k2 := h2
  have lt2 : ∀ x ∈ p2, x.block < W.heap.size := by obtain ⟨m, hm⟩ := k2; exact DataW.trod_lt m _ _ _ hm
  obtain ⟨u2, rfl, sz2⟩ := okWide_struct Tryd.underlying24 (hval 2 24 v2 rfl rfl)
  obtain ⟨a2, g2, s_a2⟩ := rds_pv (d := eLim) (S := DLim) rd_lim (fun h => by cases h) (fun _ => ⟨_, rfl⟩) h2
  have hG : WOk Tryd.prog env (G0 W) W := wok_of_laid hL (by first | exact List.mem_cons_self | (exact List.mem_cons_of_mem _ List.mem_cons_self)) rfl
  refine (run_true hm hS hfn hcln hG (f := 12) (ps := [.sl 1 (sgs a0), .sl 1 (sgs a1), .agg [I a2.1, I a2.2.1, I a2.2.2]]) (vs := #[_, _, _]) rfl (fun j p x hp hx => ?_) (law_EqualKeeps (plain_segs s_a0) (plain_segs s_a1) a2.1 a2.2.1 a2.2.2)).mono fun e W' ⟨he, bel⟩ => ?_
  · match j with
    | 0 => cases hp; cases hx; exact g0
    | 1 => cases hp; cases hx; exact g1
    | 2 => cases hp; cases hx; exact g2
    | j + 3 => simp at hp
  subst he
  exact ⟨_, rfl, _, _, _, [], _, [], hW', trodAll_mk1 (shut_bool Tryd.underlying4 _), (trodAll_cons_mk (Below.trod laidOut (by kernel_rfl) (of_decide_eq_true (by kernel_rfl)) k0 bel lt0) (trodAll_cons_mk (Below.trod laidOut (by kernel_rfl) (of_decide_eq_true (by kernel_rfl)) k1 bel lt1) (trodAll_cons_mk (Below.trod laidOut (by kernel_rfl) (of_decide_eq_true (by kernel_rfl)) k2 bel lt2) trodAll_mk0))), rfl, bel.frame _, fun h => by cases h⟩
theorem over : Rows.equalKeepsRow.holds Tryd.pinned (OpenSpec.ofChange Rows.equalKeepsSpec) :=
  OpenClaim.holds_of_cond 12 Tryd.f12 rfl rfl rfl rfl rfl rfl rfl ⟨rfl, rfl, rfl, rfl, rfl⟩ rfl rfl rfl rfl rfl (by kernel_rfl) Tryd.func12 (by kernel_rfl)
    (of_decide_eq_true (by kernel_rfl)) (by unfold Func.isWrapper; first | (rw [if_pos (by decide +kernel)]; kernel_rfl) | (rw [if_neg (by decide +kernel)]; exact ⟨rfl, rfl⟩))
    (fun os started H enc _ F => by rw [OpenClaim.pre_eq_preRow]; exact lifted os started H enc F)
theorem card_holds : Rows.EqualKeepsCardSaid :=
  Claim7.holds_tied_plain_at .later [] [.funcs, .data] true (true, "9870dac34ebcfa5c3eb2d12a8177f74355f09bde2a78a24c0547fb84c01ceaf1") true
    over (fun _ h => by cases h) (by kernel_rfl) (fun _ h => by cases h) equalKeeps_row_tie rfl ⟨rfl, rfl⟩ (by kernel_rfl) rfl
    (fun f fn hf hfn => by
      obtain rfl : f = 12 := Option.some.inj ((show Tryd.prog.funcNamed "capnp/capnplaw17.EqualKeeps" = some 12 by kernel_rfl).symm.trans hf) |>.symm
      obtain rfl : fn = Tryd.f12 := (Option.some.inj (Tryd.func12.symm.trans hfn)).symm
      exact ⟨by kernel_rfl, fun j t ht => by
        rw [Tryd.params12] at ht
        have hm : t ∈ [22, 22, 24] := by simpa using Array.mem_of_getElem? ht
        have hall : ([22, 22, 24].all fun u => !Tryd.prog.wantsStandIn u) = true := by kernel_rfl
        exact (show Tryd.prog.wantsStandIn t = false by simpa using List.all_eq_true.1 hall t hm)⟩)
    (by kernel_rfl)
#print axioms card_holds
end Go.Proofs.YtdkmbkdgojiebaaDoor.equalKeeps
namespace Go.Proofs.YtdkmbkdgojiebaaDoor
theorem equalKeeps_holds : Go.Proofs.YtdkmbkdgojiebaaDoor.Rows.EqualKeepsCardSaid := equalKeeps.card_holds
end Go.Proofs.YtdkmbkdgojiebaaDoor
