/- This text proves that the law DenoteLimitsAreMonotone of the given program returns true on every input that its statement covers, as the statement says it. Its conditions are the statement's own. -/
import Derived.Test.YtdkmbkdgojiebaaDoorBP1
import Derived.Test.YtdkmbkdgojiebaaDoorRows
import Derived.Test.YtdkmbkdgojiebaaDoorCards
import Derived.Test.YtdkmbkdgojiebaaDoorTie
import Derived.WalkKit
import Derived.ProofKit
import Derived.OpenShut
import Derived.ChangeOld
import Derived.SizedLaws
import Derived.SevenTiedAt
import Derived.Deep.DeepHandedRow
import Derived.Deep.DeepWitnessRowRef
set_option linter.unusedVariables false
set_option linter.unusedSimpArgs false
set_option linter.unusedVariables false
set_option linter.unusedSimpArgs false
namespace Go.Proofs.YtdkmbkdgojiebaaDoor.E
/-! Other limits. -/
/-- What a success tells of other budgets. -/
def Sh1 (t : Nd × Int × Int) (m : Int) (f : Int → Nd × Int × Int) : Prop := t.2.2 = 0 → t.2.1 ≤ m ∧ ∀ k, (0 ≤ t.2.1 + k → f (m + k) = (t.1, t.2.1 + k, 0)) ∧ (t.2.1 + k < 0 → 0 ≤ m + k → (f (m + k)).2.2 = 8)
def ShK (G G' : Int → Nat → Nd × Int × Int) : Prop := ∀ m i, Sh1 (G m i) m fun m => G' m i
def Sh (F F' : Int → Int → Int → Nd × Int × Int) : Prop := ∀ m s a, Sh1 (F m s a) m fun m => F' m s a
theorem kids_sh {G G' : Int → Nat → Nd × Int × Int} (h : ShK G G') : ∀ c i m acc, (kidsF G c i m acc).2.2 = 0 → (kidsF G c i m acc).2.1 ≤ m ∧ ∀ k, (0 ≤ (kidsF G c i m acc).2.1 + k → kidsF G' c i (m + k) acc = ((kidsF G c i m acc).1, (kidsF G c i m acc).2.1 + k, 0)) ∧ ((kidsF G c i m acc).2.1 + k < 0 → 0 ≤ m + k → (kidsF G' c i (m + k) acc).2.2 = 8) := by
  intro c
  induction c with
  | zero =>
    intro i m acc _
    exact ⟨Int.le_refl _, fun k => ⟨fun _ => rfl, fun h1 h2 => absurd h1 (by show ¬ (m + k < 0); omega)⟩⟩
  | succ c ih =>
    intro i m acc hz
    by_cases h0 : (G m i).2.2 = 0
    · rw [kidsF_go h0] at hz ⊢
      obtain ⟨a1, a2⟩ := h m i h0
      obtain ⟨b1, b2⟩ := ih (i + 1) (G m i).2.1 (acc ++ [(G m i).1]) hz
      refine ⟨by omega, fun k => ⟨fun hk => ?_, fun hk hk2 => ?_⟩⟩
      · have e := (a2 k).1 (by omega)
        have e' : G' (m + k) i = ((G m i).1, (G m i).2.1 + k, 0) := e
        rw [kidsF_go (by rw [e']), e']
        exact (b2 k).1 hk
      · by_cases h1 : 0 ≤ (G m i).2.1 + k
        · have e' : G' (m + k) i = ((G m i).1, (G m i).2.1 + k, 0) := (a2 k).1 h1
          rw [kidsF_go (by rw [e']), e']
          exact (b2 k).2 hk h1
        · have e' : (G' (m + k) i).2.2 = 8 := (a2 k).2 (by omega) hk2
          rw [kidsF_err (by rw [e']; decide)]
          exact e'
    · rw [kidsF_err h0] at hz
      exact absurd hz h0
theorem wrap_sh {G G' : Int → Nat → Nd × Int × Int} (h : ShK G G') (c : Nat) (f : List Nd → Nd) (m : Int) : Sh1 (wrapK (kidsF G c 0 m []) f) m fun m => wrapK (kidsF G' c 0 m []) f := by
  intro hz
  have hz' : (kidsF G c 0 m []).2.2 = 0 := hz
  obtain ⟨a1, a2⟩ := kids_sh h c 0 m [] hz'
  refine ⟨a1, fun k => ⟨fun hk => ?_, fun hk hk2 => (a2 k).2 hk hk2⟩⟩
  dsimp only
  rw [(a2 k).1 hk]
  unfold wrapK
  rw [hz']
theorem strct_sh {F F' : Int → Int → Int → Nd × Int × Int} (h : Sh F F') (l : List (List Int)) (o : Ob) (m : Int) : Sh1 (strct F l m o) m fun m => strct F' l m o :=
  wrap_sh (G := fun m i => F m o.seg (o.at_ + o.data + i)) (G' := fun m i => F' m o.seg (o.at_ + o.data + i)) (fun m i => h m _ _) _ _ m
theorem denL_sh {F F' : Int → Int → Int → Nd × Int × Int} (h : Sh F F') (l : List (List Int)) (o : Ob) (m : Int) : Sh1 (denL F l m o) m fun m => denL F' l m o := by
  unfold denL
  by_cases h6 : o.elem < 6
  · simp only [if_pos h6]
    intro _
    exact ⟨Int.le_refl _, fun k => ⟨fun _ => rfl, fun h1 h2 => absurd h1 (by show ¬ (m + k < 0); omega)⟩⟩
  · simp only [if_neg h6]
    refine wrap_sh (G := fun m i => if o.elem = 6 then F m o.seg (o.at_ + i) else strct F l m (elt o i)) (G' := fun m i => if o.elem = 6 then F' m o.seg (o.at_ + i) else strct F' l m (elt o i)) (fun m i => ?_) _ _ m
    by_cases h7 : o.elem = 6
    · simp only [if_pos h7]
      exact h m _ _
    · simp only [if_neg h7]
      exact strct_sh h l _ m
theorem denO_sh {F F' : Int → Int → Int → Nd × Int × Int} (h : Sh F F') (l : List (List Int)) {t : Ob × Int} (ht : t.2 = 0 → ObOk l t.1) (m : Int) : Sh1 (denO F l m t) m fun m => denO F' l m t := by
  unfold denO
  by_cases h0 : t.2 = 0
  · simp only [if_pos h0]
    have hc := (ht h0).2.2.2.2.2.1
    by_cases h8 : t.1.cost > m
    · simp only [if_pos h8]
      exact fun hz => absurd hz (by show ¬ ((8 : Int) = 0); decide)
    · simp only [if_neg h8]
      have key : ∀ (f f' : Int → Nd × Int × Int), Sh1 (f (m - t.1.cost)) (m - t.1.cost) f' → Sh1 (f (m - t.1.cost)) m fun m => if t.1.cost > m then (nd0, m, 8) else f' (m - t.1.cost) := by
        intro f f' hf hz
        obtain ⟨a1, a2⟩ := hf hz
        refine ⟨by omega, fun k => ⟨fun hk => ?_, fun hk hk2 => ?_⟩⟩
        · dsimp only
          rw [if_neg (by omega), show m + k - t.1.cost = m - t.1.cost + k by omega]
          exact (a2 k).1 hk
        · dsimp only
          by_cases h9 : t.1.cost > m + k
          · rw [if_pos h9]
          · rw [if_neg h9, show m + k - t.1.cost = m - t.1.cost + k by omega]
            exact (a2 k).2 hk (by omega)
      by_cases h1 : t.1.kind = 1
      · simp only [if_pos h1]
        exact key (fun m => strct F l m t.1) (fun m => strct F' l m t.1) (strct_sh h l t.1 _)
      · simp only [if_neg h1]
        exact key (fun m => denL F l m t.1) (fun m => denL F' l m t.1) (denL_sh h l t.1 _)
  · simp only [if_neg h0]
    exact fun hz => absurd hz h0
theorem den_sh {l : List (List Int)} (hl : Segs l) (hs : Sm l) : ∀ (D D' : Nat), D ≤ D' → Sh (den l D) (den l D') := by
  intro D
  induction D with
  | zero =>
    intro D' hD m s a
    by_cases he : (fol l s a).2.2.2 = 0
    · by_cases hz : (fol l s a).1 = 0
      · simp only [den_nil he hz]
        exact fun _ => ⟨Int.le_refl _, fun k => ⟨fun _ => rfl, fun h1 h2 => absurd h1 (by show ¬ (m + k < 0); omega)⟩⟩
      · rw [den_deep he hz]
        exact fun hz => absurd hz (by show ¬ ((7 : Int) = 0); decide)
    · rw [den_err he]
      exact fun hz => absurd hz he
  | succ D ih =>
    intro D' hD m s a
    by_cases he : (fol l s a).2.2.2 = 0
    · by_cases hz : (fol l s a).1 = 0
      · simp only [den_nil he hz]
        exact fun _ => ⟨Int.le_refl _, fun k => ⟨fun _ => rfl, fun h1 h2 => absurd h1 (by show ¬ (m + k < 0); omega)⟩⟩
      · obtain ⟨E', rfl⟩ : ∃ E', D' = E' + 1 := ⟨D' - 1, by omega⟩
        simp only [den_obj he hz]
        exact denO_sh (ih E' (by omega)) l (fun h => obj_ok hl hs hz he h) m
    · rw [den_err he]
      exact fun hz => absurd hz he
/-- What a success of a message tells of other limits. -/
theorem run_more {l : List (List Int)} (hl : Segs l) (hs : Sm l) {d w d' w' : Int} (h0 : (runT l d w).2.2 = 0) (hd : d ≤ d') (hw : max w 0 - (runT l d w).2.1 ≤ max w' 0) : runT l d' w' = ((runT l d w).1, (runT l d w).2.1 + (max w' 0 - max w 0), 0) := by
  by_cases he : emp l
  · have e1 : ∀ d w, runT l d w = (nd0, max w 0, 0) := fun d w => by rw [runT, if_pos he]
    rw [e1, e1]
    dsimp only
    rw [show max w 0 + (max w' 0 - max w 0) = max w' 0 by omega]
  · have e1 : ∀ d w, runT l d w = den l d.toNat (max w 0) 0 0 := fun d w => by rw [runT, if_neg he]
    rw [e1] at h0 hw ⊢
    rw [e1]
    obtain ⟨a1, a2⟩ := den_sh hl hs d.toNat d'.toNat (by omega) (max w 0) 0 0 h0
    have := (a2 (max w' 0 - max w 0)).1 (by omega)
    rw [show max w 0 + (max w' 0 - max w 0) = max w' 0 by omega] at this
    exact this
theorem run_le {l : List (List Int)} (hl : Segs l) (hs : Sm l) {d w : Int} (h0 : (runT l d w).2.2 = 0) : (runT l d w).2.1 ≤ max w 0 := by
  by_cases he : emp l
  · rw [runT, if_pos he]
    exact Int.le_refl _
  · have e1 : runT l d w = den l d.toNat (max w 0) 0 0 := by rw [runT, if_neg he]
    rw [e1] at h0 ⊢
    exact (den_sh hl hs d.toNat d.toNat (Nat.le_refl _) (max w 0) 0 0 h0).1
theorem run_less {l : List (List Int)} (hl : Segs l) (hs : Sm l) {d w w' : Int} (h0 : (runT l d w).2.2 = 0) (h1 : 0 ≤ w') (hw : w' < max w 0 - (runT l d w).2.1) : (runT l d w').2.2 = 8 := by
  by_cases he : emp l
  · rw [runT, if_pos he] at hw
    dsimp only at hw
    omega
  · have e1 : ∀ d w, runT l d w = den l d.toNat (max w 0) 0 0 := fun d w => by rw [runT, if_neg he]
    rw [e1] at h0 hw ⊢
    have := ((den_sh hl hs d.toNat d.toNat (Nat.le_refl _) (max w 0) 0 0 h0).2 (w' - max w 0)).2 (by omega) (by omega)
    rw [show max w 0 + (w' - max w 0) = max w' 0 by omega] at this
    exact this
theorem cl5 (a b c d e : PV) : decide ((PV.agg [a, b, c, d, e]).cells.length = 5) = true := rfl
/-- The law DenoteLimitsAreMonotone. -/
theorem law_DenoteLimitsAreMonotone {l : List (List Int)} (hl : Segs l) (d w b : Int) {p q : Int} (hp : Byte p) (hq : Byte q) : ev 5 [.pv (.sl 1 (sgs l)), .pv (.agg [I d, I w, I b]), .pv (U8 p), .pv (U8 q)] [] = ok (Bo true) := by
  obtain ⟨bl, e, hb⟩ := V_Small hl d w b
  rw [capnplaw12_DenoteLimitsAreMonotone_eq, V_awake12]
  dsimp only [↓cl5, callT_ret, callT_pan, onlyPV_v, Option.bind_some, pBool_v, pTup_v, pAgg_v, aggOf_v, pSl_v, pInt_v, pI64, pU64, pU32, pU8, List.getElem?_cons_zero, List.getElem?_cons_succ, cells_v, cells_sl, cells_agg, isCell_v, isCell_sl, cnd_t, cnd_f, tt_and, ff_and, nt_t, nt_f, len1, len3, len5, len8, len10, hlen1, clen1, clen5]
  rw [e]
  dsimp only [↓cl5, callT_ret, callT_pan, onlyPV_v, Option.bind_some, pBool_v, pTup_v, pAgg_v, aggOf_v, pSl_v, pInt_v, pI64, pU64, pU32, pU8, List.getElem?_cons_zero, List.getElem?_cons_succ, cells_v, cells_sl, cells_agg, isCell_v, isCell_sl, cnd_t, cnd_f, tt_and, ff_and, nt_t, nt_f, len1, len3, len5, len8, len10, hlen1, clen1, clen5]
  cases bl with
  | false => rfl
  | true =>
    obtain ⟨hd, hw, _, h300⟩ := hb rfl
    have hs := sm_of h300
    obtain ⟨hp1, hp2⟩ := hp
    obtain ⟨hq1, hq2⟩ := hq
    have hr := (runT_ok hl hs (d := d) (w := w) (by omega)).1
    unfold Mt at hr
    dsimp only [↓cl5, callT_ret, callT_pan, onlyPV_v, Option.bind_some, pBool_v, pTup_v, pAgg_v, aggOf_v, pSl_v, pInt_v, pI64, pU64, pU32, pU8, List.getElem?_cons_zero, List.getElem?_cons_succ, cells_v, cells_sl, cells_agg, isCell_v, isCell_sl, cnd_t, cnd_f, tt_and, ff_and, nt_t, nt_f, len1, len3, len5, len8, len10, hlen1, clen1, clen5]
    rw [V_Message hl hs (by omega) (by omega)]
    dsimp only [Nd.x, ↓cl5, callT_ret, callT_pan, onlyPV_v, Option.bind_some, pBool_v, pTup_v, pAgg_v, aggOf_v, pSl_v, pInt_v, pI64, pU64, pU32, pU8, List.getElem?_cons_zero, List.getElem?_cons_succ, cells_v, cells_sl, cells_agg, isCell_v, isCell_sl, cnd_t, cnd_f, tt_and, ff_and, nt_t, nt_f, len1, len3, len5, len8, len10, hlen1, clen1, clen5]
    rw [V_Measure hl hs (by omega) (by omega)]
    dsimp only [↓cl5, callT_ret, callT_pan, onlyPV_v, Option.bind_some, pBool_v, pTup_v, pAgg_v, aggOf_v, pSl_v, pInt_v, pI64, pU64, pU32, pU8, List.getElem?_cons_zero, List.getElem?_cons_succ, cells_v, cells_sl, cells_agg, isCell_v, isCell_sl, cnd_t, cnd_f, tt_and, ff_and, nt_t, nt_f, len1, len3, len5, len8, len10, hlen1, clen1, clen5]
    by_cases h0 : msgE l d w = 0
    · have h0' : (runT l d w).2.2 = 0 := h0
      rw [h0, show ((0 : Int) != 0) = false from rfl]
      dsimp only [↓cl5, callT_ret, callT_pan, onlyPV_v, Option.bind_some, pBool_v, pTup_v, pAgg_v, aggOf_v, pSl_v, pInt_v, pI64, pU64, pU32, pU8, List.getElem?_cons_zero, List.getElem?_cons_succ, cells_v, cells_sl, cells_agg, isCell_v, isCell_sl, cnd_t, cnd_f, tt_and, ff_and, nt_t, nt_f, len1, len3, len5, len8, len10, hlen1, clen1, clen5]
      have hle := run_le hl hs h0'
      have q0 := V_Equal (msgN_ok hl hs (d := d) (w := w) (by omega))
      dsimp only [Nd.x] at q0
      have hc : meaC l d w = max w 0 - (runT l d w).2.1 := by rw [meaC, if_pos h0']
      have m1 : (if 0 > d then 0 else d) = max d 0 := by omega
      have m2 : (if 0 > w then 0 else w) = max w 0 := by omega
      have r1 := run_more hl hs h0' (d' := max d 0 + p) (w' := max w 0 + q) (by omega) (by omega)
      have r2 := run_more hl hs h0' (d' := d) (w' := meaC l d w) (by omega) (by omega)
      have same : ∀ {d' w' m' : Int}, runT l d' w' = ((runT l d w).1, m', 0) → msgN l d' w' = msgN l d w ∧ msgE l d' w' = 0 := fun hh => by
        unfold msgN msgE
        rw [hh]
        dsimp only
        rw [h0', if_pos rfl]
        exact ⟨rfl, rfl⟩
      obtain ⟨s1, s2⟩ := same r1
      obtain ⟨t1, t2⟩ := same r2
      rw [m1, m2, w64 (x := p) (by omega), w64 (x := q) (by omega), w64 (x := max d 0 + p) (by omega), w64 (x := max w 0 + q) (by omega), V_Message hl hs (by omega) (by omega), s1, s2]
      dsimp only [Nd.x, ↓cl5, callT_ret, callT_pan, onlyPV_v, Option.bind_some, pBool_v, pTup_v, pAgg_v, aggOf_v, pSl_v, pInt_v, pI64, pU64, pU32, pU8, List.getElem?_cons_zero, List.getElem?_cons_succ, cells_v, cells_sl, cells_agg, isCell_v, isCell_sl, cnd_t, cnd_f, tt_and, ff_and, nt_t, nt_f, len1, len3, len5, len8, len10, hlen1, clen1, clen5]
      rw [V_Message hl hs (by omega) (by omega), t1, t2]
      dsimp only [Nd.x, ↓cl5, callT_ret, callT_pan, onlyPV_v, Option.bind_some, pBool_v, pTup_v, pAgg_v, aggOf_v, pSl_v, pInt_v, pI64, pU64, pU32, pU8, List.getElem?_cons_zero, List.getElem?_cons_succ, cells_v, cells_sl, cells_agg, isCell_v, isCell_sl, cnd_t, cnd_f, tt_and, ff_and, nt_t, nt_f, len1, len3, len5, len8, len10, hlen1, clen1, clen5]
      rw [show ((0 : Int) != 0) = false from rfl]
      dsimp only [↓cl5, callT_ret, callT_pan, onlyPV_v, Option.bind_some, pBool_v, pTup_v, pAgg_v, aggOf_v, pSl_v, pInt_v, pI64, pU64, pU32, pU8, List.getElem?_cons_zero, List.getElem?_cons_succ, cells_v, cells_sl, cells_agg, isCell_v, isCell_sl, cnd_t, cnd_f, tt_and, ff_and, nt_t, nt_f, len1, len3, len5, len8, len10, hlen1, clen1, clen5]
      rw [q0]
      dsimp only [↓cl5, callT_ret, callT_pan, onlyPV_v, Option.bind_some, pBool_v, pTup_v, pAgg_v, aggOf_v, pSl_v, pInt_v, pI64, pU64, pU32, pU8, List.getElem?_cons_zero, List.getElem?_cons_succ, cells_v, cells_sl, cells_agg, isCell_v, isCell_sl, cnd_t, cnd_f, tt_and, ff_and, nt_t, nt_f, len1, len3, len5, len8, len10, hlen1, clen1, clen5]
      by_cases hc0 : meaC l d w = 0
      · rw [hc0]; rfl
      · have hl8 : msgE l d (meaC l d w - 1) = 8 := run_less hl hs h0' (by omega) (by omega)
        rw [beq_eq_false_iff_ne.2 hc0, w64 (x := meaC l d w - 1) (by omega), V_Message hl hs (by omega) (by omega), hl8]
        rfl
    · rw [bne_t h0]
      rfl
end Go.Proofs.YtdkmbkdgojiebaaDoor.E

namespace Go.Proofs.YtdkmbkdgojiebaaDoor.denoteLimitsAreMonotone
open Go.ChangeShapes Go.WideShapes Go.ChangeAt Go.RowKit Go.Proofs.YtdkmbkdgojiebaaDoor.E
set_option linter.unusedVariables false
theorem own : ownKnob Tryd.prog.godebug = none := by kernel_rfl
theorem laidOut : laidOutB Tryd.prog = true := by kernel_rfl
theorem door_met (os : Os) (args : Array Value) : laidMetH Tryd.prog Rows.denoteLimitsAreMonotoneRow.laid ((World.doorLaid Tryd.prog 600 os).forCall (fun _ _ => 0) ⟨#[], args, []⟩).memory :=
  laidMetH_of_parts3 (fuel := 8) (laidMet_of_run' 8 (by kernel_rfl) (by kernel_rfl)) (by kernel_rfl) (by kernel_rfl)
set_option maxRecDepth 100000 in
set_option maxHeartbeats 1000000 in
theorem reads (os : Os) {H : Type} (enc : TypeId × Value → H) : DataW.whole enc Tryd.prog ((World.doorLaid Tryd.prog 600 os).forCall (fun _ _ => 0) ⟨#[], #[.slice none 0 0, .agg #[.int .i64 0, .int .i64 0, .int .i64 0], .int .u8 0, .int .u8 0], []⟩).memory Tryd.f5.params.toList Rows.denoteLimitsAreMonotoneSpec.vars false (#[.slice none 0 0, .agg #[.int .i64 0, .int .i64 0, .int .i64 0], .int .u8 0, .int .u8 0] : Array Value).toList 8 = some ([.nil, .agg [.lit (.int .i64 0), .lit (.int .i64 0), .lit (.int .i64 0)], .lit (.int .u8 0), .lit (.int .u8 0)], [], []) := by kernel_rfl
set_option maxRecDepth 100000 in
set_option maxHeartbeats 1000000 in
theorem lifted (os : Os) (started : os.Started) (H : Type) (enc : TypeId × Value → H) (F : Stop.Interp) :
    ReturnsInHanded {} Tryd.checked os 5 .any ((OpenSpec.ofChange Rows.denoteLimitsAreMonotoneSpec).preRow enc Tryd.prog Tryd.f5 Rows.denoteLimitsAreMonotoneRow.domain false Rows.denoteLimitsAreMonotoneRow.laid) (((OpenSpec.ofChange Rows.denoteLimitsAreMonotoneSpec).at F).post enc Tryd.prog Tryd.f5 false true false false) := by
  refine returnsInHanded_of_row (C := Tryd.checked) (s := (OpenSpec.ofChange Rows.denoteLimitsAreMonotoneSpec)) own started (by kernel_rfl) Tryd.func5
    (witness_row_atRef (enc := enc) (C := Tryd.checked) false (World.doorLaid Tryd.prog 600 os) #[.slice none 0 0, .agg #[.int .i64 0, .int .i64 0, .int .i64 0], .int .u8 0, .int .u8 0] rfl (by kernel_rfl) (by kernel_rfl) (by kernel_rfl)
      (OpenSpec.preRow_of_cond 8 (reads os enc) (by kernel_rfl) (fun k hk => by cases hk) (by kernel_rfl) (door_met os _))) ?_
  intro W base args ds gs before hval0 hW _ hcond _ hL _ _
  have hval : ∀ (j : Nat) t v, Tryd.f5.params[j]? = some t → args[j]? = some v → Value.okWide Tryd.prog W .any base t v := hval0
  have hW' := hW
  obtain ⟨p, q, hA0, hV, rfl, hfz, hnd⟩ := hW
  have hA : DataW.TrodAll enc Tryd.prog W 0 (fun _ => true) true Tryd.f5.params.toList args.toList ds p := hA0
  rw [Tryd.params5] at hA hval
  obtain ⟨v0, vs0, d0, ds0, p0, q0, hargs, rfl, rfl, h0, r0⟩ := trodAll_cons hA
  obtain ⟨v1, vs1, d1, ds1, p1, q1, rfl, rfl, rfl, h1, r1⟩ := trodAll_cons r0
  obtain ⟨v2, vs2, d2, ds2, p2, q2, rfl, rfl, rfl, h2, r2⟩ := trodAll_cons r1
  obtain ⟨v3, vs3, d3, ds3, p3, q3, rfl, rfl, rfl, h3, r3⟩ := trodAll_cons r2
  obtain ⟨rfl, rfl, rfl⟩ := trodAll_nil r3
  obtain rfl : args = #[v0, v1, v2, v3] := by cases args; simp_all
  obtain ⟨rfl, rfl⟩ := trodVars_none hV
  have k0 := h0
  have lt0 : ∀ x ∈ p0, x.block < W.heap.size := by obtain ⟨m, hm⟩ := k0; exact DataW.trod_lt m _ _ _ hm
  obtain ⟨x0, y0, z0, rfl⟩ := okWide_slice Tryd.underlying22 (hval 0 22 v0 rfl rfl)
  obtain ⟨a0, g0, s_a0⟩ := rds_pv (d := eSegs) (S := (DS (DS (DI .u64)))) rd_segs (fun _ => rfl) (fun h => by cases h) h0
  have k1 := h1
  have lt1 : ∀ x ∈ p1, x.block < W.heap.size := by obtain ⟨m, hm⟩ := k1; exact DataW.trod_lt m _ _ _ hm
  obtain ⟨u1, rfl, sz1⟩ := okWide_struct Tryd.underlying24 (hval 1 24 v1 rfl rfl)
  obtain ⟨a1, g1, s_a1⟩ := rds_pv (d := eLim) (S := DLim) rd_lim (fun h => by cases h) (fun _ => ⟨_, rfl⟩) h1
  have k2 := h2
  have lt2 : ∀ x ∈ p2, x.block < W.heap.size := by obtain ⟨m, hm⟩ := k2; exact DataW.trod_lt m _ _ _ hm
  obtain ⟨b2, rfl, _, _, _⟩ := open_int Tryd.underlying5 (hval 2 5 v2 rfl rfl) h2
  obtain ⟨a2, g2, s_a2⟩ := rds_pv (d := (eInt .u8)) (S := (DI .u8)) (fun n => RdsAt.int Tryd.underlying5) (fun _ => rfl) (fun h => by cases h) h2
  have k3 := h3
  have lt3 : ∀ x ∈ p3, x.block < W.heap.size := by obtain ⟨m, hm⟩ := k3; exact DataW.trod_lt m _ _ _ hm
  obtain ⟨b3, rfl, _, _, _⟩ := open_int Tryd.underlying5 (hval 3 5 v3 rfl rfl) h3
  obtain ⟨a3, g3, s_a3⟩ := rds_pv (d := (eInt .u8)) (S := (DI .u8)) (fun n => RdsAt.int Tryd.underlying5) (fun _ => rfl) (fun h => by cases h) h3
  have hG : WOk Tryd.prog env (G0 W) W := wok_of_laid hL (by first | exact List.mem_cons_self | (exact List.mem_cons_of_mem _ List.mem_cons_self)) rfl
  refine (run_true hm hS hfn hcln hG (f := 5) (ps := [.sl 1 (sgs a0), .agg [I a1.1, I a1.2.1, I a1.2.2], .v (.int .u8 a2), .v (.int .u8 a3)]) (vs := #[_, _, _, _]) rfl (fun j p x hp hx => ?_) (law_DenoteLimitsAreMonotone (plain_segs s_a0) a1.1 a1.2.1 a1.2.2 (bound_u8 s_a2.2) (bound_u8 s_a3.2))).mono fun e W' ⟨he, bel⟩ => ?_
  · match j with
    | 0 => cases hp; cases hx; exact g0
    | 1 => cases hp; cases hx; exact g1
    | 2 => cases hp; cases hx; exact g2
    | 3 => cases hp; cases hx; exact g3
    | j + 4 => simp at hp
  subst he
  exact ⟨_, rfl, _, _, _, [], _, [], hW', trodAll_mk1 (shut_bool Tryd.underlying4 _), (trodAll_cons_mk (Below.trod laidOut (by kernel_rfl) (of_decide_eq_true (by kernel_rfl)) k0 bel lt0) (trodAll_cons_mk (Below.trod laidOut (by kernel_rfl) (of_decide_eq_true (by kernel_rfl)) k1 bel lt1) (trodAll_cons_mk (Below.trod laidOut (by kernel_rfl) (of_decide_eq_true (by kernel_rfl)) k2 bel lt2) (trodAll_cons_mk (Below.trod laidOut (by kernel_rfl) (of_decide_eq_true (by kernel_rfl)) k3 bel lt3) trodAll_mk0)))), rfl, bel.frame _, fun h => by cases h⟩
theorem over : Rows.denoteLimitsAreMonotoneRow.holds Tryd.pinned (OpenSpec.ofChange Rows.denoteLimitsAreMonotoneSpec) :=
  OpenClaim.holds_of_cond 5 Tryd.f5 rfl rfl rfl rfl rfl rfl rfl ⟨rfl, rfl, rfl, rfl, rfl⟩ rfl rfl rfl rfl rfl (by kernel_rfl) Tryd.func5 (by kernel_rfl)
    (of_decide_eq_true (by kernel_rfl)) (by unfold Func.isWrapper; first | (rw [if_pos (by decide +kernel)]; kernel_rfl) | (rw [if_neg (by decide +kernel)]; exact ⟨rfl, rfl⟩))
    (fun os started H enc _ F => by rw [OpenClaim.pre_eq_preRow]; exact lifted os started H enc F)
theorem card_holds : Rows.DenoteLimitsAreMonotoneCardSaid :=
  Claim7.holds_tied_plain_at .later [] [.funcs, .data] true (true, "9870dac34ebcfa5c3eb2d12a8177f74355f09bde2a78a24c0547fb84c01ceaf1") true
    over (fun _ h => by cases h) (by kernel_rfl) (fun _ h => by cases h) denoteLimitsAreMonotone_row_tie rfl ⟨rfl, rfl⟩ (by kernel_rfl) rfl
    (fun f fn hf hfn => by
      obtain rfl : f = 5 := Option.some.inj ((show Tryd.prog.funcNamed "capnp/capnplaw12.DenoteLimitsAreMonotone" = some 5 by kernel_rfl).symm.trans hf) |>.symm
      obtain rfl : fn = Tryd.f5 := (Option.some.inj (Tryd.func5.symm.trans hfn)).symm
      exact ⟨by kernel_rfl, fun j t ht => by
        rw [Tryd.params5] at ht
        have hm : t ∈ [22, 24, 5, 5] := by simpa using Array.mem_of_getElem? ht
        have hall : ([22, 24, 5, 5].all fun u => !Tryd.prog.wantsStandIn u) = true := by kernel_rfl
        exact (show Tryd.prog.wantsStandIn t = false by simpa using List.all_eq_true.1 hall t hm)⟩)
    (by kernel_rfl)
#print axioms card_holds
end Go.Proofs.YtdkmbkdgojiebaaDoor.denoteLimitsAreMonotone
namespace Go.Proofs.YtdkmbkdgojiebaaDoor
theorem denoteLimitsAreMonotone_holds : Go.Proofs.YtdkmbkdgojiebaaDoor.Rows.DenoteLimitsAreMonotoneCardSaid := denoteLimitsAreMonotone.card_holds
end Go.Proofs.YtdkmbkdgojiebaaDoor
