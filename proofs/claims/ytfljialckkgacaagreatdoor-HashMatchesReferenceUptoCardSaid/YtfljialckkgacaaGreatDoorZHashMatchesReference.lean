/- This text is one of those that prove the law HashMatchesReference of the given program, as its statement says it: true on every input that the statement covers. Its conditions are the statement's own. -/
import Derived.Below
import Derived.ProofKit
import Derived.OpenShut
import Derived.Stop.Joined
import Derived.LaidMore
import Derived.Deep.Slices
import Derived.Test.YtfljialckkgacaaGreatDoorRows
import Derived.Maps.OwnSet
import Derived.Maps.Keyed
import Derived.LaidSub
import Derived.Lib.LaidTab
import Derived.Test.YtfljialckkgacaaGreatDoorCards
import Derived.Test.YtfljialckkgacaaGreatDoorTie
import Derived.WalkKit
import Derived.ChangeOld
import Derived.SizedLaws
import Derived.SevenTiedAt
import Derived.Deep.DeepHandedRow
import Derived.Deep.DeepWitnessRowRef
import Derived.Test.YtfljialckkgacaaGreatDoorZHashMatchesReference1
import Derived.Test.YtfljialckkgacaaGreatDoorZHashMatchesReference2
import Derived.Test.YtfljialckkgacaaGreatDoorZHashMatchesReference3
import Derived.Test.YtfljialckkgacaaGreatDoorZHashMatchesReference4
import Derived.Test.YtfljialckkgacaaGreatDoorZHashMatchesReference5
import Derived.Test.YtfljialckkgacaaGreatDoorZHashMatchesReference6
import Derived.Test.YtfljialckkgacaaGreatDoorZHashMatchesReference7
import Derived.Test.YtfljialckkgacaaGreatDoorZHashMatchesReference8
import Derived.Test.YtfljialckkgacaaGreatDoorZHashMatchesReference9
import Derived.Test.YtfljialckkgacaaGreatDoorZHashMatchesReference10
import Derived.Test.YtfljialckkgacaaGreatDoorZHashMatchesReference11
set_option linter.unusedVariables false
set_option linter.unusedSimpArgs false
open Go.Proofs.YtfljialckkgacaaGreatDoor.E renaming callT_ret → za, callT_pan → zb, onlyPV_v → zc, pBool_v → ze, pTup_v → zf, pAgg_v → zg, aggOf_v → zh, pSl_v → zi, pInt_v → zj, cells_v → zk, cells_sl → zl, cells_agg → zm, isCell_v → zn, isCell_sl → zo, cnd_t → zq, cnd_f → zr, tt_and → zs, ff_and → zt, pI64 → zu, pU64 → zv, pU32 → zx, pU8 → zy, nt_t → zA, nt_f → zC, len1 → zD, len3 → zE, len5 → zF, len8 → zG, len10 → zH, hlen1 → zI, clen1 → zJ, clen5 → zK
open List renaming getElem?_cons_zero → zL
open List renaming getElem?_cons_succ → zM
open Option renaming bind_some → zN
namespace Go.Proofs.YtfljialckkgacaaGreatDoor.E
open Go.RowKit
/-! From what is read of the arguments to the plain reading; from its answer to the call. -/
/-- All of the memory that is there. -/
def g0 (w : World) : Nat → Option (Array Value) := fun b => match w.heap[b]? with
  | some (.cells c _ _) => some c
  | _ => none
def G0 (w : World) : Gh := ⟨g0 w, fun _ => none, fun b => if b < w.heap.size then some .imm else none⟩
theorem g0_some {w : World} {b : Nat} {c : Array Value} (h : g0 w b = some c) : ∃ T f, w.heap[b]? = some (.cells c T f) := by
  unfold g0 at h
  split at h
  · rename_i c' T f hb; cases h; exact ⟨T, f, hb⟩
  · cases h
theorem cell_g0 {w : World} {a : Addr} {u : Value} (h : w.cell? a = some u) : a.spot = none ∧ ∃ c, g0 w a.block = some c ∧ c[a.off]? = some u := by
  unfold World.cell? at h
  split at h
  · rename_i c T f hb
    cases hs : a.spot with
    | some s => simp [hs] at h
    | none => simp only [hs, Option.isSome_none, Bool.false_eq_true, if_false] at h; exact ⟨rfl, c, by unfold g0; rw [hb], h⟩
  · cases h
theorem wok0 {P : Program} {E : Env} {w : World} (hmaps : ∀ g l, find E.maps g = some l → ∃ v c, g0 w g = some c ∧ c[0]? = some v ∧ MRel P E (G0 w) w g v) (hglob : ∀ g p, find E.glob g = some p → ERel (G0 w) p 0 (.pointer (some ⟨g, 0, none⟩))) : WOk P E (G0 w) w := by
  refine ⟨fun b c hb => ?_, fun b h hb => ?_, hmaps, hglob⟩
  · obtain ⟨T, f, h⟩ := g0_some hb
    exact ⟨if_pos (Array.getElem?_eq_some_iff.1 h).1, T, f, h⟩
  · by_cases hl : b < w.heap.size
    · exact hl
    · rw [show (G0 w).ka b = none from if_neg hl] at hb; cases hb
/-- Nothing that was there has changed. -/
theorem below_of_fr {w w' : World} {G' : Gh} (f : Fr (G0 w) w G' w' X0) : Below w.heap.size w w' :=
  ⟨f.os, f.tape, f.output, f.size, fun k hk => (f.ka k .imm (if_pos hk) X0_old.1).2⟩
/-- A call that returns true. -/
theorem run_true {P : Program} {E : Env} {fns : List (Nat × Func)} (hm : P.follows .mixedOrders = true) (hS : SysOk P E) (hfn : ∀ f fn, find fns f = some fn → P.funcs[f]? = some fn ∧ fn.body.isSome = true ∧ (fn.name == "runtime.NumGoroutine") = false) (hcln : ClnOk P E)
    {w : World} (hw : WOk P E (G0 w) w) {f : Nat} {ps : List PV} {vs : Array Value} (hsz : vs.size = ps.length) (hps : ∀ (j : Nat) (p : PV) (x : Value), ps[j]? = some p → vs[j]? = some x → PRep (g0 w) p x)
    (hv : val E fns f (ps.map .pv) [] = some (.ret (.pv (.v (.bool true))), [])) : Calls P f vs w fun e w' => e = .returned (.bool true) ∧ Below w.heap.size w w' := by
  obtain ⟨k, hk⟩ := val_some hv
  refine ((evCall_ok hm hS hfn hcln k).1 f _ _ _ _ hk (G0 w) w vs ⟨hw, fun l cs hl => (by simp at hl), fun l b hb => (by cases hb), (by simpa using hsz), fun j q x hq hx => ?_⟩).mono fun e w' he => ?_
  · rw [List.getElem?_map] at hq
    cases hj : ps[j]? with
    | none => simp [hj] at hq
    | some p =>
      simp only [hj, Option.map_some, Option.some.injEq] at hq
      subst hq
      exact ⟨rfl, fun _ => hps j p x hj hx⟩
  · obtain ⟨G', f', _, _, _, ho⟩ := he
    refine ⟨?_, below_of_fr f'⟩
    cases e with
    | returned v =>
      have : PRep G'.g (.v (.bool true)) v := ho
      rw [pv_v this]
    | panicked c => exact ho.elim
    | outgrown => exact ho.elim
/-- How a kind of data is told in cells. -/
structure Enc (α : Type) where
  cells : α → List PV
  sz : Nat
  agg : Bool
  len : ∀ a, (cells a).length = sz
  one : agg = false → sz = 1
def Enc.pv {α : Type} (e : Enc α) (a : α) : PV := if e.agg then .agg (e.cells a) else (e.cells a).headD (.v .nilFunc)
/-- What is read at a type tells such a datum. -/
def RdsAt {H α : Type} (enc : TypeId × Value → H) (P : Program) (w : World) (n : Nat) (t : TypeId) (e : Enc α) (S : α → DataW H → Prop) : Prop :=
  ∀ cs x, DataW.trod enc P w 0 (fun _ => true) true n t cs = some x → ∃ a, cs.length = e.sz ∧ (∀ (j : Nat) (q : PV) (u : Value), (e.cells a)[j]? = some q → cs[j]? = some u → q.isCell = true ∧ PRep (g0 w) q u) ∧ S a x.1
def eInt (k : IntKind) : Enc Int := ⟨fun n => [.v (.int k n)], 1, false, fun _ => rfl, fun _ => rfl⟩
def eBool : Enc Bool := ⟨fun b => [.v (.bool b)], 1, false, fun _ => rfl, fun _ => rfl⟩
def eSl {α : Type} (e : Enc α) : Enc (List α) := ⟨fun l => [.sl e.sz (l.map e.pv)], 1, false, fun _ => rfl, fun _ => rfl⟩
/-- The data of whole numbers, of rows. -/
def DI {H : Type} (k : IntKind) (n : Int) (x : DataW H) : Prop := x = .lit (.int k n) ∧ (Lit.int k n).wf = true
def DB {H : Type} (b : Bool) (x : DataW H) : Prop := x = .lit (.bool b)
inductive DAll {H α : Type} (S : α → DataW H → Prop) : List α → List (DataW H) → Prop
  | nil : DAll S [] []
  | cons {a : α} {x : DataW H} {us : List α} {xs : List (DataW H)} : S a x → DAll S us xs → DAll S (a :: us) (x :: xs)
def DS {H α : Type} (S : α → DataW H → Prop) (xs : List α) (x : DataW H) : Prop := xs.length ≤ 9223372036854775807 ∧ ((xs = [] ∧ x = .nil) ∨ ∃ es rest, x = .slice es rest ∧ DAll S xs es)
theorem DAll.mem {H α : Type} {S : α → DataW H → Prop} {us : List α} {xs : List (DataW H)} (h : DAll S us xs) {a : α} (ha : a ∈ us) : ∃ x, x ∈ xs ∧ S a x := by
  induction h with
  | nil => cases ha
  | cons h0 _ ih =>
    rcases List.mem_cons.1 ha with rfl | ha
    · exact ⟨_, List.mem_cons_self, h0⟩
    · obtain ⟨x, hx, hs⟩ := ih ha
      exact ⟨x, List.mem_cons_of_mem _ hx, hs⟩
theorem DAll.length {H α : Type} {S : α → DataW H → Prop} {us : List α} {xs : List (DataW H)} (h : DAll S us xs) : us.length = xs.length := by
  induction h with
  | nil => rfl
  | cons _ _ ih => simp [ih]
theorem DS.mem {H α : Type} {S : α → DataW H → Prop} {xs : List α} {x : DataW H} (h : DS S xs x) {a : α} (ha : a ∈ xs) : ∃ y, S a y := by
  rcases h.2 with ⟨rfl, _⟩ | ⟨es, rest, _, h⟩
  · cases ha
  · obtain ⟨y, _, hs⟩ := h.mem ha
    exact ⟨y, hs⟩
theorem DAll.of_get {H α : Type} {S : α → DataW H → Prop} : ∀ {us : List α} {xs : List (DataW H)}, us.length = xs.length → (∀ (i : Nat) (a : α) (x : DataW H), us[i]? = some a → xs[i]? = some x → S a x) → DAll S us xs
  | [], [], _, _ => .nil
  | [], _ :: _, h, _ => by simp at h
  | _ :: _, [], h, _ => by simp at h
  | a :: us, x :: xs, h, hg => .cons (hg 0 a x rfl rfl) (DAll.of_get (by simpa using h) fun i b y hb hy => hg (i + 1) b y (by simpa using hb) (by simpa using hy))
section
variable {H α β : Type} {enc : TypeId × Value → H} {P : Program} {w : World} {n : Nat} {t e : TypeId}
theorem Enc.pv_cells (d : Enc α) (a : α) (hc : ∀ q ∈ d.cells a, q.isCell = true) : (d.pv a).cells = d.cells a := by
  unfold Enc.pv
  cases ha : d.agg with
  | true => rfl
  | false =>
    simp only [Bool.false_eq_true, if_false]
    have h1 := d.one ha
    have h2 := d.len a
    match hcs : d.cells a with
    | [] => rw [hcs] at h2; simp at h2; omega
    | [q] =>
      have := hc q (by rw [hcs]; exact List.mem_cons_self)
      simp only [List.headD_cons]
      cases q <;> simp_all [PV.cells, PV.isCell]
    | q :: r :: l => rw [hcs] at h2; simp at h2; omega
theorem RdsAt.zero (t : TypeId) (d : Enc α) (S : α → DataW H → Prop) : RdsAt enc P w 0 t d S := by
  intro cs x h
  simp [DataW.trod] at h
theorem RdsAt.int {k : IntKind} (ht : P.underlying t = some (.int k)) : RdsAt enc P w n t (eInt k) (DI k) := by
  intro cs x h
  obtain ⟨m, rfl, rfl, hw⟩ := DataW.trod_int ht h
  refine ⟨m, rfl, fun j q u hq hu => ?_, rfl, hw⟩
  cases j with
  | zero => simp [eInt] at hq hu; subst hq; subst hu; exact ⟨rfl, .v rfl⟩
  | succ j => simp [eInt] at hq
theorem RdsAt.bool (ht : P.underlying t = some .bool) : RdsAt enc P w n t eBool DB := by
  intro cs x h
  obtain ⟨b, rfl, rfl⟩ := DataW.trod_bool ht h
  refine ⟨b, rfl, fun j q u hq hu => ?_, rfl⟩
  cases j with
  | zero => simp [eBool] at hq hu; subst hq; subst hu; exact ⟨rfl, .v rfl⟩
  | succ j => simp [eBool] at hq
theorem mapM_get {f : α → Option β} : ∀ {l : List α} {r : List β}, l.mapM f = some r → r.length = l.length ∧ ∀ (i : Nat) (x : α), l[i]? = some x → f x = r[i]?
  | [], r, h => by simp at h; subst h; simp
  | a :: l, r, h => by
    simp only [List.mapM_cons, Option.bind_eq_bind, Option.bind_eq_some_iff, Option.pure_def, Option.some.injEq] at h
    obtain ⟨b, hb, r', hr, rfl⟩ := h
    obtain ⟨h1, h2⟩ := mapM_get hr
    refine ⟨by simp [h1], fun i x hx => ?_⟩
    cases i with
    | zero => simp at hx; subst hx; simpa using hb
    | succ i => simp at hx; simpa using h2 i x hx
theorem cells?_get {w : World} {a : Addr} {n : Nat} {cs : List Value} (h : w.cells? 0 a n = some cs) : cs.length = n ∧ ∀ (i : Nat) (u : Value), cs[i]? = some u → w.cell? (a.add i) = some u := by
  simp only [World.cells?, Nat.zero_le, if_true] at h
  obtain ⟨h1, h2⟩ := mapM_get h
  refine ⟨by simpa using h1, fun i u hu => ?_⟩
  have hi : i < n := by have := (List.getElem?_eq_some_iff.1 hu).1; simp at h1; omega
  rw [h2 i i (by simp [hi]), hu]
theorem exists_list {p : Nat → α → Prop} : ∀ (m : Nat), (∀ i, i < m → ∃ a, p i a) → ∃ l : List α, l.length = m ∧ ∀ (i : Nat) (a : α), l[i]? = some a → p i a
  | 0, _ => ⟨[], rfl, fun i a h => by simp at h⟩
  | m + 1, h => by
    obtain ⟨l, hl, hp⟩ := exists_list m (fun i hi => h i (by omega))
    obtain ⟨a, ha⟩ := h m (by omega)
    refine ⟨l ++ [a], by simp [hl], fun i b hb => ?_⟩
    rcases Nat.lt_or_ge i l.length with hi | hi
    · rw [List.getElem?_append_left hi] at hb
      exact hp i b hb
    · have : i = l.length := by
        have := (List.getElem?_eq_some_iff.1 hb).1
        simp at this
        omega
      subst this
      simp at hb
      subst hb
      rw [hl]
      exact ha
theorem RdsAt.slice {d : Enc α} {S : α → DataW H → Prop} (ht : P.underlying t = some (.slice e)) (hc : P.cellsOf e = d.sz) (h0 : 0 < d.sz) (h : RdsAt enc P w n e d S) : RdsAt enc P w (n + 1) t (eSl d) (DS S) := by
  intro cs x hx
  rcases DataW.trod_slice ht hx with ⟨rfl, rfl⟩ | ⟨a, len, cap, elems, rest, m, hm, rfl, rfl, _, hl, hcap, hlen, hel, _⟩
  · refine ⟨[], rfl, fun j q u hq hu => ?_, by simp, .inl ⟨rfl, rfl⟩⟩
    cases j with
    | zero => simp [eSl] at hq hu; subst hq; subst hu; exact ⟨rfl, .sl0⟩
    | succ j => simp [eSl] at hq
  · obtain rfl : n = m := by omega
    have key : ∀ i, i < len → ∃ p : α, (∀ (j : Nat), j < d.sz → ∃ q u, (d.cells p)[j]? = some q ∧ w.cell? (a.add (i * d.sz + j)) = some u ∧ q.isCell = true ∧ PRep (g0 w) q u) ∧ ∃ y, elems[i]? = some y ∧ S p y.1 := by
      intro i hi
      have h1 := hel i hi
      rw [List.getElem?_eq_getElem (by omega : i < elems.length)] at h1
      obtain ⟨c, hc1, hc2⟩ := Option.bind_eq_some_iff.mp h1
      obtain ⟨p, hp1, hp2, hs⟩ := h c _ hc2
      obtain ⟨k1, k2⟩ := cells?_get hc1
      refine ⟨p, fun j hj => ?_, _, List.getElem?_eq_getElem (by omega), hs⟩
      have hjc : j < c.length := by omega
      have hjd : j < (d.cells p).length := by rw [d.len]; exact hj
      obtain ⟨g1, g2⟩ := hp2 j _ _ (List.getElem?_eq_getElem hjd) (List.getElem?_eq_getElem hjc)
      refine ⟨_, _, List.getElem?_eq_getElem hjd, ?_, g1, g2⟩
      have := k2 j _ (List.getElem?_eq_getElem hjc)
      rwa [Deep.add_add, hc] at this
    obtain ⟨ps, hpl, hps⟩ := exists_list len key
    have hcell : ∀ p ∈ ps, ∀ q ∈ d.cells p, q.isCell = true := fun p hp q hq => by
      obtain ⟨i, hi, rfl⟩ := List.getElem_of_mem hp
      obtain ⟨j, hj, rfl⟩ := List.getElem_of_mem hq
      rw [d.len] at hj
      obtain ⟨q', u, e1, e2, e3, e4⟩ := (hps i _ (List.getElem?_eq_getElem hi)).1 j hj
      rw [List.getElem?_eq_getElem (by rw [d.len]; exact hj)] at e1
      cases e1
      exact e3
    have hpv : ∀ p ∈ ps, (d.pv p).cells = d.cells p := fun p hp => d.pv_cells p (hcell p hp)
    refine ⟨ps, rfl, fun j q u hq hu => ?_, by rw [hpl]; unfold maxLen at hcap; omega, .inr ⟨_, _, rfl, ?_⟩⟩
    · cases j with
      | succ j => simp [eSl] at hq
      | zero =>
        simp [eSl] at hq hu
        subst hq
        subst hu
        refine ⟨rfl, ?_⟩
        match hlen0 : len with
        | 0 =>
          have : ps = [] := List.length_eq_zero_iff.1 hpl
          subst this
          exact .sl0
        | m + 1 =>
        have hl0 : 0 < ps.length := by omega
        -- the block of the row
        obtain ⟨q0, u0, _, e2, _, _⟩ := (hps 0 _ (List.getElem?_eq_getElem hl0)).1 0 h0
        rw [show 0 * d.sz + 0 = 0 by omega, show a.add 0 = a by simp [Addr.add]] at e2
        obtain ⟨hs, c, hg, _⟩ := cell_g0 e2
        obtain ⟨ab, ao, as0⟩ := a
        simp only at hs hg
        subst hs
        have hadd : ∀ k, (⟨ab, ao, none⟩ : Addr).add k = ⟨ab, ao + k, none⟩ := fun k => by
          unfold Addr.add
          split
          · rename_i hk; subst hk; rfl
          · rfl
        have hcells : ∀ (i : Nat) (p : α), ps[i]? = some p → ∀ (j : Nat), j < d.sz → ∃ q u, (d.cells p)[j]? = some q ∧ c[ao + i * d.sz + j]? = some u ∧ q.isCell = true ∧ PRep (g0 w) q u := fun i p hp j hj => by
          obtain ⟨q, u, e1, e2, e3, e4⟩ := (hps i p hp).1 j hj
          rw [hadd] at e2
          obtain ⟨_, c', hg', hcu⟩ := cell_g0 e2
          simp only at hg' hcu
          rw [hg] at hg'
          cases hg'
          exact ⟨q, u, e1, by rw [Nat.add_assoc]; exact hcu, e3, e4⟩
        have hrep : ∀ (i : Nat) (x : PV) (j : Nat) (q : PV) (u : Value), (ps.map d.pv)[i]? = some x → x.cells[j]? = some q → c[ao + i * d.sz + j]? = some u → q.isCell = true ∧ PRep (g0 w) q u := fun i x j q u hx hq hu => by
          rw [List.getElem?_map] at hx
          cases hp : ps[i]? with
          | none => simp [hp] at hx
          | some p =>
            simp only [hp, Option.map_some, Option.some.injEq] at hx
            subst hx
            rw [hpv p (List.mem_of_getElem? hp)] at hq
            have hj : j < d.sz := by rw [← d.len p]; exact (List.getElem?_eq_some_iff.1 hq).1
            obtain ⟨q', u', e1, e2, e3, e4⟩ := hcells i p hp j hj
            rw [hq] at e1
            rw [hu] at e2
            cases e1; cases e2
            exact ⟨e3, e4⟩
        have hlast : ao + ps.length * d.sz ≤ c.size := by
          obtain ⟨q, u, _, e2, _⟩ := hcells (ps.length - 1) _ (List.getElem?_eq_getElem (by omega)) (d.sz - 1) (by omega)
          have := (Array.getElem?_eq_some_iff.1 e2).1
          have e : ps.length * d.sz = (ps.length - 1) * d.sz + d.sz := by
            rw [← Nat.succ_mul]
            congr 1
            omega
          omega
        have hfin := PRep.sl (g := g0 w) (sz := d.sz) (b := ab) (o := ao) (cap := cap) (xs := ps.map d.pv) (c := c) hg (by simp [hpl]; omega) (by simpa using hlast) (fun x hx => by
            obtain ⟨p, hp, rfl⟩ := List.mem_map.1 hx
            rw [hpv p hp, d.len]) (fun i x j q u hx hq hu => (hrep i x j q u hx hq hu).1) (fun i x j q u hx hq hu => (hrep i x j q u hx hq hu).2)
        rw [List.length_map, hpl] at hfin
        exact hfin
    · refine DAll.of_get (by simp [hpl, hlen]) fun i p y hp hy => ?_
      obtain ⟨_, z, hz, hs⟩ := hps i p hp
      rw [List.getElem?_map, hz] at hy
      simp at hy
      subst hy
      exact hs
/-- What is read at a type, as0 a value of its own. -/
theorem rds_pv {d : Enc α} {S : α → DataW H → Prop} (h : ∀ n, RdsAt enc P w n t d S) {v : Value} {x : DataW H} {ps : List MemPlace} (hag : d.agg = false → v.cells = #[v]) (hag' : d.agg = true → ∃ vs, v = .agg vs) (hv : DataW.Trod enc P w 0 (fun _ => true) true t v x ps) : ∃ a, PRep (g0 w) (d.pv a) v ∧ S a x := by
  obtain ⟨fuel, hf⟩ := hv
  obtain ⟨a, h1, h2, h3⟩ := h fuel _ _ hf
  refine ⟨a, ?_, h3⟩
  unfold Enc.pv
  cases ha : d.agg with
  | true =>
    obtain ⟨vs, rfl⟩ := hag' ha
    simp only [if_true]
    have e : (Value.agg vs).cells = vs := rfl
    rw [e] at h1 h2
    refine .agg (by rw [d.len]; simpa using h1) (fun q hq => ?_) (fun j q u hq hu => (h2 j q u hq (by simpa using hu)).2)
    obtain ⟨j, hj, rfl⟩ := List.getElem_of_mem hq
    have hj' : j < vs.size := by rw [d.len] at hj; simp at h1; omega
    exact (h2 j _ vs[j] (List.getElem?_eq_getElem hj) (by simp [hj'])).1
  | false =>
    simp only [Bool.false_eq_true, if_false]
    have hl := d.len a
    rw [d.one ha] at hl
    obtain ⟨q, hq⟩ := List.length_eq_one_iff.1 hl
    rw [hq]
    simp only [List.headD_cons]
    rw [hag ha] at h2
    exact (h2 0 q v (by rw [hq]; rfl) rfl).2
end
end Go.Proofs.YtfljialckkgacaaGreatDoor.E
namespace Go.Proofs.YtfljialckkgacaaGreatDoor.E
open Go.RowKit Go.WideMaps Go.WideElems
/-! The seat's own: its functions, its copies, its tables. -/
theorem hm : Tryz.prog.follows .mixedOrders = true := by kernel_rfl
theorem hS : SysOk Tryz.prog env := sys_ok (by kernel_rfl)
def FnOk (f : Nat) (fn : Func) : Prop := Tryz.prog.funcs[f]? = some fn ∧ fn.body.isSome = true ∧ (fn.name == "runtime.NumGoroutine") = false
def AllF : List (Nat × Func) → Prop
  | [] => True
  | p :: l => FnOk p.1 p.2 ∧ AllF l
theorem find_allF : ∀ {l : List (Nat × Func)} {f : Nat} {fn : Func}, AllF l → find l f = some fn → FnOk f fn
  | [], _, _, _, h => by cases h
  | (k, a) :: l, f, fn, hl, h => by
    unfold find at h
    split at h
    · rename_i hk
      cases h
      subst hk
      exact hl.1
    · exact find_allF hl.2 h
theorem fns_all : AllF fns := ⟨⟨Tryz.func3, by kernel_rfl, by kernel_rfl⟩, ⟨Tryz.func4, by kernel_rfl, by kernel_rfl⟩, ⟨Tryz.func5, by kernel_rfl, by kernel_rfl⟩, ⟨Tryz.func6, by kernel_rfl, by kernel_rfl⟩, ⟨Tryz.func7, by kernel_rfl, by kernel_rfl⟩, ⟨Tryz.func8, by kernel_rfl, by kernel_rfl⟩, ⟨Tryz.func9, by kernel_rfl, by kernel_rfl⟩, ⟨Tryz.func10, by kernel_rfl, by kernel_rfl⟩, ⟨Tryz.func11, by kernel_rfl, by kernel_rfl⟩, ⟨Tryz.func12, by kernel_rfl, by kernel_rfl⟩, ⟨Tryz.func13, by kernel_rfl, by kernel_rfl⟩, ⟨Tryz.func14, by kernel_rfl, by kernel_rfl⟩, ⟨Tryz.func15, by kernel_rfl, by kernel_rfl⟩, ⟨Tryz.func16, by kernel_rfl, by kernel_rfl⟩, ⟨Tryz.func17, by kernel_rfl, by kernel_rfl⟩, ⟨Tryz.func18, by kernel_rfl, by kernel_rfl⟩, ⟨Tryz.func19, by kernel_rfl, by kernel_rfl⟩, ⟨Tryz.func20, by kernel_rfl, by kernel_rfl⟩, ⟨Tryz.func21, by kernel_rfl, by kernel_rfl⟩, ⟨Tryz.func22, by kernel_rfl, by kernel_rfl⟩, ⟨Tryz.func23, by kernel_rfl, by kernel_rfl⟩, ⟨Tryz.func24, by kernel_rfl, by kernel_rfl⟩, ⟨Tryz.func25, by kernel_rfl, by kernel_rfl⟩, ⟨Tryz.func26, by kernel_rfl, by kernel_rfl⟩, ⟨Tryz.func27, by kernel_rfl, by kernel_rfl⟩, ⟨Tryz.func28, by kernel_rfl, by kernel_rfl⟩, ⟨Tryz.func29, by kernel_rfl, by kernel_rfl⟩, ⟨Tryz.func30, by kernel_rfl, by kernel_rfl⟩, ⟨Tryz.func31, by kernel_rfl, by kernel_rfl⟩, ⟨Tryz.func32, by kernel_rfl, by kernel_rfl⟩, ⟨Tryz.func33, by kernel_rfl, by kernel_rfl⟩, ⟨Tryz.func34, by kernel_rfl, by kernel_rfl⟩, ⟨Tryz.func35, by kernel_rfl, by kernel_rfl⟩, ⟨Tryz.func36, by kernel_rfl, by kernel_rfl⟩, ⟨Tryz.func37, by kernel_rfl, by kernel_rfl⟩, ⟨Tryz.func38, by kernel_rfl, by kernel_rfl⟩, ⟨Tryz.func39, by kernel_rfl, by kernel_rfl⟩, ⟨Tryz.func40, by kernel_rfl, by kernel_rfl⟩, ⟨Tryz.func41, by kernel_rfl, by kernel_rfl⟩, ⟨Tryz.func42, by kernel_rfl, by kernel_rfl⟩, ⟨Tryz.func43, by kernel_rfl, by kernel_rfl⟩, ⟨Tryz.func44, by kernel_rfl, by kernel_rfl⟩, ⟨Tryz.func45, by kernel_rfl, by kernel_rfl⟩, ⟨Tryz.func46, by kernel_rfl, by kernel_rfl⟩, ⟨Tryz.func47, by kernel_rfl, by kernel_rfl⟩, ⟨Tryz.func48, by kernel_rfl, by kernel_rfl⟩, ⟨Tryz.func49, by kernel_rfl, by kernel_rfl⟩, ⟨Tryz.func50, by kernel_rfl, by kernel_rfl⟩, ⟨Tryz.func51, by kernel_rfl, by kernel_rfl⟩, ⟨Tryz.func52, by kernel_rfl, by kernel_rfl⟩, ⟨Tryz.func53, by kernel_rfl, by kernel_rfl⟩, ⟨Tryz.func54, by kernel_rfl, by kernel_rfl⟩, ⟨Tryz.func55, by kernel_rfl, by kernel_rfl⟩, ⟨Tryz.func56, by kernel_rfl, by kernel_rfl⟩, ⟨Tryz.func57, by kernel_rfl, by kernel_rfl⟩, ⟨Tryz.func58, by kernel_rfl, by kernel_rfl⟩, ⟨Tryz.func59, by kernel_rfl, by kernel_rfl⟩, ⟨Tryz.func60, by kernel_rfl, by kernel_rfl⟩, ⟨Tryz.func61, by kernel_rfl, by kernel_rfl⟩, ⟨Tryz.func62, by kernel_rfl, by kernel_rfl⟩, ⟨Tryz.func63, by kernel_rfl, by kernel_rfl⟩, ⟨Tryz.func64, by kernel_rfl, by kernel_rfl⟩, ⟨Tryz.func65, by kernel_rfl, by kernel_rfl⟩, ⟨Tryz.func66, by kernel_rfl, by kernel_rfl⟩, ⟨Tryz.func67, by kernel_rfl, by kernel_rfl⟩, ⟨Tryz.func68, by kernel_rfl, by kernel_rfl⟩, ⟨Tryz.func69, by kernel_rfl, by kernel_rfl⟩, ⟨Tryz.func70, by kernel_rfl, by kernel_rfl⟩, ⟨Tryz.func71, by kernel_rfl, by kernel_rfl⟩, ⟨Tryz.func72, by kernel_rfl, by kernel_rfl⟩, ⟨Tryz.func73, by kernel_rfl, by kernel_rfl⟩, ⟨Tryz.func74, by kernel_rfl, by kernel_rfl⟩, ⟨Tryz.func75, by kernel_rfl, by kernel_rfl⟩, ⟨Tryz.func76, by kernel_rfl, by kernel_rfl⟩, ⟨Tryz.func77, by kernel_rfl, by kernel_rfl⟩, ⟨Tryz.func78, by kernel_rfl, by kernel_rfl⟩, ⟨Tryz.func79, by kernel_rfl, by kernel_rfl⟩, ⟨Tryz.func80, by kernel_rfl, by kernel_rfl⟩, ⟨Tryz.func81, by kernel_rfl, by kernel_rfl⟩, ⟨Tryz.func82, by kernel_rfl, by kernel_rfl⟩, ⟨Tryz.func83, by kernel_rfl, by kernel_rfl⟩, ⟨Tryz.func84, by kernel_rfl, by kernel_rfl⟩, ⟨Tryz.func85, by kernel_rfl, by kernel_rfl⟩, ⟨Tryz.func86, by kernel_rfl, by kernel_rfl⟩, ⟨Tryz.func87, by kernel_rfl, by kernel_rfl⟩, ⟨Tryz.func88, by kernel_rfl, by kernel_rfl⟩, ⟨Tryz.func89, by kernel_rfl, by kernel_rfl⟩, ⟨Tryz.func90, by kernel_rfl, by kernel_rfl⟩, ⟨Tryz.func91, by kernel_rfl, by kernel_rfl⟩, ⟨Tryz.func92, by kernel_rfl, by kernel_rfl⟩, ⟨Tryz.func93, by kernel_rfl, by kernel_rfl⟩, ⟨Tryz.func94, by kernel_rfl, by kernel_rfl⟩, ⟨Tryz.func95, by kernel_rfl, by kernel_rfl⟩, ⟨Tryz.func96, by kernel_rfl, by kernel_rfl⟩, ⟨Tryz.func97, by kernel_rfl, by kernel_rfl⟩, ⟨Tryz.func98, by kernel_rfl, by kernel_rfl⟩, ⟨Tryz.func99, by kernel_rfl, by kernel_rfl⟩, ⟨Tryz.func100, by kernel_rfl, by kernel_rfl⟩, ⟨Tryz.func101, by kernel_rfl, by kernel_rfl⟩, ⟨Tryz.func102, by kernel_rfl, by kernel_rfl⟩, ⟨Tryz.func103, by kernel_rfl, by kernel_rfl⟩, ⟨Tryz.func104, by kernel_rfl, by kernel_rfl⟩, ⟨Tryz.func105, by kernel_rfl, by kernel_rfl⟩, ⟨Tryz.func106, by kernel_rfl, by kernel_rfl⟩, ⟨Tryz.func107, by kernel_rfl, by kernel_rfl⟩, ⟨Tryz.func108, by kernel_rfl, by kernel_rfl⟩, ⟨Tryz.func109, by kernel_rfl, by kernel_rfl⟩, ⟨Tryz.func110, by kernel_rfl, by kernel_rfl⟩, ⟨Tryz.func111, by kernel_rfl, by kernel_rfl⟩, ⟨Tryz.func112, by kernel_rfl, by kernel_rfl⟩, ⟨Tryz.func113, by kernel_rfl, by kernel_rfl⟩, ⟨Tryz.func114, by kernel_rfl, by kernel_rfl⟩, ⟨Tryz.func115, by kernel_rfl, by kernel_rfl⟩, ⟨Tryz.func116, by kernel_rfl, by kernel_rfl⟩, ⟨Tryz.func117, by kernel_rfl, by kernel_rfl⟩, ⟨Tryz.func118, by kernel_rfl, by kernel_rfl⟩, ⟨Tryz.func119, by kernel_rfl, by kernel_rfl⟩, ⟨Tryz.func120, by kernel_rfl, by kernel_rfl⟩, ⟨Tryz.func121, by kernel_rfl, by kernel_rfl⟩, ⟨Tryz.func122, by kernel_rfl, by kernel_rfl⟩, ⟨Tryz.func123, by kernel_rfl, by kernel_rfl⟩, ⟨Tryz.func124, by kernel_rfl, by kernel_rfl⟩, ⟨Tryz.func125, by kernel_rfl, by kernel_rfl⟩, ⟨Tryz.func126, by kernel_rfl, by kernel_rfl⟩, ⟨Tryz.func127, by kernel_rfl, by kernel_rfl⟩, ⟨Tryz.func128, by kernel_rfl, by kernel_rfl⟩, ⟨Tryz.func129, by kernel_rfl, by kernel_rfl⟩, ⟨Tryz.func130, by kernel_rfl, by kernel_rfl⟩, ⟨Tryz.func131, by kernel_rfl, by kernel_rfl⟩, ⟨Tryz.func132, by kernel_rfl, by kernel_rfl⟩, ⟨Tryz.func133, by kernel_rfl, by kernel_rfl⟩, ⟨Tryz.func134, by kernel_rfl, by kernel_rfl⟩, ⟨Tryz.func135, by kernel_rfl, by kernel_rfl⟩, ⟨Tryz.func136, by kernel_rfl, by kernel_rfl⟩, ⟨Tryz.func137, by kernel_rfl, by kernel_rfl⟩, ⟨Tryz.func138, by kernel_rfl, by kernel_rfl⟩, ⟨Tryz.func139, by kernel_rfl, by kernel_rfl⟩, ⟨Tryz.func140, by kernel_rfl, by kernel_rfl⟩, ⟨Tryz.func141, by kernel_rfl, by kernel_rfl⟩, ⟨Tryz.func142, by kernel_rfl, by kernel_rfl⟩, ⟨Tryz.func143, by kernel_rfl, by kernel_rfl⟩, ⟨Tryz.func144, by kernel_rfl, by kernel_rfl⟩, ⟨Tryz.func145, by kernel_rfl, by kernel_rfl⟩, ⟨Tryz.func146, by kernel_rfl, by kernel_rfl⟩, ⟨Tryz.func147, by kernel_rfl, by kernel_rfl⟩, ⟨Tryz.func164, by kernel_rfl, by kernel_rfl⟩, ⟨Tryz.func165, by kernel_rfl, by kernel_rfl⟩, ⟨Tryz.func166, by kernel_rfl, by kernel_rfl⟩, ⟨Tryz.func167, by kernel_rfl, by kernel_rfl⟩, ⟨Tryz.func168, by kernel_rfl, by kernel_rfl⟩, trivial⟩
theorem hfn : ∀ f fn, find fns f = some fn → Tryz.prog.funcs[f]? = some fn ∧ fn.body.isSome = true ∧ (fn.name == "runtime.NumGoroutine") = false := fun f fn h => find_allF fns_all h
-- the copies
def opsOf : Code → List Oper
  | .region _ ops _ => ops.toList
  | _ => []
def idOf : Code → Nat
  | .region id _ _ => id
  | _ => 0
noncomputable def clB : Code := Tryz.f146.body.getD .skip
noncomputable def cl0 : Oper := (opsOf (sub clB [1, 0, 0]))[0]?.getD { dst := none, op := .move (.tmp 0), type := 0, pos := "", after := #[], guard := none }
noncomputable def cl1 : Oper := (opsOf (sub clB [1, 0, 0]))[1]?.getD { dst := none, op := .move (.tmp 0), type := 0, pos := "", after := #[], guard := none }
theorem cl_hw (xs : List PV) (st1 : St) (h : evC env cf0 8 146 1 0 (sub clB [0]) ⟨fun t => (([.pv (.sl 1 xs)] : List AV)[t]?).getD .dead, []⟩ = some (.normal, st1)) : st1.sl 0 = .pv (.sl 1 xs) := by
  have : (evC env cf0 8 146 1 0 (sub clB [0]) ⟨fun t => (([.pv (.sl 1 xs)] : List AV)[t]?).getD .dead, []⟩).map (fun r => r.2.sl 0) = some (.pv (.sl 1 xs)) := by kernel_rfl
  rw [h] at this
  simpa using this
theorem cl_k2 : clK env 8 146 Tryz.f146.results.toList (sub clB [0]) (.seq (sub clB [1, 0, 1, 0, 0]) .ret) 1 [] = some (.ret (.slu 5 1 []), []) := by kernel_rfl
theorem cl_k3 (xs : List PV) : clK env 8 146 Tryz.f146.results.toList (sub clB [0]) (.seq (sub clB [1, 1, 0]) .ret) 1 xs = cond (roomy (([] : List PV).length + xs.length) 1) (some (.ret (.slu 5 1 xs), [])) none := by kernel_rfl
theorem hcln : ClnOk Tryz.prog env := by
  intro f q hq
  have he : env.cln = [(146, (5, 1, 1))] := rfl
  rw [he] at hq
  unfold find at hq
  split at hq
  · rename_i hk
    cases hq
    subst hk
    refine ⟨⟨_, Tryz.func146, by kernel_rfl, by kernel_rfl⟩, fun args H out H' hc G w vs pre => ?_⟩
    exact cln_gen hm hS Tryz.func146 (T := 36) (e := 5) (id1 := idOf (sub clB [1, 0, 0])) (o0 := cl0) (o1 := cl1) (R0 := sub clB [0]) (R2 := sub clB [1, 0, 1, 0, 0]) (R3 := sub clB [1, 1, 0]) Tryz.underlying36 (by kernel_rfl) (by kernel_rfl) (by kernel_rfl) (by kernel_rfl) (by kernel_rfl) (by kernel_rfl) (by kernel_rfl) (of_decide_eq_true (by kernel_rfl)) cl_hw cl_k2 (fun xs h => (cl_k3 xs).trans (by rw [show ([] : List PV).length + xs.length = xs.length from Nat.zero_add _, h]; rfl)) hc pre
  · cases hq
end Go.Proofs.YtfljialckkgacaaGreatDoor.E
namespace Go.Proofs.YtfljialckkgacaaGreatDoor.E
open Go.RowKit Go.WideMaps Go.WideElems
set_option maxRecDepth 100000
/-! The seat's tables, out of what is laid. -/
def tabI (i : Nat) : Int := [0, 1, 8, 16, 32, 64, 64, 0].getD i 0
theorem gDec : Tryz.prog.globalNamed "capnp/pointer.decoders" = some 1 := by kernel_rfl
theorem tDec : (Tryz.prog.globals[1]?).map (·.type) = some 166 := by kernel_rfl
theorem zFunc (W : World) : (zeroValue 120).run Tryz.prog W = .ok .nilFunc W := by kernel_rfl
def decD : DataW (List UInt8) := .map [(.int .i64 0, .held [99, 97, 112, 110, 112, 47, 112, 111, 105, 110, 116, 101, 114, 46, 100, 101, 99, 111, 100, 101, 114, 115, 36, 49]), (.int .i64 1, .held [99, 97, 112, 110, 112, 47, 112, 111, 105, 110, 116, 101, 114, 46, 100, 101, 99, 111, 100, 101, 114, 115, 36, 50]), (.int .i64 2, .held [99, 97, 112, 110, 112, 47, 112, 111, 105, 110, 116, 101, 114, 46, 100, 101, 99, 111, 100, 101, 114, 115, 36, 51]), (.int .i64 3, .held [99, 97, 112, 110, 112, 47, 112, 111, 105, 110, 116, 101, 114, 46, 100, 101, 99, 111, 100, 101, 114, 115, 36, 52])]
def DecOk (w : World) : Prop := ∃ bm es clock, w.cell? ⟨1, 0, none⟩ = some (.map (some bm)) ∧ w.heap[bm]? = some (.map es clock) ∧
    ∀ W : World, W.heap[bm]? = some (.map es clock) →
      (Instr.lookup 166 (.map (some bm)) (.int .i64 0) false).run Tryz.prog W = .ok (.func (.func 164) #[] #[]) W ∧
      (Instr.lookup 166 (.map (some bm)) (.int .i64 1) false).run Tryz.prog W = .ok (.func (.func 166) #[] #[]) W ∧
      (Instr.lookup 166 (.map (some bm)) (.int .i64 2) false).run Tryz.prog W = .ok (.func (.func 167) #[] #[]) W ∧
      (Instr.lookup 166 (.map (some bm)) (.int .i64 3) false).run Tryz.prog W = .ok (.func (.func 168) #[] #[]) W
theorem dec_of_laid {W : World} {l : List (String × DataW Unit)} (h : laidMetH Tryz.prog l W) (hm : ("capnp/pointer.decoders", Rows.laid_capnp_pointer_decoders) ∈ l) : DecOk W := by
  obtain ⟨g, t, cs, fuel, p, hg, ht, hv, hd⟩ := h.funcs hm
  obtain rfl := Option.some.inj (gDec.symm.trans hg)
  obtain rfl := Option.some.inj (tDec.symm.trans ht)
  have hd' : DataW.trod (funcToken Tryz.prog) Tryz.prog W 0 (fun _ => true) true fuel 166 cs.toList = some (decD, p) := hd
  rcases open_map Tryz.underlying166 hd' with ⟨_, hx⟩ | ⟨bm, es, clock, n, rfl, hcs, hb, _, F, hx⟩
  · simp [decD] at hx
  simp only [Prod.mk.injEq] at hx
  have hcell : W.cell? ⟨1, 0, none⟩ = some (.map (some bm)) := by
    have := World.var?_cell hg hv 0
    rw [Array.eq_one_of_toList hcs] at this
    simpa using this
  refine ⟨bm, es, clock, hcell, hb, fun W' hb' => ?_⟩
  have key : ∀ (k : Int) (f : FuncId) (b : UInt8) (r : List UInt8), (Lit.int .i64 k).wf = true → (∀ zd, DataW.atKey (.map ((es.toList.map (rg Tryz.prog 3 (elemAt (funcToken Tryz.prog) Tryz.prog W 0 (fun _ => true) true n 120))).foldr DataW.insert [])) (.int .i64 k) zd = .held (b :: r)) →
      ((List.range Tryz.prog.funcs.size).filter fun f => (Tryz.prog.funcs[f]?).any (·.name.toUTF8.data.toList == b :: r)) = [f] →
      (Instr.lookup 166 (.map (some bm)) (.int .i64 k) false).run Tryz.prog W' = .ok (.func (.func f) #[] #[]) W' := by
    intro k f b r hwf hat0 hone
    rcases Maps.fit_look false (Maps.int_keyed Tryz.underlying3) Tryz.underlying166 (zFunc W') hb' F (Maps.keyOf_int_mk Tryz.underlying3 hwf) with ⟨_, _, hat⟩ | ⟨e0, y, _, _, hrun, hRv, hat, _⟩
    · have := hat .nil
      rw [hat0] at this
      cases this
    · have h1 := hat .nil
      rw [hat0] at h1
      obtain ⟨y1, y2⟩ := y
      simp only at h1
      subst h1
      unfold elemAt at hRv
      split at hRv
      · rename_i hf
        have hv1 : e0.val.cells.toList = [e0.val] := by
          cases he : e0.val <;> simp_all [Value.cells, Value.formed, Tryz.underlying120]
        rw [hv1] at hRv
        have := func_of_trod Tryz.underlying120 hone hRv
        rw [this] at hrun
        simpa using hrun
      · cases hRv
  exact ⟨key 0 164 _ _ rfl (fun zd => by rw [← hx.1]; rfl) (by kernel_rfl), key 1 166 _ _ rfl (fun zd => by rw [← hx.1]; rfl) (by kernel_rfl), key 2 167 _ _ rfl (fun zd => by rw [← hx.1]; rfl) (by kernel_rfl), key 3 168 _ _ rfl (fun zd => by rw [← hx.1]; rfl) (by kernel_rfl)⟩
theorem gBits : Tryz.prog.globalNamed "capnp/listsize.bits" = some 0 := by kernel_rfl
theorem tBits : (Tryz.prog.globals[0]?).map (·.type) = some 153 := by kernel_rfl
theorem bits_of_laid {W : World} {l : List (String × DataW Unit)} (h : laidMetH Tryz.prog l W) (hf : l.filter (fun x => x.2.handleName?.isNone) = [("capnp/listsize.bits", Rows.laid_capnp_listsize_bits)]) : ∀ i : Nat, i < 8 → W.cell? ⟨0, i, none⟩ = some (.int .i64 (tabI i)) := by
  have h1 := (laidMetH_iff.1 h).1
  rw [hf] at h1
  have ht : Lib.TabIs Tryz.prog W "capnp/listsize.bits" .i64 [0, 1, 8, 16, 32, 64, 64, 0] := Lib.tabIs_of_head (rest := []) gBits tBits Tryz.underlying153 Tryz.underlying3 (by kernel_rfl) (by kernel_rfl) h1
  exact fun i hi => ht.cell gBits i hi
theorem mrel_dec {w : World} (h : DecOk w) : ∃ v c, g0 w 1 = some c ∧ c[0]? = some v ∧ MRel Tryz.prog env (G0 w) w 1 v := by
  obtain ⟨bm, es, clock, h1, h2, h3⟩ := h
  obtain ⟨_, c, hc, hv⟩ := cell_g0 h1
  refine ⟨_, c, hc, hv, bm, es, clock, rfl, if_pos (Array.getElem?_eq_some_iff.1 h2).1, h2, fun W hW l n p hl hp => ?_⟩
  obtain rfl : l = (166, [(0, 164), (1, 166), (2, 167), (3, 168)]) := (Option.some.inj hl).symm
  obtain ⟨k0, k1, k2, k3⟩ := h3 W hW
  simp only [List.find?_cons, List.find?_nil] at hp
  split at hp
  · rename_i hn; cases hp; obtain rfl : (0 : Int) = n := by simpa using hn
    exact k0
  · split at hp
    · rename_i hn; cases hp; obtain rfl : (1 : Int) = n := by simpa using hn
      exact k1
    · split at hp
      · rename_i hn; cases hp; obtain rfl : (2 : Int) = n := by simpa using hn
        exact k2
      · split at hp
        · rename_i hn; cases hp; obtain rfl : (3 : Int) = n := by simpa using hn
          exact k3
        · cases hp
theorem erel_bits {w : World} (h : ∀ i : Nat, i < 8 → w.cell? ⟨0, i, none⟩ = some (.int .i64 (tabI i))) : ERel (G0 w) (.agg [.v (.int .i64 0), .v (.int .i64 1), .v (.int .i64 8), .v (.int .i64 16), .v (.int .i64 32), .v (.int .i64 64), .v (.int .i64 64), .v (.int .i64 0)]) 0 (.pointer (some ⟨0, 0, none⟩)) := by
  obtain ⟨_, c, hc, h7⟩ := cell_g0 (h 7 (by decide))
  have hsz := (Array.getElem?_eq_some_iff.1 h7).1
  refine ⟨_, c, 0, hc, rfl, ?_, fun j q u hq hu => ?_⟩
  · show 0 + 8 ≤ c.size
    simp only at hsz
    omega
  · have hj : j < 8 := (List.getElem?_eq_some_iff.1 hq).1
    obtain ⟨_, c', hc', hj'⟩ := cell_g0 (h j hj)
    obtain rfl : c = c' := Option.some.inj (hc.symm.trans hc')
    rw [Nat.zero_add] at hu
    simp only at hj'
    rw [hj'] at hu
    cases hu
    match j, hj with
    | 0, _ | 1, _ | 2, _ | 3, _ | 4, _ | 5, _ | 6, _ | 7, _ => cases hq; exact ⟨rfl, .v rfl⟩
theorem wok_of_laid {w : World} {l : List (String × DataW Unit)} (h : laidMetH Tryz.prog l w) (hm : ("capnp/pointer.decoders", Rows.laid_capnp_pointer_decoders) ∈ l) (hf : l.filter (fun x => x.2.handleName?.isNone) = [("capnp/listsize.bits", Rows.laid_capnp_listsize_bits)]) : WOk Tryz.prog env (G0 w) w := by
  refine wok0 (fun g l hl => ?_) (fun g p hp => ?_)
  · have hg : g = 1 := by
      have he : env.maps = [(1, (166, [(0, 164), (1, 166), (2, 167), (3, 168)]))] := rfl
      rw [he] at hl
      unfold find at hl
      split at hl
      · rename_i hk; exact hk.symm
      · cases hl
    subst hg
    exact mrel_dec (dec_of_laid h hm)
  · have he : env.glob = [(0, .agg [.v (.int .i64 0), .v (.int .i64 1), .v (.int .i64 8), .v (.int .i64 16), .v (.int .i64 32), .v (.int .i64 64), .v (.int .i64 64), .v (.int .i64 0)])] := rfl
    rw [he] at hp
    unfold find at hp
    split at hp
    · rename_i hk
      cases hp
      subst hk
      exact erel_bits (bits_of_laid h hf)
    · cases hp
end Go.Proofs.YtfljialckkgacaaGreatDoor.E
namespace Go.Proofs.YtfljialckkgacaaGreatDoor.E
open Go.RowKit
set_option maxRecDepth 100000
/-! What is read of the arguments. -/
def lit_i64 (n : Int) : Prop := (Lit.int .i64 n).wf = true
theorem bound_u64 {n : Int} (h : (Lit.int .u64 n).wf = true) : Word n := by
  simp [Lit.wf, IntKind.min, IntKind.max, IntKind.signed, IntKind.bits] at h
  unfold Word
  omega
theorem bound_u8 {n : Int} (h : (Lit.int .u8 n).wf = true) : Byte n := by
  simp [Lit.wf, IntKind.min, IntKind.max, IntKind.signed, IntKind.bits] at h
  unfold Byte
  omega
abbrev eWords : Enc (List Int) := eSl (eInt .u64)
abbrev eSegs : Enc (List (List Int)) := eSl eWords
theorem plain_words {H : Type} {l : List Int} {x : DataW H} (h : DS (DI .u64) l x) : Words l := ⟨h.1, fun n hn => by obtain ⟨y, hy⟩ := h.mem hn; exact bound_u64 hy.2⟩
theorem plain_segs {H : Type} {l : List (List Int)} {x : DataW H} (h : DS (DS (DI .u64)) l x) : Segs l := ⟨h.1, fun s hs => by obtain ⟨y, hy⟩ := h.mem hs; exact plain_words hy⟩
theorem rd_words {H : Type} {enc : TypeId × Value → H} {w : World} (n : Nat) : RdsAt enc Tryz.prog w n 27 eWords (DS (DI .u64)) := by
  cases n with
  | zero => exact RdsAt.zero _ _ _
  | succ n => exact RdsAt.slice Tryz.underlying27 (by kernel_rfl) (by decide) (RdsAt.int Tryz.underlying48)
theorem rd_segs {H : Type} {enc : TypeId × Value → H} {w : World} (n : Nat) : RdsAt enc Tryz.prog w n 22 eSegs (DS (DS (DI .u64))) := by
  cases n with
  | zero => exact RdsAt.zero _ _ _
  | succ n => exact RdsAt.slice Tryz.underlying22 (by kernel_rfl) (by decide) (rd_words n)
/-- Limits. -/
def eLim : Enc (Int × Int × Int) := ⟨fun t => [I t.1, I t.2.1, I t.2.2], 3, true, fun _ => rfl, fun h => by cases h⟩
def DLim {H : Type} (t : Int × Int × Int) (x : DataW H) : Prop := lit_i64 t.1 ∧ lit_i64 t.2.1 ∧ lit_i64 t.2.2
theorem rd_lim {H : Type} {enc : TypeId × Value → H} {w : World} (n : Nat) : RdsAt enc Tryz.prog w n 24 eLim DLim := by
  intro cs x h
  obtain ⟨xs, n, rfl, rfl, hl, hlen, hf⟩ := DataW.trod_struct Tryz.underlying24 h
  have hc : cs.length = 3 := hl.trans (by kernel_rfl)
  obtain ⟨c0, c1, c2, rfl⟩ : ∃ c0 c1 c2, cs = [c0, c1, c2] := by
    match cs, hc with
    | [c0, c1, c2], _ => exact ⟨c0, c1, c2, rfl⟩
  obtain ⟨x0, x1, x2, rfl⟩ : ∃ x0 x1 x2, xs = [x0, x1, x2] := by
    match xs, (show xs.length = 3 from hlen.trans (by kernel_rfl)) with
    | [x0, x1, x2], _ => exact ⟨x0, x1, x2, rfl⟩
  have z0 : Tryz.prog.cellsOf 3 = 1 := by kernel_rfl
  have h0 : DataW.trod enc Tryz.prog w 0 (fun _ => true) true n 3 (([c0, c1, c2].drop 0).take (Tryz.prog.cellsOf 3)) = [x0, x1, x2][0]? := hf 0 _ rfl
  have h1 : DataW.trod enc Tryz.prog w 0 (fun _ => true) true n 3 (([c0, c1, c2].drop 1).take (Tryz.prog.cellsOf 3)) = [x0, x1, x2][1]? := hf 1 _ rfl
  have h2 : DataW.trod enc Tryz.prog w 0 (fun _ => true) true n 3 (([c0, c1, c2].drop 2).take (Tryz.prog.cellsOf 3)) = [x0, x1, x2][2]? := hf 2 _ rfl
  rw [z0] at h0 h1 h2
  obtain ⟨m0, e0, f0, w0⟩ := DataW.trod_int Tryz.underlying3 (show DataW.trod enc Tryz.prog w 0 (fun _ => true) true n 3 [c0] = some x0 from h0)
  obtain ⟨m1, e1, f1, w1⟩ := DataW.trod_int Tryz.underlying3 (show DataW.trod enc Tryz.prog w 0 (fun _ => true) true n 3 [c1] = some x1 from h1)
  obtain ⟨m2, e2, f2, w2⟩ := DataW.trod_int Tryz.underlying3 (show DataW.trod enc Tryz.prog w 0 (fun _ => true) true n 3 [c2] = some x2 from h2)
  cases e0; cases e1; cases e2
  refine ⟨(m0, m1, m2), rfl, fun j q u hq hu => ?_, w0, w1, w2⟩
  match j with
  | 0 => cases hq; cases hu; exact ⟨rfl, .v rfl⟩
  | 1 => cases hq; cases hu; exact ⟨rfl, .v rfl⟩
  | 2 => cases hq; cases hu; exact ⟨rfl, .v rfl⟩
  | j + 3 => simp [eLim] at hq
end Go.Proofs.YtfljialckkgacaaGreatDoor.E
namespace Go.Proofs.YtfljialckkgacaaGreatDoor.E
open Go.RowKit
set_option maxRecDepth 100000
/-! Nodes as arguments. -/
mutual
def nsz : Nd → Nat
  | .mk k e n d ks => 1 + d.length + nszs ks
def nszs : List Nd → Nat
  | [] => 0
  | x :: l => nsz x + nszs l
end
mutual
def raw : Nd → Prop
  | .mk k e n d ks => (∀ b ∈ d, Byte b) ∧ raws ks
def raws : List Nd → Prop
  | [] => True
  | x :: l => raw x ∧ raws l
end
def DNode {H : Type} (x : Nd) (y : DataW H) : Prop := nsz x ≤ Rows.uptoBulk y ∧ raw x
theorem bulk_one {H : Type} (d : DataW H) : 1 ≤ Rows.uptoBulk d := by
  cases d with
  | lit l => cases l <;> simp [Rows.uptoBulk]
  | nil => simp [Rows.uptoBulk]
  | ptr d => simp [Rows.uptoBulk]
  | slice elems spare => simp [Rows.uptoBulk]
  | agg parts => simp [Rows.uptoBulk]
  | iface t d => simp [Rows.uptoBulk]
  | map entries => simp [Rows.uptoBulk]
  | held h => simp [Rows.uptoBulk]
theorem bulk_len {H : Type} : ∀ l : List (DataW H), l.length ≤ Rows.uptoBulkAll l
  | [] => Nat.zero_le _
  | x :: l => by have := bulk_one x; have := bulk_len l; rw [Rows.uptoBulkAll, List.length_cons]; omega
theorem bulk_nodes {H : Type} {us : List Nd} {xs : List (DataW H)} (h : DAll DNode us xs) : nszs us ≤ Rows.uptoBulkAll xs ∧ raws us := by
  induction h with
  | nil => exact ⟨Nat.le_refl _, by rw [raws]; trivial⟩
  | cons h0 _ ih => rw [nszs, Rows.uptoBulkAll, raws]; exact ⟨by have := h0.1; have := ih.1; omega, h0.2, ih.2⟩
theorem slice_nodes {H : Type} {us : List Nd} {x : DataW H} (h : DS DNode us x) : nszs us + 1 ≤ Rows.uptoBulk x ∧ raws us := by
  rcases h.2 with ⟨rfl, rfl⟩ | ⟨es, rest, rfl, h'⟩
  · exact ⟨by rw [Rows.uptoBulk, nszs]; omega, by rw [raws]; trivial⟩
  · have := bulk_nodes h'
    exact ⟨by rw [Rows.uptoBulk]; omega, this.2⟩
theorem slice_bytes {H : Type} {us : List Int} {x : DataW H} (h : DS (DI .u8) us x) : us.length + 1 ≤ Rows.uptoBulk x ∧ ∀ b ∈ us, Byte b := by
  refine ⟨?_, fun b hb => ?_⟩
  · rcases h.2 with ⟨rfl, rfl⟩ | ⟨es, rest, rfl, h'⟩
    · rw [Rows.uptoBulk, List.length_nil]; omega
    · have := h'.length
      have := bulk_len es
      rw [Rows.uptoBulk]
      omega
  · obtain ⟨y, hy⟩ := h.mem hb
    exact bound_u8 hy.2
def eNode : Enc Nd := ⟨Nd.c, 5, true, fun _ => rfl, fun h => by cases h⟩
theorem eNode_pv : eNode.pv = Nd.pv := funext fun x => (Nd.pv_c x).symm
theorem rd_node {H : Type} {enc : TypeId × Value → H} {w : World} (n : Nat) : RdsAt enc Tryz.prog w n 39 eNode DNode := by
  induction n using Nat.strongRecOn with
  | _ fuel ih =>
  intro cs x h
  obtain ⟨xs, n, rfl, rfl, hl, hlen, hf⟩ := DataW.trod_struct Tryz.underlying39 h
  have hc : cs.length = 5 := hl.trans (by kernel_rfl)
  obtain ⟨c0, c1, c2, c3, c4, rfl⟩ : ∃ c0 c1 c2 c3 c4, cs = [c0, c1, c2, c3, c4] := by
    match cs, hc with
    | [c0, c1, c2, c3, c4], _ => exact ⟨c0, c1, c2, c3, c4, rfl⟩
  obtain ⟨x0, x1, x2, x3, x4, rfl⟩ : ∃ x0 x1 x2 x3 x4, xs = [x0, x1, x2, x3, x4] := by
    match xs, (show xs.length = 5 from hlen.trans (by kernel_rfl)) with
    | [x0, x1, x2, x3, x4], _ => exact ⟨x0, x1, x2, x3, x4, rfl⟩
  have z0 : Tryz.prog.cellsOf 3 = 1 := by kernel_rfl
  have z3 : Tryz.prog.cellsOf 36 = 1 := by kernel_rfl
  have z4 : Tryz.prog.cellsOf 37 = 1 := by kernel_rfl
  have h0 : DataW.trod enc Tryz.prog w 0 (fun _ => true) true n 3 (([c0, c1, c2, c3, c4].drop 0).take (Tryz.prog.cellsOf 3)) = [x0, x1, x2, x3, x4][0]? := hf 0 _ rfl
  have h1 : DataW.trod enc Tryz.prog w 0 (fun _ => true) true n 3 (([c0, c1, c2, c3, c4].drop 1).take (Tryz.prog.cellsOf 3)) = [x0, x1, x2, x3, x4][1]? := hf 1 _ rfl
  have h2 : DataW.trod enc Tryz.prog w 0 (fun _ => true) true n 3 (([c0, c1, c2, c3, c4].drop 2).take (Tryz.prog.cellsOf 3)) = [x0, x1, x2, x3, x4][2]? := hf 2 _ rfl
  have h3 : DataW.trod enc Tryz.prog w 0 (fun _ => true) true n 36 (([c0, c1, c2, c3, c4].drop 3).take (Tryz.prog.cellsOf 36)) = [x0, x1, x2, x3, x4][3]? := hf 3 _ rfl
  have h4 : DataW.trod enc Tryz.prog w 0 (fun _ => true) true n 37 (([c0, c1, c2, c3, c4].drop 4).take (Tryz.prog.cellsOf 37)) = [x0, x1, x2, x3, x4][4]? := hf 4 _ rfl
  simp only [z0, z3, z4, List.drop_zero, List.drop_succ_cons, List.take_succ_cons, List.take_zero, zL, zM] at h0 h1 h2 h3 h4
  obtain ⟨m0, e0, f0, w0⟩ := DataW.trod_int Tryz.underlying3 h0
  obtain ⟨m1, e1, f1, w1⟩ := DataW.trod_int Tryz.underlying3 h1
  obtain ⟨m2, e2, f2, w2⟩ := DataW.trod_int Tryz.underlying3 h2
  cases e0; cases e1; cases e2
  obtain ⟨l3, a3, p3, s3⟩ := (show RdsAt enc Tryz.prog w n 36 (eSl (eInt .u8)) (DS (DI .u8)) from by
    cases n with
    | zero => exact RdsAt.zero _ _ _
    | succ m => exact RdsAt.slice Tryz.underlying36 (by kernel_rfl) (by decide) (RdsAt.int Tryz.underlying5)) _ _ h3
  obtain ⟨l4, a4, p4, s4⟩ := (show RdsAt enc Tryz.prog w n 37 (eSl eNode) (DS DNode) from by
    cases n with
    | zero => exact RdsAt.zero _ _ _
    | succ m => exact RdsAt.slice Tryz.underlying37 (by kernel_rfl) (by decide) (ih m (by omega))) _ _ h4
  have b3 := slice_bytes s3
  have b4 := slice_nodes s4
  have g3 := p3 0 _ c3 rfl rfl
  have g4 := p4 0 _ c4 rfl rfl
  rw [eNode_pv, ← pvs_eq] at g4
  refine ⟨.mk m0 m1 m2 l3 l4, rfl, fun j q u hq hu => ?_, ?_, by rw [raw]; exact ⟨b3.2, b4.2⟩⟩
  · match j with
    | 0 => cases hq; cases hu; exact ⟨rfl, .v rfl⟩
    | 1 => cases hq; cases hu; exact ⟨rfl, .v rfl⟩
    | 2 => cases hq; cases hu; exact ⟨rfl, .v rfl⟩
    | 3 => cases hq; cases hu; exact g3
    | 4 => cases hq; cases hu; exact g4
    | j + 5 => simp [eNode, Nd.c] at hq
  · rw [nsz]
    simp only [List.map_cons, List.map_nil, Rows.uptoBulk, Rows.uptoBulkAll]
    omega
/-- A node of a size that the law speaks of. -/
def Big (x : Nd) : Prop := nsz x ≤ 1048576 ∧ raw x
theorem plain_node {H : Type} {x : Nd} {y : DataW H} (h : DNode x y) (hb : Rows.uptoBulk y ≤ 1048576) : Big x := ⟨Nat.le_trans h.1 hb, h.2⟩
end Go.Proofs.YtfljialckkgacaaGreatDoor.E
namespace Go.Proofs.YtfljialckkgacaaGreatDoor.E
/-! Any node: whether it is small, well-formed and trimmed. -/
theorem nsz_pos (x : Nd) : 1 ≤ nsz x := by cases x; rw [nsz]; omega
theorem nszs_mem : ∀ {l : List Nd} {x : Nd}, x ∈ l → nsz x ≤ nszs l
  | [], x, h => by cases h
  | y :: l, x, h => by
    rw [nszs]
    rcases List.mem_cons.1 h with rfl | h
    · omega
    · have := nszs_mem h; omega
theorem nszs_len : ∀ l : List Nd, l.length ≤ nszs l
  | [] => Nat.zero_le _
  | x :: l => by have := nszs_len l; have := nsz_pos x; rw [nszs, List.length_cons]; omega
theorem raws_iff : ∀ {l : List Nd}, raws l ↔ ∀ x ∈ l, raw x
  | [] => by rw [raws]; simp
  | x :: l => by rw [raws, raws_iff (l := l)]; simp
theorem nszs_drop : ∀ (l : List Nd) (i : Nat) (h : i < l.length), nszs (l.drop i) = nsz l[i] + nszs (l.drop (i + 1)) := fun l i h => by
  rw [List.drop_eq_getElem_cons h, nszs]
mutual
def nst : Nd → Nat
  | .mk k e n d ks => 1 + nsts ks
def nsts : List Nd → Nat
  | [] => 0
  | x :: l => max (nst x) (nsts l)
end
theorem nst_pos (x : Nd) : 1 ≤ nst x := by cases x; rw [nst]; omega
theorem nsts_mem : ∀ {l : List Nd} {x : Nd}, x ∈ l → nst x ≤ nsts l
  | [], x, h => by cases h
  | y :: l, x, h => by
    rw [nsts]
    rcases List.mem_cons.1 h with rfl | h
    · omega
    · have := nsts_mem h; omega
mutual
theorem nst_le : ∀ x : Nd, nst x ≤ nsz x
  | .mk k e n d ks => by rw [nst, nsz]; have := nsts_le ks; omega
theorem nsts_le : ∀ l : List Nd, nsts l ≤ nszs l
  | [] => Nat.le_refl _
  | x :: l => by rw [nsts, nszs]; have := nst_le x; have := nsts_le l; omega
end
theorem nsts_drop (l : List Nd) (i : Nat) (h : i < l.length) : nsts (l.drop i) = max (nst l[i]) (nsts (l.drop (i + 1))) := by
  rw [List.drop_eq_getElem_cons h, nsts]
theorem size_loop {l : List Nd} (hl : nszs l ≤ 1048576) (hv : ∀ x ∈ l, ev 40 [.pv x.pv] [] = ok (I (nsz x : Nat))) (a b c : Int) (x : List PV) : ∀ (c0 i s : Nat), i + c0 = l.length → s + nszs (l.drop i) ≤ 4194304 → capnpref10_Size_L0 s i a b c x (pvs l) = ok (I ((s + nszs (l.drop i) : Nat) : Int)) := by
  have hll := nszs_len l
  intro c0
  induction c0 with
  | zero =>
    intro i s hi hs
    rw [capnpref10_Size_L0_eq, pvs_len, decide_eq_false (by omega), List.drop_eq_nil_of_le (by omega)]
    rfl
  | succ c0 ih =>
    intro i s hi hs
    have hil : i < l.length := by omega
    rw [nszs_drop l i hil] at hs ⊢
    rw [capnpref10_Size_L0_eq, pvs_len, decide_eq_true (show (i : Int) < (l.length : Int) by omega), decide_eq_true (show 0 ≤ (i : Int) by omega)]
    dsimp only [za, zb, zc, zN, ze, zf, zg, zh, zi, zj, zu, zv, zx, zy, zL, zM, zk, zl, zm, zn, zo, zq, zr, zs, zt, zA, zC, zD, zE, zF, zG, zH, zI, zJ, zK]
    rw [Int.toNat_natCast, pvs_get hil]
    dsimp only [za, zb, zc, zN, ze, zf, zg, zh, zi, zj, zu, zv, zx, zy, zL, zM, zk, zl, zm, zn, zo, zq, zr, zs, zt, zA, zC, zD, zE, zF, zG, zH, zI, zJ, zK]
    rw [nd_five, nd_take5, hv _ (List.getElem_mem hil)]
    dsimp only [za, zb, zc, zN, ze, zf, zg, zh, zi, zj, zu, zv, zx, zy, zL, zM, zk, zl, zm, zn, zo, zq, zr, zs, zt, zA, zC, zD, zE, zF, zG, zH, zI, zJ, zK]
    rw [w64 (x := (i : Int) + 1) (by omega), w64 (x := (s : Int) + (nsz l[i] : Int)) (by omega)]
    have := ih (i + 1) (s + nsz l[i]) (by omega) (by omega)
    refine (show _ = _ from this).trans ?_
    rw [Nat.add_assoc]
theorem V_Size (x : Nd) : nsz x ≤ 1048576 → ev 40 [.pv x.pv] [] = ok (I (nsz x : Nat)) := by
  induction x using Nd.ind with
  | h k e n d ks ih =>
    intro hs
    rw [nsz] at hs
    have hk : nszs ks ≤ 1048576 := by omega
    have := size_loop hk (fun x hx => ih x hx (by have := nszs_mem hx; omega)) k e n (bs d) ks.length 0 (1 + d.length) (by omega) (by rw [List.drop_zero]; omega)
    rw [List.drop_zero] at this
    rw [pv_x, Nd.x, capnpref10_Size_eq]
    dsimp only [Nd.kind, Nd.elem, Nd.n, Nd.data, Nd.kids]
    rw [bs_len, w64 (by omega), nsz]
    exact this
theorem nest_loop {l : List Nd} (hl : nszs l ≤ 1048576) (hv : ∀ x ∈ l, ev 41 [.pv x.pv] [] = ok (I (nst x : Nat))) (a b c : Int) (x : List PV) : ∀ (c0 i m : Nat), i + c0 = l.length → m ≤ 1048576 → capnpref10_Nesting_L0 m i a b c x (pvs l) = ok (I ((max m (nsts (l.drop i)) + 1 : Nat) : Int)) := by
  have hll := nszs_len l
  have hst := nsts_le l
  intro c0
  induction c0 with
  | zero =>
    intro i m hi hm
    rw [capnpref10_Nesting_L0_eq, pvs_len, decide_eq_false (by omega), List.drop_eq_nil_of_le (by omega), nsts, w64 (x := (m : Int) + 1) (by omega), Nat.max_zero]
    rfl
  | succ c0 ih =>
    intro i m hi hm
    have hil : i < l.length := by omega
    have hn := nst_le l[i]
    have hm2 := nszs_mem (List.getElem_mem hil)
    rw [nsts_drop l i hil]
    rw [capnpref10_Nesting_L0_eq, pvs_len, decide_eq_true (show (i : Int) < (l.length : Int) by omega), decide_eq_true (show 0 ≤ (i : Int) by omega)]
    dsimp only [za, zb, zc, zN, ze, zf, zg, zh, zi, zj, zu, zv, zx, zy, zL, zM, zk, zl, zm, zn, zo, zq, zr, zs, zt, zA, zC, zD, zE, zF, zG, zH, zI, zJ, zK]
    rw [Int.toNat_natCast, pvs_get hil]
    dsimp only [za, zb, zc, zN, ze, zf, zg, zh, zi, zj, zu, zv, zx, zy, zL, zM, zk, zl, zm, zn, zo, zq, zr, zs, zt, zA, zC, zD, zE, zF, zG, zH, zI, zJ, zK]
    rw [nd_five, nd_take5, hv _ (List.getElem_mem hil)]
    dsimp only [za, zb, zc, zN, ze, zf, zg, zh, zi, zj, zu, zv, zx, zy, zL, zM, zk, zl, zm, zn, zo, zq, zr, zs, zt, zA, zC, zD, zE, zF, zG, zH, zI, zJ, zK]
    rw [w64 (x := (i : Int) + 1) (by omega), show (if (nst l[i] : Int) > (m : Int) then (nst l[i] : Int) else (m : Int)) = ((max m (nst l[i]) : Nat) : Int) by split <;> omega]
    have := ih (i + 1) (max m (nst l[i])) (by omega) (by omega)
    refine (show _ = _ from this).trans ?_
    rw [Nat.max_assoc]
theorem V_Nesting (x : Nd) : nsz x ≤ 1048576 → ev 41 [.pv x.pv] [] = ok (I (nst x : Nat)) := by
  induction x using Nd.ind with
  | h k e n d ks ih =>
    intro hs
    rw [nsz] at hs
    have := nest_loop (l := ks) (by omega) (fun x hx => ih x hx (by have := nszs_mem hx; omega)) k e n (bs d) ks.length 0 0 (by omega) (by omega)
    rw [List.drop_zero] at this
    rw [pv_x, Nd.x, capnpref10_Nesting_eq, nst]
    refine (show _ = _ from this).trans ?_
    rw [Nat.zero_max, Nat.add_comm]
theorem trimB_len (e n : Int) (d : List Int) : (trimB e n d).length ≤ d.length + 1 := by
  unfold trimB
  split
  · rw [List.length_append, List.length_take, List.length_singleton]; omega
  · rw [List.length_take]; omega
theorem valid_ex_loop {k e n : Int} {d : List Int} {l : List Nd} (hl : l.length ≤ 1048576) (hd : d.length ≤ 1048576) (hb : ∀ b ∈ d, Byte b) (hv : ∀ x ∈ l, ∃ bl, ev 49 [.pv x.pv] [] = ok (Bo bl) ∧ (bl = true → VN x)) : ∀ (c0 i : Nat), i + c0 = l.length → (∀ x ∈ l.take i, VN x ∧ (k = 2 → e = 7 → x.kind = 1)) → ∃ bl, capnpref10_Valid_L0 i k e n (bs d) (pvs l) = ok (Bo bl) ∧ (bl = true → VN (.mk k e n d l)) := by
  have no : ∀ {P : Prop}, ∃ bl, (some (.ret (.pv (Bo false)), []) : Option (Out × Heap)) = ok (Bo bl) ∧ (bl = true → P) := ⟨false, rfl, fun h => by cases h⟩
  intro c0
  induction c0 with
  | zero =>
    intro i hi ht
    rw [List.take_of_length_le (by omega)] at ht
    have vn : Shp k e n d l.length → VN (.mk k e n d l) := fun h => .mk (fun x hx => (ht x hx).1) (fun a b x hx => (ht x hx).2 a b) h
    rw [capnpref10_Valid_L0_eq, decide_eq_false (by simp; omega), bs_len, pvs_len]
    dsimp only [za, zb, zc, zN, ze, zf, zg, zh, zi, zj, zu, zv, zx, zy, zL, zM, zk, zl, zm, zn, zo, zq, zr, zs, zt, zA, zC, zD, zE, zF, zG, zH, zI, zJ, zK]
    by_cases k0 : k = 0
    · rw [beq_iff_eq.2 k0]
      dsimp only [za, zb, zc, zN, ze, zf, zg, zh, zi, zj, zu, zv, zx, zy, zL, zM, zk, zl, zm, zn, zo, zq, zr, zs, zt, zA, zC, zD, zE, zF, zG, zH, zI, zJ, zK]
      by_cases e0 : e = 0
      · rw [beq_iff_eq.2 e0]
        dsimp only [za, zb, zc, zN, ze, zf, zg, zh, zi, zj, zu, zv, zx, zy, zL, zM, zk, zl, zm, zn, zo, zq, zr, zs, zt, zA, zC, zD, zE, zF, zG, zH, zI, zJ, zK]
        by_cases n0 : n = 0
        · rw [beq_iff_eq.2 n0]
          dsimp only [za, zb, zc, zN, ze, zf, zg, zh, zi, zj, zu, zv, zx, zy, zL, zM, zk, zl, zm, zn, zo, zq, zr, zs, zt, zA, zC, zD, zE, zF, zG, zH, zI, zJ, zK]
          by_cases d0 : (d.length : Int) = 0
          · rw [beq_iff_eq.2 d0]
            exact ⟨_, rfl, fun h => vn (.inl ⟨k0, e0, n0, by omega, by have := beq_iff_eq.1 h; omega⟩)⟩
          · rw [beq_eq_false_iff_ne.2 d0]; exact no
        · rw [beq_eq_false_iff_ne.2 n0]; exact no
      · rw [beq_eq_false_iff_ne.2 e0]; exact no
    · rw [beq_eq_false_iff_ne.2 k0]
      dsimp only [za, zb, zc, zN, ze, zf, zg, zh, zi, zj, zu, zv, zx, zy, zL, zM, zk, zl, zm, zn, zo, zq, zr, zs, zt, zA, zC, zD, zE, zF, zG, zH, zI, zJ, zK]
      by_cases k1 : k = 1
      · rw [beq_iff_eq.2 k1]
        dsimp only [za, zb, zc, zN, ze, zf, zg, zh, zi, zj, zu, zv, zx, zy, zL, zM, zk, zl, zm, zn, zo, zq, zr, zs, zt, zA, zC, zD, zE, zF, zG, zH, zI, zJ, zK]
        by_cases e0 : e = 0
        · rw [beq_iff_eq.2 e0]
          dsimp only [za, zb, zc, zN, ze, zf, zg, zh, zi, zj, zu, zv, zx, zy, zL, zM, zk, zl, zm, zn, zo, zq, zr, zs, zt, zA, zC, zD, zE, zF, zG, zH, zI, zJ, zK]
          by_cases n0 : n = 0
          · rw [beq_iff_eq.2 n0, Int.tmod_eq_emod_of_nonneg (by omega)]
            dsimp only [za, zb, zc, zN, ze, zf, zg, zh, zi, zj, zu, zv, zx, zy, zL, zM, zk, zl, zm, zn, zo, zq, zr, zs, zt, zA, zC, zD, zE, zF, zG, zH, zI, zJ, zK]
            by_cases d0 : (d.length : Int) % 8 = 0
            · rw [beq_iff_eq.2 d0]
              dsimp only [za, zb, zc, zN, ze, zf, zg, zh, zi, zj, zu, zv, zx, zy, zL, zM, zk, zl, zm, zn, zo, zq, zr, zs, zt, zA, zC, zD, zE, zF, zG, zH, zI, zJ, zK]
              by_cases d1 : (d.length : Int) ≤ 524280
              · rw [decide_eq_true d1]
                exact ⟨_, rfl, fun h => vn (.inr (.inl ⟨k1, e0, n0, by omega, by omega, by have := of_decide_eq_true h; omega⟩))⟩
              · rw [decide_eq_false d1]; exact no
            · rw [beq_eq_false_iff_ne.2 d0]; exact no
          · rw [beq_eq_false_iff_ne.2 n0]; exact no
        · rw [beq_eq_false_iff_ne.2 e0]; exact no
      · rw [beq_eq_false_iff_ne.2 k1]
        dsimp only [za, zb, zc, zN, ze, zf, zg, zh, zi, zj, zu, zv, zx, zy, zL, zM, zk, zl, zm, zn, zo, zq, zr, zs, zt, zA, zC, zD, zE, zF, zG, zH, zI, zJ, zK]
        by_cases k2 : k = 2
        · rw [beq_iff_eq.2 k2]
          dsimp only [za, zb, zc, zN, ze, zf, zg, zh, zi, zj, zu, zv, zx, zy, zL, zM, zk, zl, zm, zn, zo, zq, zr, zs, zt, zA, zC, zD, zE, zF, zG, zH, zI, zJ, zK]
          by_cases n0 : n < 0
          · rw [decide_eq_true n0]; exact no
          · rw [decide_eq_false n0]
            dsimp only [za, zb, zc, zN, ze, zf, zg, zh, zi, zj, zu, zv, zx, zy, zL, zM, zk, zl, zm, zn, zo, zq, zr, zs, zt, zA, zC, zD, zE, zF, zG, zH, zI, zJ, zK]
            by_cases n1 : n > 536870911
            · rw [decide_eq_true n1]; exact no
            · rw [decide_eq_false n1]
              dsimp only [za, zb, zc, zN, ze, zf, zg, zh, zi, zj, zu, zv, zx, zy, zL, zM, zk, zl, zm, zn, zo, zq, zr, zs, zt, zA, zC, zD, zE, zF, zG, zH, zI, zJ, zK]
              by_cases e0 : e < 0
              · rw [decide_eq_true e0]; exact no
              · rw [decide_eq_false e0]
                dsimp only [za, zb, zc, zN, ze, zf, zg, zh, zi, zj, zu, zv, zx, zy, zL, zM, zk, zl, zm, zn, zo, zq, zr, zs, zt, zA, zC, zD, zE, zF, zG, zH, zI, zJ, zK]
                by_cases e1 : e > 7
                · rw [decide_eq_true e1]; exact no
                · rw [decide_eq_false e1]
                  dsimp only [za, zb, zc, zN, ze, zf, zg, zh, zi, zj, zu, zv, zx, zy, zL, zM, zk, zl, zm, zn, zo, zq, zr, zs, zt, zA, zC, zD, zE, zF, zG, zH, zI, zJ, zK]
                  by_cases e6 : e ≥ 6
                  · rw [decide_eq_true e6]
                    dsimp only [za, zb, zc, zN, ze, zf, zg, zh, zi, zj, zu, zv, zx, zy, zL, zM, zk, zl, zm, zn, zo, zq, zr, zs, zt, zA, zC, zD, zE, zF, zG, zH, zI, zJ, zK]
                    by_cases d0 : (d.length : Int) = 0
                    · rw [beq_iff_eq.2 d0]
                      exact ⟨_, rfl, fun h => vn (.inr (.inr ⟨k2, ⟨by omega, by omega⟩, ⟨by omega, by omega⟩, fun _ => ⟨by omega, beq_iff_eq.1 h⟩, fun h' => by omega⟩))⟩
                    · rw [beq_eq_false_iff_ne.2 d0]; exact no
                  · rw [decide_eq_false e6]
                    dsimp only [za, zb, zc, zN, ze, zf, zg, zh, zi, zj, zu, zv, zx, zy, zL, zM, zk, zl, zm, zn, zo, zq, zr, zs, zt, zA, zC, zD, zE, zF, zG, zH, zI, zJ, zK]
                    by_cases l0 : (l.length : Int) = 0
                    · rw [show ((l.length : Int) != 0) = false from by simpa using l0, V_rBytesN (e := e) (c := n) ⟨by omega, by omega⟩]
                      dsimp only [za, zb, zc, zN, ze, zf, zg, zh, zi, zj, zu, zv, zx, zy, zL, zM, zk, zl, zm, zn, zo, zq, zr, zs, zt, zA, zC, zD, zE, zF, zG, zH, zI, zJ, zK]
                      by_cases d0 : (d.length : Int) = bytesN e n
                      · rw [show ((d.length : Int) != bytesN e n) = false from by simpa using d0, V_rTrim (e := e) (c := n) ⟨by omega, by omega⟩ hb (by omega)]
                        dsimp only [za, zb, zc, zN, ze, zf, zg, zh, zi, zj, zu, zv, zx, zy, zL, zM, zk, zl, zm, zn, zo, zq, zr, zs, zt, zA, zC, zD, zE, zF, zG, zH, zI, zJ, zK]
                        have htl : (trimB e n d).length ≤ 17592186044416 := by
                          have := trimB_len e n d; omega
                        rw [V_SameB htl (by omega)]
                        refine ⟨_, rfl, fun h => vn (.inr (.inr ⟨k2, ⟨by omega, by omega⟩, ⟨by omega, by omega⟩, fun h' => by omega, fun _ => ⟨by omega, d0, ?_⟩⟩))⟩
                        by_cases ht2 : trimB e n d = d
                        · exact ht2
                        · rw [eqB_f ht2] at h; cases h
                      · rw [show ((d.length : Int) != bytesN e n) = true from by simpa using d0]; exact no
                    · rw [show ((l.length : Int) != 0) = true from by simpa using l0]; exact no
        · rw [beq_eq_false_iff_ne.2 k2]; exact no
  | succ c0 ih =>
    intro i hi ht
    have hil : i < l.length := by omega
    obtain ⟨bl, hbl, hvn⟩ := hv _ (List.getElem_mem hil)
    rw [capnpref10_Valid_L0_eq, decide_eq_true (show (i : Int) < ((pvs l).length : Int) by simp; omega), decide_eq_true (show 0 ≤ (i : Int) by omega)]
    dsimp only [za, zb, zc, zN, ze, zf, zg, zh, zi, zj, zu, zv, zx, zy, zL, zM, zk, zl, zm, zn, zo, zq, zr, zs, zt, zA, zC, zD, zE, zF, zG, zH, zI, zJ, zK]
    rw [Int.toNat_natCast, pvs_get hil]
    dsimp only [za, zb, zc, zN, ze, zf, zg, zh, zi, zj, zu, zv, zx, zy, zL, zM, zk, zl, zm, zn, zo, zq, zr, zs, zt, zA, zC, zD, zE, zF, zG, zH, zI, zJ, zK]
    rw [nd_five, nd_take5, hbl, w64 (x := (i : Int) + 1) (by omega)]
    dsimp only [za, zb, zc, zN, ze, zf, zg, zh, zi, zj, zu, zv, zx, zy, zL, zM, zk, zl, zm, zn, zo, zq, zr, zs, zt, zA, zC, zD, zE, zF, zG, zH, zI, zJ, zK]
    cases bl with
    | false => exact no
    | true =>
      have next : (k = 2 → e = 7 → l[i].kind = 1) → ∃ bl, capnpref10_Valid_L0 ((i : Int) + 1) k e n (bs d) (pvs l) = ok (Bo bl) ∧ (bl = true → VN (.mk k e n d l)) := fun hk => ih (i + 1) (by omega) (fun x hx => by
        rw [take_snoc hil] at hx
        rcases List.mem_append.1 hx with hx | hx
        · exact ht x hx
        · rw [List.mem_singleton.1 hx]; exact ⟨hvn rfl, hk⟩)
      dsimp only [za, zb, zc, zN, ze, zf, zg, zh, zi, zj, zu, zv, zx, zy, zL, zM, zk, zl, zm, zn, zo, zq, zr, zs, zt, zA, zC, zD, zE, zF, zG, zH, zI, zJ, zK]
      by_cases k2 : k = 2
      · rw [beq_iff_eq.2 k2]
        dsimp only [za, zb, zc, zN, ze, zf, zg, zh, zi, zj, zu, zv, zx, zy, zL, zM, zk, zl, zm, zn, zo, zq, zr, zs, zt, zA, zC, zD, zE, zF, zG, zH, zI, zJ, zK]
        by_cases e7 : e = 7
        · rw [beq_iff_eq.2 e7, nd_cell0]
          dsimp only [za, zb, zc, zN, ze, zf, zg, zh, zi, zj, zu, zv, zx, zy, zL, zM, zk, zl, zm, zn, zo, zq, zr, zs, zt, zA, zC, zD, zE, zF, zG, zH, zI, zJ, zK]
          by_cases k1 : l[i].kind = 1
          · rw [show (l[i].kind != 1) = false from by simpa using k1]
            exact next (fun _ _ => k1)
          · rw [show (l[i].kind != 1) = true from by simpa using k1]; exact no
        · rw [beq_eq_false_iff_ne.2 e7]
          exact next (fun _ h => absurd h e7)
      · rw [beq_eq_false_iff_ne.2 k2]
        exact next (fun h => absurd h k2)
theorem valid_ex (x : Nd) : nsz x ≤ 1048576 → raw x → ∃ bl, ev 49 [.pv x.pv] [] = ok (Bo bl) ∧ (bl = true → VN x) := by
  induction x using Nd.ind with
  | h k e n d ks ih =>
    intro hs hr
    rw [nsz] at hs
    rw [raw, raws_iff] at hr
    have hl := nszs_len ks
    rw [pv_x, Nd.x, capnpref10_Valid_eq]
    exact valid_ex_loop (by omega) (by omega) hr.1 (fun x hx => ih x hx (by have := nszs_mem hx; omega) (hr.2 x hx)) ks.length 0 (by omega) (fun x hx => by simp at hx)
theorem trimmed_ex_loop {l : List Nd} (hl : l.length ≤ 1048576) (hv : ∀ x ∈ l, ∃ bl, ev 50 [.pv x.pv] [] = ok (Bo bl) ∧ (bl = true → TrN x)) (a b c : Int) (x : List PV) : ∀ (c0 i : Nat), i + c0 = l.length → (∀ x ∈ l.take i, TrN x) → ∃ bl, capnpref11_Trimmed_L0 i a b c x (pvs l) = ok (Bo bl) ∧ (bl = true → ∀ x ∈ l, TrN x) := by
  intro c0
  induction c0 with
  | zero =>
    intro i hi ht
    rw [List.take_of_length_le (by omega)] at ht
    rw [capnpref11_Trimmed_L0_eq, decide_eq_false (by simp; omega)]
    exact ⟨true, rfl, fun _ => ht⟩
  | succ c0 ih =>
    intro i hi ht
    have hil : i < l.length := by omega
    obtain ⟨bl, hbl, hvn⟩ := hv _ (List.getElem_mem hil)
    rw [capnpref11_Trimmed_L0_eq, decide_eq_true (show (i : Int) < ((pvs l).length : Int) by simp; omega), decide_eq_true (show 0 ≤ (i : Int) by omega)]
    dsimp only [za, zb, zc, zN, ze, zf, zg, zh, zi, zj, zu, zv, zx, zy, zL, zM, zk, zl, zm, zn, zo, zq, zr, zs, zt, zA, zC, zD, zE, zF, zG, zH, zI, zJ, zK]
    rw [Int.toNat_natCast, pvs_get hil]
    dsimp only [za, zb, zc, zN, ze, zf, zg, zh, zi, zj, zu, zv, zx, zy, zL, zM, zk, zl, zm, zn, zo, zq, zr, zs, zt, zA, zC, zD, zE, zF, zG, zH, zI, zJ, zK]
    rw [nd_five, nd_take5, hbl, w64 (x := (i : Int) + 1) (by omega)]
    cases bl with
    | false => exact ⟨false, rfl, fun h => by cases h⟩
    | true =>
      exact ih (i + 1) (by omega) (fun x hx => by
        rw [take_snoc hil] at hx
        rcases List.mem_append.1 hx with hx | hx
        · exact ht x hx
        · rw [List.mem_singleton.1 hx]; exact hvn rfl)
theorem trimmed_ex (x : Nd) : nsz x ≤ 1048576 → ∃ bl, ev 50 [.pv x.pv] [] = ok (Bo bl) ∧ (bl = true → TrN x) := by
  induction x using Nd.ind with
  | h k e n d ks ih =>
    intro hs
    rw [nsz] at hs
    have hl := nszs_len ks
    obtain ⟨bl, hlp, hok⟩ := trimmed_ex_loop (l := ks) (by omega) (fun x hx => ih x hx (by have := nszs_mem hx; omega)) k e n (bs d) ks.length 0 (by omega) (fun x hx => by simp at hx)
    have hlp' : capnpref11_Trimmed_L0 0 k e n (bs d) (pvs ks) = ok (Bo bl) := hlp
    rw [Nd.pv, capnpref11_Trimmed_eq]
    by_cases h1 : k = 1
    · have hw : (wordsT d : Nat) ≤ 17592186044416 := by
        have h3 := keptN_le (· == 0) d
        unfold wordsT
        omega
      rw [beq_iff_eq.2 h1, V_rwords (by omega)]
      dsimp only [za, zb, zc, zN, ze, zf, zg, zh, zi, zj, zu, zv, zx, zy, zL, zM, zk, zl, zm, zn, zo, zq, zr, zs, zt, zA, zC, zD, zE, zF, zG, zH, zI, zJ, zK]
      rw [w64 (x := 8 * ((wordsT d : Nat) : Int)) (by omega), bs_len]
      by_cases u1 : 8 * ((wordsT d : Nat) : Int) = (d.length : Int)
      · rw [show ((8 * ((wordsT d : Nat) : Int)) != (d.length : Int)) = false from by simpa using u1, V_rptrs (by omega)]
        dsimp only [za, zb, zc, zN, ze, zf, zg, zh, zi, zj, zu, zv, zx, zy, zL, zM, zk, zl, zm, zn, zo, zq, zr, zs, zt, zA, zC, zD, zE, zF, zG, zH, zI, zJ, zK]
        rw [pvs_len]
        by_cases u2 : ((ptrsT ks : Nat) : Int) = (ks.length : Int)
        · rw [show (((ptrsT ks : Nat) : Int) != (ks.length : Int)) = false from by simpa using u2]
          exact ⟨bl, hlp', fun h => .mk (fun _ => ⟨by omega, by omega⟩) (hok h)⟩
        · rw [show (((ptrsT ks : Nat) : Int) != (ks.length : Int)) = true from by simpa using u2]
          exact ⟨false, rfl, fun h => by cases h⟩
      · rw [show ((8 * ((wordsT d : Nat) : Int)) != (d.length : Int)) = true from by simpa using u1]
        exact ⟨false, rfl, fun h => by cases h⟩
    · rw [beq_eq_false_iff_ne.2 h1]
      exact ⟨bl, hlp', fun h => .mk (fun h' => absurd h' h1) (hok h)⟩
end Go.Proofs.YtfljialckkgacaaGreatDoor.E
namespace Go.Proofs.YtfljialckkgacaaGreatDoor.E
/-! What a small, well-formed and trimmed node costs. -/
theorem good_of (x : Nd) : VN x → raw x → nsz x ≤ 1048576 → good x := by
  induction x using Nd.ind with
  | h k e n d ks ih =>
    intro hv hr hs
    rw [nsz] at hs
    rw [raw, raws_iff] at hr
    have hl := nszs_len ks
    cases hv with
    | mk v1 v2 v3 =>
      rw [good, goods_iff]
      refine ⟨⟨by omega, hr.1, by omega, fun h1 => ?_⟩, fun x hx => ih x hx (v1 x hx) (hr.2 x hx) (by have := nszs_mem hx; omega)⟩
      rcases v3 with ⟨a, _⟩ | ⟨_, _, _, a, _⟩ | ⟨a, _⟩
      · omega
      · exact a
      · omega
theorem flat_nsz : ∀ l : List Nd, nszs (l.flatMap Nd.kids) + l.length ≤ nszs l
  | [] => Nat.le_refl _
  | x :: l => by
    have h := flat_nsz l
    have ha : ∀ a b : List Nd, nszs (a ++ b) = nszs a + nszs b := fun a b => by
      induction a with
      | nil => rw [List.nil_append, nszs]; omega
      | cons y a ih => rw [List.cons_append, nszs, nszs, ih]; omega
    rw [List.flatMap_cons, ha, List.length_cons, nszs]
    cases x with
    | mk k e n d ks => rw [nsz]; show nszs ks + _ + _ ≤ _; omega
theorem tgt_nsz (x : Nd) : nszs (tgt x) + 1 ≤ nsz x := by
  cases x with
  | mk k e n d ks =>
    rw [tgt_mk, nsz]
    split
    · have := flat_nsz ks; omega
    · omega
theorem tgt_nst {x t : Nd} (h : t ∈ tgt x) : nst t + 1 ≤ nst x := by
  cases x with
  | mk k e n d ks =>
    rw [tgt_mk] at h
    rw [nst]
    split at h
    · obtain ⟨y, hy, ht⟩ := List.mem_flatMap.1 h
      have h1 := nsts_mem hy
      cases y with
      | mk k' e' n' d' ks' =>
        rw [nst] at h1
        have := nsts_mem (show t ∈ ks' from ht)
        omega
    · have := nsts_mem h; omega
theorem dp_of : ∀ (D : Nat) (x : Nd), nst x ≤ D → nsz x ≤ 1048576 → Dp D x
  | 0, x, h, _ => by have := nst_pos x; omega
  | D + 1, x, h, hs => by
    have h1 := tgt_nsz x
    have h2 := nszs_len (tgt x)
    refine .inr ⟨by omega, fun t ht => dp_of D t (by have := tgt_nst ht; omega) (by have := nszs_mem ht; omega)⟩
/-- The bound of a cost. -/
def qd (s : Nat) : Nat := s * s + 8 * s
theorem qd_mono {a b : Nat} (h : a ≤ b) : qd a ≤ qd b := by
  unfold qd
  exact Nat.add_le_add (Nat.mul_le_mul h h) (Nat.mul_le_mul_left 8 h)
theorem qd_add (a b : Nat) : qd a + qd b ≤ qd (a + b) := by
  unfold qd
  have e : (a + b) * (a + b) = a * a + a * b + (b * a + b * b) := by rw [Nat.add_mul, Nat.mul_add, Nat.mul_add]
  omega
theorem kidq {f : Nd → Int} {M : Nat} : ∀ l : List Nd, (∀ t ∈ l, 8 * f t ≤ ((nst t * qd (nsz t) : Nat) : Int)) → (∀ t ∈ l, nst t ≤ M) → 8 * sumL (l.map f) ≤ ((M * qd (nszs l) : Nat) : Int)
  | [], h1, h2 => by rw [List.map_nil, sumL_nil]; omega
  | t :: l, h1, h2 => by
    have a := h1 t List.mem_cons_self
    have b := h2 t List.mem_cons_self
    have c := kidq l (fun y hy => h1 y (List.mem_cons_of_mem _ hy)) (fun y hy => h2 y (List.mem_cons_of_mem _ hy))
    have d : nst t * qd (nsz t) ≤ M * qd (nsz t) := Nat.mul_le_mul_right _ b
    have e := Nat.mul_le_mul_left M (qd_add (nsz t) (nszs l))
    rw [Nat.mul_add] at e
    rw [List.map_cons, sumL_cons, nszs]
    omega
theorem uni_nsz : ∀ l : List Nd, uniD l + uniP l + l.length ≤ nszs l
  | [] => Nat.le_refl _
  | x :: l => by
    have h := uni_nsz l
    have hd : uniD (x :: l) = max (x.data.length / 8) (uniD l) := rfl
    have hp : uniP (x :: l) = max x.kids.length (uniP l) := rfl
    rw [hd, hp, List.length_cons, nszs]
    cases x with
    | mk k e n d ks =>
      rw [nsz]
      have := nszs_len ks
      show max (d.length / 8) _ + max ks.length _ + _ ≤ _
      omega
theorem four_mul (a b : Nat) : 4 * (a * b) ≤ (a + b) * (a + b) := by
  rcases Nat.le_total a b with h | h
  · obtain ⟨c, rfl⟩ := Nat.exists_eq_add_of_le h
    have e1 : a * (a + c) = a * a + a * c := Nat.mul_add ..
    have e2 : (a + (a + c)) * (a + (a + c)) = 4 * (a * a) + 4 * (a * c) + c * c := by
      have : a + (a + c) = 2 * a + c := by omega
      rw [this, Nat.add_mul, Nat.mul_add, Nat.mul_add]
      have f1 : 2 * a * (2 * a) = 4 * (a * a) := by rw [Nat.mul_mul_mul_comm]
      have f2 : 2 * a * c = 2 * (a * c) := Nat.mul_assoc ..
      have f3 : c * (2 * a) = 2 * (a * c) := by rw [Nat.mul_comm, Nat.mul_assoc]
      omega
    rw [e1, e2]; omega
  · obtain ⟨c, rfl⟩ := Nat.exists_eq_add_of_le h
    have e1 : (b + c) * b = b * b + b * c := by rw [Nat.mul_comm, Nat.mul_add]
    have e2 : (b + c + b) * (b + c + b) = 4 * (b * b) + 4 * (b * c) + c * c := by
      have : b + c + b = 2 * b + c := by omega
      rw [this, Nat.add_mul, Nat.mul_add, Nat.mul_add]
      have f1 : 2 * b * (2 * b) = 4 * (b * b) := by rw [Nat.mul_mul_mul_comm]
      have f2 : 2 * b * c = 2 * (b * c) := Nat.mul_assoc ..
      have f3 : c * (2 * b) = 2 * (b * c) := by rw [Nat.mul_comm, Nat.mul_assoc]
      omega
    rw [e1, e2]; omega
theorem own_plain {x : Nd} (hv : VN x) (h7 : ¬ (x.kind = 2 ∧ x.elem = 7)) : ownC x + 1 ≤ nsz x := by
  have he0 : ownC x = objSz x := by unfold ownC; rw [if_neg (fun h => h7 ⟨h.1, h.2.1⟩), Int.add_zero]
  rw [he0]
  clear he0
  cases hv with
  | mk v1 v2 v3 =>
    rename_i k e n d ks
    have h7' : ¬ (k = 2 ∧ e = 7) := h7
    rw [nsz]
    have hl := nszs_len ks
    show (if k = 0 then (0 : Int) else if k = 1 then ((d.length / 8 + ks.length : Nat) : Int) else if e = 7 then 1 + n * ((uniD ks + uniP ks : Nat) : Int) else wordsOf e n) + 1 ≤ _
    rcases v3 with ⟨a, _⟩ | ⟨a, _, _, b, _⟩ | ⟨a, hn, he, h6, hl6⟩
    · rw [if_pos a]; omega
    · rw [if_neg (by omega), if_pos a]; omega
    · rw [if_neg (by omega), if_neg (by omega), if_neg (fun h => h7' ⟨a, h⟩)]
      by_cases e6 : e = 6
      · have := (h6 (by omega)).2
        subst e6
        have hw6 : wordsOf 6 n = n := by unfold wordsOf bitsOf; simp; omega
        rw [hw6]; omega
      · obtain ⟨b1, b2, b3⟩ := hl6 (by omega)
        have : wordsOf e n ≤ bytesN e n := by
          have w1 := (wordsOf_range (e := e) hn).1
          have w2 := (bytesN_range (e := e) hn).1
          unfold wordsOf at w1 ⊢
          unfold bytesN at w2 ⊢
          omega
        omega
theorem own_comp {x : Nd} (hv : VN x) (h7 : x.kind = 2 ∧ x.elem = 7) : 8 * ownC x ≤ ((2 * qd (nsz x) : Nat) : Int) ∧ (x.kids = [] → 8 * ownC x ≤ ((qd (nsz x) : Nat) : Int)) := by
  cases hv with
  | mk v1 v2 v3 =>
    rename_i k e n d ks
    have h7' : k = 2 ∧ e = 7 := h7
    obtain ⟨rfl, rfl⟩ := h7'
    have hn : (ks.length : Int) = n := by
      rcases v3 with ⟨a, _⟩ | ⟨a, _⟩ | ⟨a, hn, he, h6, hl6⟩
      · omega
      · omega
      · exact (h6 (by decide)).2
    have hu := uni_nsz ks
    have ho : ownC (.mk 2 7 n d ks) = (1 + n * ((uniD ks + uniP ks : Nat) : Int)) + (if (2 : Int) = 2 ∧ (7 : Int) = 7 ∧ uniD ks + uniP ks = 0 then n else 0) := rfl
    have hnu : n * ((uniD ks + uniP ks : Nat) : Int) = ((ks.length * (uniD ks + uniP ks) : Nat) : Int) := by rw [← hn]; push_cast; rfl
    have hm := four_mul ks.length (uniD ks + uniP ks)
    have hm2 : (ks.length + (uniD ks + uniP ks)) * (ks.length + (uniD ks + uniP ks)) ≤ nszs ks * nszs ks := Nat.mul_le_mul (by omega) (by omega)
    have hs : nsz (.mk 2 7 n d ks) = 1 + d.length + nszs ks := by rw [nsz]
    have hq : qd (1 + nszs ks) ≤ qd (nsz (.mk 2 7 n d ks)) := qd_mono (by rw [hs]; omega)
    have hq2 : qd (1 + nszs ks) = nszs ks * nszs ks + 10 * nszs ks + 9 := by
      unfold qd
      rw [Nat.add_mul, Nat.one_mul, Nat.mul_add, Nat.mul_one]
      omega
    have hif : (if (2 : Int) = 2 ∧ (7 : Int) = 7 ∧ uniD ks + uniP ks = 0 then n else 0) ≤ n := by split <;> omega
    obtain ⟨z, hz⟩ : ∃ z, z = (if (2 : Int) = 2 ∧ (7 : Int) = 7 ∧ uniD ks + uniP ks = 0 then n else 0) := ⟨_, rfl⟩
    rw [← hz] at ho hif
    have hm3 := Nat.le_trans hm hm2
    clear hm hm2
    rw [ho, hnu]
    generalize ks.length * (uniD ks + uniP ks) = p at hm3 ⊢
    have hs2 : nszs ks = 0 → nszs ks * nszs ks = 0 := fun h => by rw [h]
    generalize nszs ks * nszs ks = s2 at hm3 hq2 hs2
    refine ⟨by omega, fun h => ?_⟩
    have h' : ks = [] := h
    subst h'
    have hn0 : n = 0 := by rw [← hn]; rfl
    have hs0 : nszs ([] : List Nd) = 0 := rfl
    have hp0 := hs2 hs0
    omega
theorem cst_le : ∀ (D : Nat) (x : Nd), VN x → 8 * cstN D x ≤ ((nst x * qd (nsz x) : Nat) : Int)
  | 0, x, hv => by rw [cstN]; omega
  | D + 1, x, hv => by
    rw [cstN]
    split
    · omega
    · have ih : ∀ t ∈ tgt x, 8 * cstN D t ≤ ((nst t * qd (nsz t) : Nat) : Int) := fun t ht => cst_le D t (vn_tgt hv t ht)
      have hp := nst_pos x
      obtain ⟨M, hM⟩ : ∃ M, nst x = M + 1 := ⟨nst x - 1, by omega⟩
      have htq : qd (nszs (tgt x)) ≤ qd (nsz x) := qd_mono (by have := tgt_nsz x; omega)
      by_cases h7 : x.kind = 2 ∧ x.elem = 7
      · obtain ⟨o1, o2⟩ := own_comp hv h7
        by_cases hk : x.kids = []
        · have et : tgt x = [] := by unfold tgt; rw [if_pos h7, hk]; rfl
          have := o2 hk
          have h1 : qd (nsz x) ≤ nst x * qd (nsz x) := Nat.le_mul_of_pos_left _ hp
          rw [et, List.map_nil, sumL_nil]
          omega
        · have h2 : 2 ≤ nst x := by
            cases x with
            | mk k e n d ks =>
              have hk' : ks ≠ [] := hk
              rw [nst]
              obtain ⟨y, l, rfl⟩ := List.exists_cons_of_ne_nil hk'
              have := nst_pos y
              rw [nsts]
              omega
          obtain ⟨P, hP⟩ : ∃ P, nst x = P + 2 := ⟨nst x - 2, by omega⟩
          have hN : ∀ t ∈ tgt x, nst t ≤ P := fun t ht => by
            cases x with
            | mk k e n d ks =>
              rw [tgt_mk, if_pos (show k = 2 ∧ e = 7 from h7)] at ht
              obtain ⟨y, hy, ht⟩ := List.mem_flatMap.1 ht
              have h1 := nsts_mem hy
              rw [nst] at hP
              cases y with
              | mk k' e' n' d' ks' =>
                rw [nst] at h1
                have := nsts_mem (show t ∈ ks' from ht)
                omega
          have hc := kidq (tgt x) ih hN
          have h3 := Nat.mul_le_mul_left P htq
          rw [hP, Nat.add_mul]
          omega
      · have o := own_plain hv h7
        have hN : ∀ t ∈ tgt x, nst t ≤ M := fun t ht => by have := tgt_nst ht; omega
        have hc := kidq (tgt x) ih hN
        have h3 := Nat.mul_le_mul_left M htq
        have h4 : 8 * nsz x ≤ qd (nsz x) := Nat.le_add_left _ _
        rw [hM, Nat.add_mul, Nat.one_mul]
        omega
/-- A node that the laws speak of. -/
structure Rgt (x : Nd) : Prop where
  ok : Ok 40 x
  cst : cstN 40 x ≤ 45120000
  nod : nodSz 40 x ≤ 45120000
theorem rgt_of {x : Nd} (hb : Big x) (h1 : nsz x ≤ 3000) (h2 : nst x ≤ 40) (hv : VN x) (ht : TrN x) : Rgt x := by
  have hd := dp_of 40 x h2 hb.1
  have hc := cst_le 40 x hv
  have h3 : nst x * qd (nsz x) ≤ 40 * qd 3000 := Nat.mul_le_mul h2 (qd_mono h1)
  have h4 : 40 * qd 3000 = 360960000 := by decide
  have hn := nodSz_le 40 hv hd
  exact ⟨⟨hv, ht, good_of x hv hb.2 hb.1, hd⟩, by omega, by omega⟩
theorem V_Right {x : Nd} (hb : Big x) : ∃ bl, ev 25 [.pv x.x] [] = ok (Bo bl) ∧ (bl = true → Rgt x) := by
  have h1 := V_Size x hb.1
  have h2 := V_Nesting x hb.1
  obtain ⟨b3, h3, k3⟩ := valid_ex x hb.1 hb.2
  obtain ⟨b4, h4, k4⟩ := trimmed_ex x hb.1
  have no : ∃ bl, (some (.ret (.pv (Bo false)), []) : Option (Out × Heap)) = ok (Bo bl) ∧ (bl = true → Rgt x) := ⟨false, rfl, fun h => by cases h⟩
  rw [pv_x] at h1 h2 h3 h4
  dsimp only [Nd.x] at h1 h2 h3 h4
  rw [Nd.x, capnpref13_Right_eq, capnpref10_Few_eq, h1]
  dsimp only [za, zb, zc, zN, ze, zf, zg, zh, zi, zj, zu, zv, zx, zy, zL, zM, zk, zl, zm, zn, zo, zq, zr, zs, zt, zA, zC, zD, zE, zF, zG, zH, zI, zJ, zK]
  by_cases c1 : nsz x ≤ 3000
  · rw [decide_eq_true (show (nsz x : Int) ≤ 3000 by omega)]
    dsimp only [za, zb, zc, zN, ze, zf, zg, zh, zi, zj, zu, zv, zx, zy, zL, zM, zk, zl, zm, zn, zo, zq, zr, zs, zt, zA, zC, zD, zE, zF, zG, zH, zI, zJ, zK]
    rw [h2]
    dsimp only [za, zb, zc, zN, ze, zf, zg, zh, zi, zj, zu, zv, zx, zy, zL, zM, zk, zl, zm, zn, zo, zq, zr, zs, zt, zA, zC, zD, zE, zF, zG, zH, zI, zJ, zK]
    by_cases c2 : nst x ≤ 40
    · rw [decide_eq_true (show (nst x : Int) ≤ 40 by omega)]
      dsimp only [za, zb, zc, zN, ze, zf, zg, zh, zi, zj, zu, zv, zx, zy, zL, zM, zk, zl, zm, zn, zo, zq, zr, zs, zt, zA, zC, zD, zE, zF, zG, zH, zI, zJ, zK]
      rw [h3]
      dsimp only [za, zb, zc, zN, ze, zf, zg, zh, zi, zj, zu, zv, zx, zy, zL, zM, zk, zl, zm, zn, zo, zq, zr, zs, zt, zA, zC, zD, zE, zF, zG, zH, zI, zJ, zK]
      cases b3 with
      | false => exact no
      | true =>
        dsimp only [za, zb, zc, zN, ze, zf, zg, zh, zi, zj, zu, zv, zx, zy, zL, zM, zk, zl, zm, zn, zo, zq, zr, zs, zt, zA, zC, zD, zE, zF, zG, zH, zI, zJ, zK]
        rw [h4]
        dsimp only [za, zb, zc, zN, ze, zf, zg, zh, zi, zj, zu, zv, zx, zy, zL, zM, zk, zl, zm, zn, zo, zq, zr, zs, zt, zA, zC, zD, zE, zF, zG, zH, zI, zJ, zK]
        exact ⟨b4, rfl, fun h => rgt_of hb c1 c2 (k3 rfl) (k4 h)⟩
    · rw [decide_eq_false (show ¬ (nst x : Int) ≤ 40 by omega)]; exact no
  · rw [decide_eq_false (show ¬ (nsz x : Int) ≤ 3000 by omega)]; exact no
end Go.Proofs.YtfljialckkgacaaGreatDoor.E
namespace Go.Proofs.YtfljialckkgacaaGreatDoor.E
/-! Chapter 19: hashes of messages; its fixed results and laws. -/
noncomputable def hsh (l : List (List Int)) (d w : Int) : Int := if msgE l d w = 0 then fnvB off (byt (canM l d w)) else 0
noncomputable def siz (l : List (List Int)) (d w : Int) : Int := if msgE l d w = 0 then 8 * ((canM l d w).length : Int) else 0
theorem V_hNode {D : Nat} {x : Nd} (h : Ok D x) (hb : nodSz D x ≤ 134217728) : ev 26 [.pv x.x] [] = ok (U (fnvB off (byt (canW D x)))) := by
  have h1 := V_Write h hb
  have hl := canW_len h
  have h2 := V_fnv (l := canW D x) (by omega)
  dsimp only [Nd.x] at h1 ⊢
  rw [hash_Node_eq, h1]
  dsimp only [za, zb, zc, zN, ze, zf, zg, zh, zi, zj, zu, zv, zx, zy, zL, zM, zk, zl, zm, zn, zo, zq, zr, zs, zt, zA, zC, zD, zE, zF, zG, zH, zI, zJ, zK]
  rw [pSlu_v]
  dsimp only [za, zb, zc, zN, ze, zf, zg, zh, zi, zj, zu, zv, zx, zy, zL, zM, zk, zl, zm, zn, zo, zq, zr, zs, zt, zA, zC, zD, zE, zF, zG, zH, zI, zJ, zK]
  rw [h2]
  rfl
theorem V_hMsg {l : List (List Int)} (hl : Segs l) (hs : Sm l) {d w b : Int} (hd : d ≤ 1099511627775) (hw : w ≤ 134217728) : ev 22 [.pv (.sl 1 (sgs l)), .pv (.agg [I d, I w, I b])] [] = ok (.tup [U (hsh l d w), I (msgE l d w)]) := by
  rw [hash_Message_eq, hash_of_uint64_eq, V_Message hl hs hd (by omega)]
  dsimp only [Nd.x, ↓cl5, za, zb, zc, zN, ze, zf, zg, zh, zi, zj, zu, zv, zx, zy, zL, zM, zk, zl, zm, zn, zo, zq, zr, zs, zt, zA, zC, zD, zE, zF, zG, zH, zI, zJ, zK]
  unfold hsh canM
  by_cases h0 : msgE l d w = 0
  · obtain ⟨ho, hb, _⟩ := msg_small hl hs hw h0
    have h1 := V_hNode ho hb
    dsimp only [Nd.x] at h1
    rw [h0, show ((0 : Int) == 0) = true from rfl, if_pos rfl, if_pos rfl]
    dsimp only [↓cl5, za, zb, zc, zN, ze, zf, zg, zh, zi, zj, zu, zv, zx, zy, zL, zM, zk, zl, zm, zn, zo, zq, zr, zs, zt, zA, zC, zD, zE, zF, zG, zH, zI, zJ, zK]
    rw [h1]
    rfl
  · rw [beq_eq_false_iff_ne.2 h0, if_neg h0]
    rfl
theorem V_hSize {l : List (List Int)} (hl : Segs l) (hs : Sm l) {d w b : Int} (hd : d ≤ 1099511627775) (hw : w ≤ 134217728) : ev 24 [.pv (.sl 1 (sgs l)), .pv (.agg [I d, I w, I b])] [] = ok (.tup [I (siz l d w), I (msgE l d w)]) := by
  rw [hash_Size_eq, hash_of_int_eq, V_Message hl hs hd (by omega)]
  dsimp only [Nd.x, ↓cl5, za, zb, zc, zN, ze, zf, zg, zh, zi, zj, zu, zv, zx, zy, zL, zM, zk, zl, zm, zn, zo, zq, zr, zs, zt, zA, zC, zD, zE, zF, zG, zH, zI, zJ, zK]
  unfold siz canM
  by_cases h0 : msgE l d w = 0
  · obtain ⟨ho, hb, _⟩ := msg_small hl hs hw h0
    have h1 := V_Total13 ho.gd ho.vn ho.dp (by omega)
    have hn := nodSz_nn d.toNat ho.vn
    dsimp only [Nd.x] at h1
    rw [h0, show ((0 : Int) == 0) = true from rfl, if_pos rfl, if_pos rfl]
    dsimp only [↓cl5, za, zb, zc, zN, ze, zf, zg, zh, zi, zj, zu, zv, zx, zy, zL, zM, zk, zl, zm, zn, zo, zq, zr, zs, zt, zA, zC, zD, zE, zF, zG, zH, zI, zJ, zK]
    rw [hash_Size_1_eq, h1]
    dsimp only [↓cl5, za, zb, zc, zN, ze, zf, zg, zh, zi, zj, zu, zv, zx, zy, zL, zM, zk, zl, zm, zn, zo, zq, zr, zs, zt, zA, zC, zD, zE, zF, zG, zH, zI, zJ, zK]
    rw [w64 (x := 8 * (nodSz d.toNat (msgN l d w) + 1)) (by omega), ← canW_len ho]
  · rw [beq_eq_false_iff_ne.2 h0, if_neg h0]
    rfl
theorem canM_words {l : List (List Int)} (hl : Segs l) (hs : Sm l) {d w : Int} (hw : w ≤ 134217728) : Words (canM l d w) := by
  have h1 := canM_len hl hs (d := d) (w := w) hw
  refine ⟨by omega, ?_⟩
  unfold canM
  split
  · rename_i h0
    obtain ⟨ho, hb, _⟩ := msg_small hl hs hw h0
    exact canW_word ho (by omega)
  · exact fun x hx => by cases hx
theorem V_sumB {l : List Int} (hw : Words l) (hl : l.length ≤ 17592186044416) : ev 29 [.pv (.sl 1 (bs (byt l)))] [] = ok (U (fnvB off (byt l))) := V_Sum (byt_byte l) (by rw [byt_len]; omega)
theorem V_rHash {l : List (List Int)} (hl : Segs l) (hs : Sm l) {d w b : Int} (hd : d ≤ 1099511627775) (hw : w ≤ 134217728) : ev 23 [.pv (.sl 1 (sgs l)), .pv (.agg [I d, I w, I b])] [] = ok (.tup [U (hsh l d w), I (msgE l d w)]) := by
  have hcl := canM_len hl hs (d := d) (w := w) hw
  have hcw := canM_words hl hs (d := d) (w := w) hw
  rw [capnpref19_Message_eq, V_rCanon hl hs hd hw]
  dsimp only [za, zb, zc, zN, ze, zf, zg, zh, zi, zj, zu, zv, zx, zy, zL, zM, zk, zl, zm, zn, zo, zq, zr, zs, zt, zA, zC, zD, zE, zF, zG, zH, zI, zJ, zK]
  unfold hsh
  by_cases h0 : msgE l d w = 0
  · rw [h0, show ((0 : Int) != 0) = false from rfl, if_pos rfl]
    dsimp only [za, zb, zc, zN, ze, zf, zg, zh, zi, zj, zu, zv, zx, zy, zL, zM, zk, zl, zm, zn, zo, zq, zr, zs, zt, zA, zC, zD, zE, zF, zG, zH, zI, zJ, zK]
    rw [V_rBytes _ hcw hcl]
    dsimp only [za, zb, zc, zN, ze, zf, zg, zh, zi, zj, zu, zv, zx, zy, zL, zM, zk, zl, zm, zn, zo, zq, zr, zs, zt, zA, zC, zD, zE, zF, zG, zH, zI, zJ, zK]
    rw [V_sumB hcw hcl]
    rfl
  · rw [bne_t h0, if_neg h0]
    rfl
theorem V_rHNode {D : Nat} {x : Nd} (h : Ok D x) (hb : nodSz D x ≤ 134217728) : ev 27 [.pv x.x] [] = ok (U (fnvB off (byt (canW D x)))) := by
  have h1 := V_rWrite h hb
  have hl := canW_len h
  have hw : Words (canW D x) := ⟨by omega, canW_word h (by omega)⟩
  dsimp only [Nd.x] at h1 ⊢
  rw [capnpref19_Node_eq, h1]
  dsimp only [za, zb, zc, zN, ze, zf, zg, zh, zi, zj, zu, zv, zx, zy, zL, zM, zk, zl, zm, zn, zo, zq, zr, zs, zt, zA, zC, zD, zE, zF, zG, zH, zI, zJ, zK]
  rw [V_rBytes _ hw (by omega)]
  dsimp only [za, zb, zc, zN, ze, zf, zg, zh, zi, zj, zu, zv, zx, zy, zL, zM, zk, zl, zm, zn, zo, zq, zr, zs, zt, zA, zC, zD, zE, zF, zG, zH, zI, zJ, zK]
  rw [V_sumB hw (by omega)]
  rfl
-- fixed results
def hA : Int := fnvB off (byt [0])
def hB : Int := fnvB off (byt [4294967296, 5])
theorem hm_eq {l : List (List Int)} {d w e h : Int} (he : msgE l d w = e) (hc : (if msgE l d w = 0 then fnvB off (byt (if msgE l d w = 0 then canW d.toNat (msgN l d w) else [])) else 0) = h) : ok (.tup [U (hsh l d w), I (msgE l d w)]) = ok (.tup [U h, I e]) := by
  unfold hsh canM
  rw [hc, he]
theorem j1 : Segs [[0]] ∧ Sm [[0]] := one_segs (by decide) (by intro x hx; simp at hx; unfold Word; omega)
theorem j2 : Segs [[4294967296, 5]] ∧ Sm [[4294967296, 5]] := one_segs (by decide) (by intro x hx; simp at hx; unfold Word; omega)
theorem j3 : Segs [[4294967298], [8589934592, 5, 0]] ∧ Sm [[4294967298], [8589934592, 5, 0]] := some_segs (by intro s hs; simp at hs; rcases hs with rfl | rfl <;> decide) (by intro s hs x hx; simp at hs; unfold Word; rcases hs with rfl | rfl <;> (simp at hx; omega)) (by decide)
theorem j4 : Segs [[8589934592, 5, 0]] ∧ Sm [[8589934592, 5, 0]] := one_segs (by decide) (by intro x hx; simp at hx; unfold Word; omega)
theorem h19a : ev 22 [.pv (.sl 1 [.sl 1 [U 0]]), .pv (.agg [I 5, I 50, I 0])] [] = ok (.tup [U hA, I 0]) :=
  (V_hMsg j1.1 j1.2 (d := 5) (w := 50) (b := 0) (by decide) (by decide)).trans (hm_eq (by kernel_rfl) (by kernel_rfl))
theorem h19b : ev 22 [.pv (.sl 1 [.sl 1 [U 4294967296, U 5]]), .pv (.agg [I 5, I 50, I 0])] [] = ok (.tup [U hB, I 0]) :=
  (V_hMsg j2.1 j2.2 (d := 5) (w := 50) (b := 0) (by decide) (by decide)).trans (hm_eq (by kernel_rfl) (by kernel_rfl))
theorem h19c : ev 22 [.pv (.sl 1 [.sl 1 [U 4294967298], .sl 1 [U 8589934592, U 5, U 0]]), .pv (.agg [I 5, I 50, I 0])] [] = ok (.tup [U hB, I 0]) :=
  (V_hMsg j3.1 j3.2 (d := 5) (w := 50) (b := 0) (by decide) (by decide)).trans (hm_eq (by kernel_rfl) (by kernel_rfl))
theorem h19d : ev 22 [.pv (.sl 1 [.sl 1 [U 3]]), .pv (.agg [I 5, I 50, I 0])] [] = ok (.tup [U 0, I 6]) :=
  (V_hMsg k3.1 k3.2 (d := 5) (w := 50) (b := 0) (by decide) (by decide)).trans (hm_eq (by kernel_rfl) (by kernel_rfl))
theorem h19n : ev 24 [.pv (.sl 1 [.sl 1 [U 8589934592, U 5, U 0]]), .pv (.agg [I 5, I 50, I 0])] [] = ok (.tup [I 16, I 0]) := by
  have h := V_hSize j4.1 j4.2 (d := 5) (w := 50) (b := 0) (by decide) (by decide)
  have he : msgE [[8589934592, 5, 0]] 5 50 = 0 := by kernel_rfl
  have hc : canW 5 (msgN [[8589934592, 5, 0]] 5 50) = [4294967296, 5] := by kernel_rfl
  unfold siz canM at h
  rw [he, if_pos rfl, if_pos rfl, show (5 : Int).toNat = 5 from rfl, hc] at h
  exact h
theorem h19s : ev 29 [.pv (.sl 1 [U8 0, U8 0, U8 0, U8 0, U8 0, U8 0, U8 0, U8 0])] [] = ok (U hA) := by
  have h := V_Sum (l := [0, 0, 0, 0, 0, 0, 0, 0]) (by intro b hb; simp at hb; unfold Byte; omega) (by decide)
  rw [show fnvB off [0, 0, 0, 0, 0, 0, 0, 0] = hA from by kernel_rfl] at h
  exact h
theorem o19 : Ok 2 nd0 := ⟨vn0, .mk (fun h => absurd h (by decide)) (fun x h => by cases h), good0, .inl rfl⟩
theorem h19z : ev 26 [.pv (.agg [I 0, I 0, I 0, .sl 1 [], .sl 5 []])] [] = ok (U hA) := V_hNode o19 (by decide +kernel)
theorem V_awake19 : ev 21 [] [] = ok (Bo true) := by
  have hne : (hA != hB) = true := by kernel_rfl
  rw [capnplaw19_awake_eq, h19a, h19b, h19c, h19d, h19n, h19s, h19z]
  dsimp only [za, zb, zc, zN, ze, zf, zg, zh, zi, zj, zu, zv, zx, zy, zL, zM, zk, zl, zm, zn, zo, zq, zr, zs, zt, zA, zC, zD, zE, zF, zG, zH, zI, zJ, zK]
  rw [show (hA == hA) = true from by simp, show (hB == hB) = true from by simp, hne, show ((0 : Int) == 0) = true from rfl, show ((6 : Int) == 6) = true from rfl, show ((16 : Int) == 16) = true from rfl]
  rfl
/-- The law HashMatchesReference. -/
theorem law_HashMatchesReference {l : List (List Int)} (hl : Segs l) (d w b : Int) {x : Nd} (hx : Big x) : ev 7 [.pv (.sl 1 (sgs l)), .pv (.agg [I d, I w, I b]), .pv x.x] [] = ok (Bo true) := by
  obtain ⟨ba, ea, ca⟩ := V_Small hl d w b
  obtain ⟨bl, hr, hok⟩ := V_Right hx
  dsimp only [Nd.x] at hr ⊢
  rw [capnplaw19_HashMatchesReference_eq, V_awake19]
  dsimp only [za, zb, zc, zN, ze, zf, zg, zh, zi, zj, zu, zv, zx, zy, zL, zM, zk, zl, zm, zn, zo, zq, zr, zs, zt, zA, zC, zD, zE, zF, zG, zH, zI, zJ, zK]
  rw [ea]
  dsimp only [za, zb, zc, zN, ze, zf, zg, zh, zi, zj, zu, zv, zx, zy, zL, zM, zk, zl, zm, zn, zo, zq, zr, zs, zt, zA, zC, zD, zE, zF, zG, zH, zI, zJ, zK]
  cases ba with
  | false => rfl
  | true =>
    obtain ⟨hd, hw, _, ha3⟩ := ca rfl
    have hs := sm_of ha3
    have hcl := canM_len hl hs (d := d) (w := w) (by omega)
    have e3 : siz l d w = 8 * ((canM l d w).length : Int) := by
      unfold siz canM
      split
      · rfl
      · rfl
    dsimp only [za, zb, zc, zN, ze, zf, zg, zh, zi, zj, zu, zv, zx, zy, zL, zM, zk, zl, zm, zn, zo, zq, zr, zs, zt, zA, zC, zD, zE, zF, zG, zH, zI, zJ, zK]
    rw [V_hMsg hl hs (by omega) (by omega)]
    dsimp only [za, zb, zc, zN, ze, zf, zg, zh, zi, zj, zu, zv, zx, zy, zL, zM, zk, zl, zm, zn, zo, zq, zr, zs, zt, zA, zC, zD, zE, zF, zG, zH, zI, zJ, zK]
    rw [V_rHash hl hs (by omega) (by omega)]
    dsimp only [za, zb, zc, zN, ze, zf, zg, zh, zi, zj, zu, zv, zx, zy, zL, zM, zk, zl, zm, zn, zo, zq, zr, zs, zt, zA, zC, zD, zE, zF, zG, zH, zI, zJ, zK]
    rw [V_hSize hl hs (by omega) (by omega)]
    dsimp only [za, zb, zc, zN, ze, zf, zg, zh, zi, zj, zu, zv, zx, zy, zL, zM, zk, zl, zm, zn, zo, zq, zr, zs, zt, zA, zC, zD, zE, zF, zG, zH, zI, zJ, zK]
    rw [V_rCanon hl hs (by omega) (by omega)]
    dsimp only [za, zb, zc, zN, ze, zf, zg, zh, zi, zj, zu, zv, zx, zy, zL, zM, zk, zl, zm, zn, zo, zq, zr, zs, zt, zA, zC, zD, zE, zF, zG, zH, zI, zJ, zK]
    rw [show (hsh l d w != hsh l d w) = false from by simp, show (msgE l d w != msgE l d w) = false from by simp]
    dsimp only [za, zb, zc, zN, ze, zf, zg, zh, zi, zj, zu, zv, zx, zy, zL, zM, zk, zl, zm, zn, zo, zq, zr, zs, zt, zA, zC, zD, zE, zF, zG, zH, zI, zJ, zK]
    rw [ws_len, w64 (x := 8 * ((canM l d w).length : Int)) (by omega), e3, show (8 * ((canM l d w).length : Int) != 8 * ((canM l d w).length : Int)) = false from by simp]
    dsimp only [za, zb, zc, zN, ze, zf, zg, zh, zi, zj, zu, zv, zx, zy, zL, zM, zk, zl, zm, zn, zo, zq, zr, zs, zt, zA, zC, zD, zE, zF, zG, zH, zI, zJ, zK]
    rw [hr]
    dsimp only [za, zb, zc, zN, ze, zf, zg, zh, zi, zj, zu, zv, zx, zy, zL, zM, zk, zl, zm, zn, zo, zq, zr, zs, zt, zA, zC, zD, zE, zF, zG, zH, zI, zJ, zK]
    cases bl with
    | false => rfl
    | true =>
      have h := hok rfl
      have hb := h.nod
      have h1 := V_hNode h.ok (by omega)
      have h2 := V_rHNode h.ok (by omega)
      dsimp only [Nd.x, za, zb, zc, zN, ze, zf, zg, zh, zi, zj, zu, zv, zx, zy, zL, zM, zk, zl, zm, zn, zo, zq, zr, zs, zt, zA, zC, zD, zE, zF, zG, zH, zI, zJ, zK] at h1 h2 ⊢
      rw [h1]
      dsimp only [za, zb, zc, zN, ze, zf, zg, zh, zi, zj, zu, zv, zx, zy, zL, zM, zk, zl, zm, zn, zo, zq, zr, zs, zt, zA, zC, zD, zE, zF, zG, zH, zI, zJ, zK]
      rw [h2]
      dsimp only [za, zb, zc, zN, ze, zf, zg, zh, zi, zj, zu, zv, zx, zy, zL, zM, zk, zl, zm, zn, zo, zq, zr, zs, zt, zA, zC, zD, zE, zF, zG, zH, zI, zJ, zK]
      rw [show (fnvB off (byt (canW 40 x)) == fnvB off (byt (canW 40 x))) = true from by simp]
end Go.Proofs.YtfljialckkgacaaGreatDoor.E
namespace Go.Proofs.YtfljialckkgacaaGreatDoor.hashMatchesReference
open Go.ChangeShapes Go.WideShapes Go.ChangeAt Go.RowKit Go.Proofs.YtfljialckkgacaaGreatDoor.E
theorem own : ownKnob Tryz.prog.godebug = none := by kernel_rfl
theorem laidOut : laidOutB Tryz.prog = true := by kernel_rfl
theorem door_met (os : Os) (args : Array Value) : laidMetH Tryz.prog Rows.hashMatchesReferenceUptoRow.laid ((World.doorLaid Tryz.prog 600 os).forCall (fun _ _ => 0) ⟨#[], args, []⟩).memory :=
  laidMetH_of_parts3 (fuel := 8) (laidMet_of_run' 8 (by kernel_rfl) (by kernel_rfl)) (by kernel_rfl) (by kernel_rfl)
set_option maxRecDepth 100000 in
set_option maxHeartbeats 1000000 in
theorem reads (os : Os) {H : Type} (enc : TypeId × Value → H) : DataW.whole enc Tryz.prog ((World.doorLaid Tryz.prog 600 os).forCall (fun _ _ => 0) ⟨#[], #[.slice none 0 0, .agg #[.int .i64 0, .int .i64 0, .int .i64 0], .agg #[.int .i64 0, .int .i64 0, .int .i64 0, .slice none 0 0, .slice none 0 0]], []⟩).memory Tryz.f7.params.toList Rows.hashMatchesReferenceSpec.vars false (#[.slice none 0 0, .agg #[.int .i64 0, .int .i64 0, .int .i64 0], .agg #[.int .i64 0, .int .i64 0, .int .i64 0, .slice none 0 0, .slice none 0 0]] : Array Value).toList 8 = some ([.nil, .agg [.lit (.int .i64 0), .lit (.int .i64 0), .lit (.int .i64 0)], .agg [.lit (.int .i64 0), .lit (.int .i64 0), .lit (.int .i64 0), .nil, .nil]], [], []) := by kernel_rfl
set_option maxRecDepth 100000 in
set_option maxHeartbeats 1000000 in
theorem lifted (os : Os) (started : os.Started) (H : Type) (enc : TypeId × Value → H) (F : Stop.Interp) :
    ReturnsInHanded {} Tryz.checked os 7 .any ((Rows.OpenSpec.upto Rows.hashMatchesReferenceSpec).preRow enc Tryz.prog Tryz.f7 Rows.hashMatchesReferenceUptoRow.domain false Rows.hashMatchesReferenceUptoRow.laid) (((Rows.OpenSpec.upto Rows.hashMatchesReferenceSpec).at F).post enc Tryz.prog Tryz.f7 false true false false) := by
  refine returnsInHanded_of_row (C := Tryz.checked) (s := (Rows.OpenSpec.upto Rows.hashMatchesReferenceSpec)) own started (by kernel_rfl) Tryz.func7
    (witness_row_atRef (enc := enc) (C := Tryz.checked) false (World.doorLaid Tryz.prog 600 os) #[.slice none 0 0, .agg #[.int .i64 0, .int .i64 0, .int .i64 0], .agg #[.int .i64 0, .int .i64 0, .int .i64 0, .slice none 0 0, .slice none 0 0]] rfl (by kernel_rfl) (by kernel_rfl) (by kernel_rfl)
      (OpenSpec.preRow_of_cond 8 (reads os enc) (by kernel_rfl) (fun k hk => by cases hk; kernel_rfl) (by kernel_rfl) (door_met os _))) ?_
  intro W base args ds gs before hval0 hW _ hcond _ hL _ _
  have hval : ∀ (j : Nat) t v, Tryz.f7.params[j]? = some t → args[j]? = some v → Value.okWide Tryz.prog W .any base t v := hval0
  have hW' := hW
  obtain ⟨p, q, hA0, hV, rfl, hfz, hnd⟩ := hW
  have hA : DataW.TrodAll enc Tryz.prog W 0 (fun _ => true) true Tryz.f7.params.toList args.toList ds p := hA0
  rw [Tryz.params7] at hA hval
  obtain ⟨v0, vs0, d0, ds0, p0, q0, hargs, rfl, rfl, h0, r0⟩ := trodAll_cons hA
  obtain ⟨v1, vs1, d1, ds1, p1, q1, rfl, rfl, rfl, h1, r1⟩ := trodAll_cons r0
  obtain ⟨v2, vs2, d2, ds2, p2, q2, rfl, rfl, rfl, h2, r2⟩ := trodAll_cons r1
  obtain ⟨rfl, rfl, rfl⟩ := trodAll_nil r2
  obtain rfl : args = #[v0, v1, v2] := by cases args; simp_all
  obtain ⟨rfl, rfl⟩ := trodVars_none hV
  have hbulk := of_decide_eq_true (hcond _ rfl)
  simp only [List.append_nil, Rows.uptoBulkAll] at hbulk
  have k0 := h0
  have lt0 : ∀ x ∈ p0, x.block < W.heap.size := by obtain ⟨m, hm⟩ := k0; exact DataW.trod_lt m _ _ _ hm
  obtain ⟨x0, y0, z0, rfl⟩ := okWide_slice Tryz.underlying22 (hval 0 22 v0 rfl rfl)
  obtain ⟨a0, g0, s_a0⟩ := rds_pv (d := eSegs) (S := (DS (DS (DI .u64)))) rd_segs (fun _ => rfl) (fun h => by cases h) h0
  have k1 := h1
  have lt1 : ∀ x ∈ p1, x.block < W.heap.size := by obtain ⟨m, hm⟩ := k1; exact DataW.trod_lt m _ _ _ hm
  obtain ⟨u1, rfl, sz1⟩ := okWide_struct Tryz.underlying24 (hval 1 24 v1 rfl rfl)
  obtain ⟨a1, g1, s_a1⟩ := rds_pv (d := eLim) (S := DLim) rd_lim (fun h => by cases h) (fun _ => ⟨_, rfl⟩) h1
  have k2 := h2
  have lt2 : ∀ x ∈ p2, x.block < W.heap.size := by obtain ⟨m, hm⟩ := k2; exact DataW.trod_lt m _ _ _ hm
  obtain ⟨u2, rfl, sz2⟩ := okWide_struct Tryz.underlying39 (hval 2 39 v2 rfl rfl)
  obtain ⟨a2, g2, s_a2⟩ := rds_pv (d := eNode) (S := DNode) rd_node (fun h => by cases h) (fun _ => ⟨_, rfl⟩) h2
  have hG : WOk Tryz.prog env (G0 W) W := wok_of_laid hL (by first | exact List.mem_cons_self | (exact List.mem_cons_of_mem _ List.mem_cons_self)) rfl
  refine (run_true hm hS hfn hcln hG (f := 7) (ps := [.sl 1 (sgs a0), .agg [I a1.1, I a1.2.1, I a1.2.2], a2.x]) (vs := #[_, _, _]) rfl (fun j p x hp hx => ?_) (law_HashMatchesReference (plain_segs s_a0) a1.1 a1.2.1 a1.2.2 (plain_node s_a2 (by omega)))).mono fun e W' ⟨he, bel⟩ => ?_
  · match j with
    | 0 => cases hp; cases hx; exact g0
    | 1 => cases hp; cases hx; exact g1
    | 2 => cases hp; cases hx; exact g2
    | j + 3 => simp at hp
  subst he
  exact ⟨_, rfl, _, _, _, [], _, [], hW', trodAll_mk1 (shut_bool Tryz.underlying4 _), (trodAll_cons_mk (Below.trod laidOut (by kernel_rfl) (of_decide_eq_true (by kernel_rfl)) k0 bel lt0) (trodAll_cons_mk (Below.trod laidOut (by kernel_rfl) (of_decide_eq_true (by kernel_rfl)) k1 bel lt1) (trodAll_cons_mk (Below.trod laidOut (by kernel_rfl) (of_decide_eq_true (by kernel_rfl)) k2 bel lt2) trodAll_mk0))), rfl, bel.frame _, fun h => by cases h⟩
theorem over : Rows.hashMatchesReferenceUptoRow.holds Tryz.pinned (Rows.OpenSpec.upto Rows.hashMatchesReferenceSpec) :=
  OpenClaim.holds_of_cond 7 Tryz.f7 rfl rfl rfl rfl rfl rfl rfl ⟨rfl, rfl, rfl, rfl, rfl⟩ rfl rfl rfl rfl rfl (by kernel_rfl) Tryz.func7 (by kernel_rfl)
    (of_decide_eq_true (by kernel_rfl)) (by unfold Func.isWrapper; first | (rw [if_pos (by decide +kernel)]; kernel_rfl) | (rw [if_neg (by decide +kernel)]; exact ⟨rfl, rfl⟩))
    (fun os started H enc _ F => by rw [OpenClaim.pre_eq_preRow]; exact lifted os started H enc F)
theorem card_holds : Rows.HashMatchesReferenceUptoCardSaid :=
  Claim7.holds_tied_plain_at .later [] [.funcs, .data] true (true, "f7b41d3f92c00c50e0ba77bfe6951895673bbc0a6033da1f1cd48fa7596f937c") true
    over (fun _ h => by cases h) (by kernel_rfl) (fun _ h => by cases h) hashMatchesReferenceUpto_row_tie rfl ⟨rfl, rfl⟩ (by kernel_rfl) rfl
    (fun f fn hf hfn => by
      obtain rfl : f = 7 := Option.some.inj ((show Tryz.prog.funcNamed "capnp/capnplaw19.HashMatchesReference" = some 7 by kernel_rfl).symm.trans hf) |>.symm
      obtain rfl : fn = Tryz.f7 := (Option.some.inj (Tryz.func7.symm.trans hfn)).symm
      exact ⟨by kernel_rfl, fun j t ht => by
        rw [Tryz.params7] at ht
        have hm : t ∈ [22, 24, 39] := by simpa using Array.mem_of_getElem? ht
        have hall : ([22, 24, 39].all fun u => !Tryz.prog.wantsStandIn u) = true := by kernel_rfl
        exact (show Tryz.prog.wantsStandIn t = false by simpa using List.all_eq_true.1 hall t hm)⟩)
    (by kernel_rfl)
#print axioms card_holds
end Go.Proofs.YtfljialckkgacaaGreatDoor.hashMatchesReference
namespace Go.Proofs.YtfljialckkgacaaGreatDoor
theorem hashMatchesReference_holds : Go.Proofs.YtfljialckkgacaaGreatDoor.Rows.HashMatchesReferenceUptoCardSaid := hashMatchesReference.card_holds
end Go.Proofs.YtfljialckkgacaaGreatDoor
