/- The texts of this session that come first, joined by wip/merge.py. -/
import Derived.Test.YtdkmbkdgojiebaaDoorBV2
import Derived.Below
import Derived.ProofKit
import Derived.OpenShut
import Derived.Stop.Joined
import Derived.LaidMore
import Derived.Deep.Slices
import Derived.Test.YtdkmbkdgojiebaaDoorBV1
set_option linter.unusedVariables false
set_option linter.unusedSimpArgs false
set_option linter.unusedVariables false
namespace Go.Proofs.YtdkmbkdgojiebaaDoor.E
open Go.RowKit
/-! From what is read of the arguments to the plain reading; from its answer to the call. -/
/-- All of the memory that is there. -/
def g0 (w : World) : Nat → Option (Array Value) := fun b => match w.heap[b]? with
  | some (.cells c _ _) => some c
  | _ => none
def G0 (w : World) : Gh := ⟨g0 w, fun _ => none, fun b => if b < w.heap.size then some .imm else none⟩
theorem g0_some {w : World} {b : Nat} {c : Array Value} (h : g0 w b = some c) : ∃ T f, w.heap[b]? = some (.cells c T f) := by
  unfold g0 at h
  split at h
  · rename_i c' T f hb; cases h; exact ⟨T, f, hb⟩
  · cases h
theorem cell_g0 {w : World} {a : Addr} {u : Value} (h : w.cell? a = some u) : a.spot = none ∧ ∃ c, g0 w a.block = some c ∧ c[a.off]? = some u := by
  unfold World.cell? at h
  split at h
  · rename_i c T f hb
    cases hs : a.spot with
    | some s => simp [hs] at h
    | none => simp only [hs, Option.isSome_none, Bool.false_eq_true, if_false] at h; exact ⟨rfl, c, by unfold g0; rw [hb], h⟩
  · cases h
theorem wok0 {P : Program} {E : Env} {w : World} (hmaps : ∀ g l, find E.maps g = some l → ∃ v c, g0 w g = some c ∧ c[0]? = some v ∧ MRel P E (G0 w) w g v) (hglob : ∀ g p, find E.glob g = some p → ERel (G0 w) p 0 (.pointer (some ⟨g, 0, none⟩))) : WOk P E (G0 w) w := by
  refine ⟨fun b c hb => ?_, fun b h hb => ?_, hmaps, hglob⟩
  · obtain ⟨T, f, h⟩ := g0_some hb
    exact ⟨if_pos (Array.getElem?_eq_some_iff.1 h).1, T, f, h⟩
  · by_cases hl : b < w.heap.size
    · exact hl
    · rw [show (G0 w).ka b = none from if_neg hl] at hb; cases hb
/-- Nothing that was there has changed. -/
theorem below_of_fr {w w' : World} {G' : Gh} (f : Fr (G0 w) w G' w' X0) : Below w.heap.size w w' :=
  ⟨f.os, f.tape, f.output, f.size, fun k hk => (f.ka k .imm (if_pos hk) X0_old.1).2⟩
/-- A call that returns true. -/
theorem run_true {P : Program} {E : Env} {fns : List (Nat × Func)} (hm : P.follows .mixedOrders = true) (hS : SysOk P E) (hfn : ∀ f fn, find fns f = some fn → P.funcs[f]? = some fn ∧ fn.body.isSome = true ∧ (fn.name == "runtime.NumGoroutine") = false) (hcln : ClnOk P E)
    {w : World} (hw : WOk P E (G0 w) w) {f : Nat} {ps : List PV} {vs : Array Value} (hsz : vs.size = ps.length) (hps : ∀ (j : Nat) (p : PV) (x : Value), ps[j]? = some p → vs[j]? = some x → PRep (g0 w) p x)
    (hv : val E fns f (ps.map .pv) [] = some (.ret (.pv (.v (.bool true))), [])) : Calls P f vs w fun e w' => e = .returned (.bool true) ∧ Below w.heap.size w w' := by
  obtain ⟨k, hk⟩ := val_some hv
  refine ((evCall_ok hm hS hfn hcln k).1 f _ _ _ _ hk (G0 w) w vs ⟨hw, fun l cs hl => (by simp at hl), fun l b hb => (by cases hb), (by simpa using hsz), fun j q x hq hx => ?_⟩).mono fun e w' he => ?_
  · rw [List.getElem?_map] at hq
    cases hj : ps[j]? with
    | none => simp [hj] at hq
    | some p =>
      simp only [hj, Option.map_some, Option.some.injEq] at hq
      subst hq
      exact ⟨rfl, fun _ => hps j p x hj hx⟩
  · obtain ⟨G', f', _, _, _, ho⟩ := he
    refine ⟨?_, below_of_fr f'⟩
    cases e with
    | returned v =>
      have : PRep G'.g (.v (.bool true)) v := ho
      rw [pv_v this]
    | panicked c => exact ho.elim
    | outgrown => exact ho.elim
/-- How a kind of data is told in cells. -/
structure Enc (α : Type) where
  cells : α → List PV
  sz : Nat
  agg : Bool
  len : ∀ a, (cells a).length = sz
  one : agg = false → sz = 1
def Enc.pv {α : Type} (e : Enc α) (a : α) : PV := if e.agg then .agg (e.cells a) else (e.cells a).headD (.v .nilFunc)
/-- What is read at a type tells such a datum. -/
def RdsAt {H α : Type} (enc : TypeId × Value → H) (P : Program) (w : World) (n : Nat) (t : TypeId) (e : Enc α) (S : α → DataW H → Prop) : Prop :=
  ∀ cs x, DataW.trod enc P w 0 (fun _ => true) true n t cs = some x → ∃ a, cs.length = e.sz ∧ (∀ (j : Nat) (q : PV) (u : Value), (e.cells a)[j]? = some q → cs[j]? = some u → q.isCell = true ∧ PRep (g0 w) q u) ∧ S a x.1
def eInt (k : IntKind) : Enc Int := ⟨fun n => [.v (.int k n)], 1, false, fun _ => rfl, fun _ => rfl⟩
def eBool : Enc Bool := ⟨fun b => [.v (.bool b)], 1, false, fun _ => rfl, fun _ => rfl⟩
def eSl {α : Type} (e : Enc α) : Enc (List α) := ⟨fun l => [.sl e.sz (l.map e.pv)], 1, false, fun _ => rfl, fun _ => rfl⟩
def eNil : Enc Unit := ⟨fun _ => [], 0, true, fun _ => rfl, fun h => by cases h⟩
/-- The data of whole numbers, of rows. -/
def DI {H : Type} (k : IntKind) (n : Int) (x : DataW H) : Prop := x = .lit (.int k n) ∧ (Lit.int k n).wf = true
def DB {H : Type} (b : Bool) (x : DataW H) : Prop := x = .lit (.bool b)
inductive DAll {H α : Type} (S : α → DataW H → Prop) : List α → List (DataW H) → Prop
  | nil : DAll S [] []
  | cons {a : α} {x : DataW H} {us : List α} {xs : List (DataW H)} : S a x → DAll S us xs → DAll S (a :: us) (x :: xs)
def DS {H α : Type} (S : α → DataW H → Prop) (xs : List α) (x : DataW H) : Prop := xs.length ≤ 9223372036854775807 ∧ ((xs = [] ∧ x = .nil) ∨ ∃ es rest, x = .slice es rest ∧ DAll S xs es)
theorem DAll.mem {H α : Type} {S : α → DataW H → Prop} {us : List α} {xs : List (DataW H)} (h : DAll S us xs) {a : α} (ha : a ∈ us) : ∃ x, x ∈ xs ∧ S a x := by
  induction h with
  | nil => cases ha
  | cons h0 _ ih =>
    rcases List.mem_cons.1 ha with rfl | ha
    · exact ⟨_, List.mem_cons_self, h0⟩
    · obtain ⟨x, hx, hs⟩ := ih ha
      exact ⟨x, List.mem_cons_of_mem _ hx, hs⟩
theorem DAll.length {H α : Type} {S : α → DataW H → Prop} {us : List α} {xs : List (DataW H)} (h : DAll S us xs) : us.length = xs.length := by
  induction h with
  | nil => rfl
  | cons _ _ ih => simp [ih]
theorem DS.mem {H α : Type} {S : α → DataW H → Prop} {xs : List α} {x : DataW H} (h : DS S xs x) {a : α} (ha : a ∈ xs) : ∃ y, S a y := by
  rcases h.2 with ⟨rfl, _⟩ | ⟨es, rest, _, h⟩
  · cases ha
  · obtain ⟨y, _, hs⟩ := h.mem ha
    exact ⟨y, hs⟩
theorem DAll.of_get {H α : Type} {S : α → DataW H → Prop} : ∀ {us : List α} {xs : List (DataW H)}, us.length = xs.length → (∀ (i : Nat) (a : α) (x : DataW H), us[i]? = some a → xs[i]? = some x → S a x) → DAll S us xs
  | [], [], _, _ => .nil
  | [], _ :: _, h, _ => by simp at h
  | _ :: _, [], h, _ => by simp at h
  | a :: us, x :: xs, h, hg => .cons (hg 0 a x rfl rfl) (DAll.of_get (by simpa using h) fun i b y hb hy => hg (i + 1) b y (by simpa using hb) (by simpa using hy))
section
variable {H α β : Type} {enc : TypeId × Value → H} {P : Program} {w : World} {n : Nat} {t e : TypeId}
theorem Enc.pv_cells (d : Enc α) (a : α) (hc : ∀ q ∈ d.cells a, q.isCell = true) : (d.pv a).cells = d.cells a := by
  unfold Enc.pv
  cases ha : d.agg with
  | true => rfl
  | false =>
    simp only [Bool.false_eq_true, if_false]
    have h1 := d.one ha
    have h2 := d.len a
    match hcs : d.cells a with
    | [] => rw [hcs] at h2; simp at h2; omega
    | [q] =>
      have := hc q (by rw [hcs]; exact List.mem_cons_self)
      simp only [List.headD_cons]
      cases q <;> simp_all [PV.cells, PV.isCell]
    | q :: r :: l => rw [hcs] at h2; simp at h2; omega
theorem RdsAt.zero (t : TypeId) (d : Enc α) (S : α → DataW H → Prop) : RdsAt enc P w 0 t d S := by
  intro cs x h
  simp [DataW.trod] at h
theorem RdsAt.int {k : IntKind} (ht : P.underlying t = some (.int k)) : RdsAt enc P w n t (eInt k) (DI k) := by
  intro cs x h
  obtain ⟨m, rfl, rfl, hw⟩ := DataW.trod_int ht h
  refine ⟨m, rfl, fun j q u hq hu => ?_, rfl, hw⟩
  cases j with
  | zero => simp [eInt] at hq hu; subst hq; subst hu; exact ⟨rfl, .v rfl⟩
  | succ j => simp [eInt] at hq
theorem RdsAt.bool (ht : P.underlying t = some .bool) : RdsAt enc P w n t eBool DB := by
  intro cs x h
  obtain ⟨b, rfl, rfl⟩ := DataW.trod_bool ht h
  refine ⟨b, rfl, fun j q u hq hu => ?_, rfl⟩
  cases j with
  | zero => simp [eBool] at hq hu; subst hq; subst hu; exact ⟨rfl, .v rfl⟩
  | succ j => simp [eBool] at hq
theorem mapM_get {f : α → Option β} : ∀ {l : List α} {r : List β}, l.mapM f = some r → r.length = l.length ∧ ∀ (i : Nat) (x : α), l[i]? = some x → f x = r[i]?
  | [], r, h => by simp at h; subst h; simp
  | a :: l, r, h => by
    simp only [List.mapM_cons, Option.bind_eq_bind, Option.bind_eq_some_iff, Option.pure_def, Option.some.injEq] at h
    obtain ⟨b, hb, r', hr, rfl⟩ := h
    obtain ⟨h1, h2⟩ := mapM_get hr
    refine ⟨by simp [h1], fun i x hx => ?_⟩
    cases i with
    | zero => simp at hx; subst hx; simpa using hb
    | succ i => simp at hx; simpa using h2 i x hx
theorem cells?_get {w : World} {a : Addr} {n : Nat} {cs : List Value} (h : w.cells? 0 a n = some cs) : cs.length = n ∧ ∀ (i : Nat) (u : Value), cs[i]? = some u → w.cell? (a.add i) = some u := by
  simp only [World.cells?, Nat.zero_le, if_true] at h
  obtain ⟨h1, h2⟩ := mapM_get h
  refine ⟨by simpa using h1, fun i u hu => ?_⟩
  have hi : i < n := by have := (List.getElem?_eq_some_iff.1 hu).1; simp at h1; omega
  rw [h2 i i (by simp [hi]), hu]
theorem exists_list {p : Nat → α → Prop} : ∀ (m : Nat), (∀ i, i < m → ∃ a, p i a) → ∃ l : List α, l.length = m ∧ ∀ (i : Nat) (a : α), l[i]? = some a → p i a
  | 0, _ => ⟨[], rfl, fun i a h => by simp at h⟩
  | m + 1, h => by
    obtain ⟨l, hl, hp⟩ := exists_list m (fun i hi => h i (by omega))
    obtain ⟨a, ha⟩ := h m (by omega)
    refine ⟨l ++ [a], by simp [hl], fun i b hb => ?_⟩
    rcases Nat.lt_or_ge i l.length with hi | hi
    · rw [List.getElem?_append_left hi] at hb
      exact hp i b hb
    · have : i = l.length := by
        have := (List.getElem?_eq_some_iff.1 hb).1
        simp at this
        omega
      subst this
      simp at hb
      subst hb
      rw [hl]
      exact ha
theorem RdsAt.slice {d : Enc α} {S : α → DataW H → Prop} (ht : P.underlying t = some (.slice e)) (hc : P.cellsOf e = d.sz) (h0 : 0 < d.sz) (h : RdsAt enc P w n e d S) : RdsAt enc P w (n + 1) t (eSl d) (DS S) := by
  intro cs x hx
  rcases DataW.trod_slice ht hx with ⟨rfl, rfl⟩ | ⟨a, len, cap, elems, rest, m, hm, rfl, rfl, _, hl, hcap, hlen, hel, _⟩
  · refine ⟨[], rfl, fun j q u hq hu => ?_, by simp, .inl ⟨rfl, rfl⟩⟩
    cases j with
    | zero => simp [eSl] at hq hu; subst hq; subst hu; exact ⟨rfl, .sl0⟩
    | succ j => simp [eSl] at hq
  · obtain rfl : n = m := by omega
    have key : ∀ i, i < len → ∃ p : α, (∀ (j : Nat), j < d.sz → ∃ q u, (d.cells p)[j]? = some q ∧ w.cell? (a.add (i * d.sz + j)) = some u ∧ q.isCell = true ∧ PRep (g0 w) q u) ∧ ∃ y, elems[i]? = some y ∧ S p y.1 := by
      intro i hi
      have h1 := hel i hi
      rw [List.getElem?_eq_getElem (by omega : i < elems.length)] at h1
      obtain ⟨c, hc1, hc2⟩ := Option.bind_eq_some_iff.mp h1
      obtain ⟨p, hp1, hp2, hs⟩ := h c _ hc2
      obtain ⟨k1, k2⟩ := cells?_get hc1
      refine ⟨p, fun j hj => ?_, _, List.getElem?_eq_getElem (by omega), hs⟩
      have hjc : j < c.length := by omega
      have hjd : j < (d.cells p).length := by rw [d.len]; exact hj
      obtain ⟨g1, g2⟩ := hp2 j _ _ (List.getElem?_eq_getElem hjd) (List.getElem?_eq_getElem hjc)
      refine ⟨_, _, List.getElem?_eq_getElem hjd, ?_, g1, g2⟩
      have := k2 j _ (List.getElem?_eq_getElem hjc)
      rwa [Deep.add_add, hc] at this
    obtain ⟨ps, hpl, hps⟩ := exists_list len key
    have hcell : ∀ p ∈ ps, ∀ q ∈ d.cells p, q.isCell = true := fun p hp q hq => by
      obtain ⟨i, hi, rfl⟩ := List.getElem_of_mem hp
      obtain ⟨j, hj, rfl⟩ := List.getElem_of_mem hq
      rw [d.len] at hj
      obtain ⟨q', u, e1, e2, e3, e4⟩ := (hps i _ (List.getElem?_eq_getElem hi)).1 j hj
      rw [List.getElem?_eq_getElem (by rw [d.len]; exact hj)] at e1
      cases e1
      exact e3
    have hpv : ∀ p ∈ ps, (d.pv p).cells = d.cells p := fun p hp => d.pv_cells p (hcell p hp)
    refine ⟨ps, rfl, fun j q u hq hu => ?_, by rw [hpl]; unfold maxLen at hcap; omega, .inr ⟨_, _, rfl, ?_⟩⟩
    · cases j with
      | succ j => simp [eSl] at hq
      | zero =>
        simp [eSl] at hq hu
        subst hq
        subst hu
        refine ⟨rfl, ?_⟩
        match hlen0 : len with
        | 0 =>
          have : ps = [] := List.length_eq_zero_iff.1 hpl
          subst this
          exact .sl0
        | m + 1 =>
        have hl0 : 0 < ps.length := by omega
        -- the block of the row
        obtain ⟨q0, u0, _, e2, _, _⟩ := (hps 0 _ (List.getElem?_eq_getElem hl0)).1 0 h0
        rw [show 0 * d.sz + 0 = 0 by omega, show a.add 0 = a by simp [Addr.add]] at e2
        obtain ⟨hs, c, hg, _⟩ := cell_g0 e2
        obtain ⟨ab, ao, as⟩ := a
        simp only at hs hg
        subst hs
        have hadd : ∀ k, (⟨ab, ao, none⟩ : Addr).add k = ⟨ab, ao + k, none⟩ := fun k => by
          unfold Addr.add
          split
          · rename_i hk; subst hk; rfl
          · rfl
        have hcells : ∀ (i : Nat) (p : α), ps[i]? = some p → ∀ (j : Nat), j < d.sz → ∃ q u, (d.cells p)[j]? = some q ∧ c[ao + i * d.sz + j]? = some u ∧ q.isCell = true ∧ PRep (g0 w) q u := fun i p hp j hj => by
          obtain ⟨q, u, e1, e2, e3, e4⟩ := (hps i p hp).1 j hj
          rw [hadd] at e2
          obtain ⟨_, c', hg', hcu⟩ := cell_g0 e2
          simp only at hg' hcu
          rw [hg] at hg'
          cases hg'
          exact ⟨q, u, e1, by rw [Nat.add_assoc]; exact hcu, e3, e4⟩
        have hrep : ∀ (i : Nat) (x : PV) (j : Nat) (q : PV) (u : Value), (ps.map d.pv)[i]? = some x → x.cells[j]? = some q → c[ao + i * d.sz + j]? = some u → q.isCell = true ∧ PRep (g0 w) q u := fun i x j q u hx hq hu => by
          rw [List.getElem?_map] at hx
          cases hp : ps[i]? with
          | none => simp [hp] at hx
          | some p =>
            simp only [hp, Option.map_some, Option.some.injEq] at hx
            subst hx
            rw [hpv p (List.mem_of_getElem? hp)] at hq
            have hj : j < d.sz := by rw [← d.len p]; exact (List.getElem?_eq_some_iff.1 hq).1
            obtain ⟨q', u', e1, e2, e3, e4⟩ := hcells i p hp j hj
            rw [hq] at e1
            rw [hu] at e2
            cases e1; cases e2
            exact ⟨e3, e4⟩
        have hlast : ao + ps.length * d.sz ≤ c.size := by
          obtain ⟨q, u, _, e2, _⟩ := hcells (ps.length - 1) _ (List.getElem?_eq_getElem (by omega)) (d.sz - 1) (by omega)
          have := (Array.getElem?_eq_some_iff.1 e2).1
          have e : ps.length * d.sz = (ps.length - 1) * d.sz + d.sz := by
            rw [← Nat.succ_mul]
            congr 1
            omega
          omega
        have hfin := PRep.sl (g := g0 w) (sz := d.sz) (b := ab) (o := ao) (cap := cap) (xs := ps.map d.pv) (c := c) hg (by simp [hpl]; omega) (by simpa using hlast) (fun x hx => by
            obtain ⟨p, hp, rfl⟩ := List.mem_map.1 hx
            rw [hpv p hp, d.len]) (fun i x j q u hx hq hu => (hrep i x j q u hx hq hu).1) (fun i x j q u hx hq hu => (hrep i x j q u hx hq hu).2)
        rw [List.length_map, hpl] at hfin
        exact hfin
    · refine DAll.of_get (by simp [hpl, hlen]) fun i p y hp hy => ?_
      obtain ⟨_, z, hz, hs⟩ := hps i p hp
      rw [List.getElem?_map, hz] at hy
      simp at hy
      subst hy
      exact hs
/-- What is read at a type, as a value of its own. -/
theorem rds_pv {d : Enc α} {S : α → DataW H → Prop} (h : ∀ n, RdsAt enc P w n t d S) {v : Value} {x : DataW H} {ps : List MemPlace} (hag : d.agg = false → v.cells = #[v]) (hag' : d.agg = true → ∃ vs, v = .agg vs) (hv : DataW.Trod enc P w 0 (fun _ => true) true t v x ps) : ∃ a, PRep (g0 w) (d.pv a) v ∧ S a x := by
  obtain ⟨fuel, hf⟩ := hv
  obtain ⟨a, h1, h2, h3⟩ := h fuel _ _ hf
  refine ⟨a, ?_, h3⟩
  unfold Enc.pv
  cases ha : d.agg with
  | true =>
    obtain ⟨vs, rfl⟩ := hag' ha
    simp only [if_true]
    have e : (Value.agg vs).cells = vs := rfl
    rw [e] at h1 h2
    refine .agg (by rw [d.len]; simpa using h1) (fun q hq => ?_) (fun j q u hq hu => (h2 j q u hq (by simpa using hu)).2)
    obtain ⟨j, hj, rfl⟩ := List.getElem_of_mem hq
    have hj' : j < vs.size := by rw [d.len] at hj; simp at h1; omega
    exact (h2 j _ vs[j] (List.getElem?_eq_getElem hj) (by simp [hj'])).1
  | false =>
    simp only [Bool.false_eq_true, if_false]
    have hl := d.len a
    rw [d.one ha] at hl
    obtain ⟨q, hq⟩ := List.length_eq_one_iff.1 hl
    rw [hq]
    simp only [List.headD_cons]
    rw [hag ha] at h2
    exact (h2 0 q v (by rw [hq]; rfl) rfl).2
end
end Go.Proofs.YtdkmbkdgojiebaaDoor.E
