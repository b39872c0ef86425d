import Derived.Test.YtlkcmpamjheldaaProg
import Derived.ProofKit
import Derived.OpenShut
import Derived.LaidMore
import Derived.Stop.Joined
import Derived.Deep.Slices
import Derived.Test.YtlkcmpamjheldaaWMore
import Derived.Test.YtlkcmpamjheldaaPlain
set_option linter.unusedVariables false
namespace Go.Proofs.Ytlkcmpamjheldaa.P
open Go.RowKit Go.Proofs.YtlkcmpamjheldaaW.PrintWords

/-- What is read at a type, with this much fuel, is a value of the kind, and tells this of the datum. -/
def OpensAt {H α : Type} (enc : TypeId × Value → H) (P : Program) (w : World) (n : Nat) (t : TypeId) (d : Kd α) (S : α → DataW H → Prop) : Prop :=
  ∀ cs x, DataW.trod enc P w 0 (fun _ => true) true n t cs = some x → ∃ a, d.K w a cs ∧ S a x.1
def Opens {H α : Type} (enc : TypeId × Value → H) (P : Program) (w : World) (t : TypeId) (d : Kd α) (S : α → DataW H → Prop) : Prop := ∀ n, OpensAt enc P w n t d S

/-- The data of whole numbers, of slices. -/
def DInt {H : Type} (k : IntKind) (n : Int) (x : DataW H) : Prop := x = .lit (.int k n) ∧ (Lit.int k n).wf = true
def DBool {H : Type} (b : Bool) (x : DataW H) : Prop := x = .lit (.bool b)
inductive DAll {H α : Type} (S : α → DataW H → Prop) : List α → List (DataW H) → Prop
  | nil : DAll S [] []
  | cons {a : α} {x : DataW H} {us : List α} {xs : List (DataW H)} : S a x → DAll S us xs → DAll S (a :: us) (x :: xs)
def DSlice {H α : Type} (S : α → DataW H → Prop) (xs : List α) (x : DataW H) : Prop := (xs = [] ∧ x = .nil) ∨ ∃ es rest, x = .slice es rest ∧ DAll S xs es
theorem DAll.mem {H α : Type} {S : α → DataW H → Prop} {us : List α} {xs : List (DataW H)} (h : DAll S us xs) {a : α} (ha : a ∈ us) : ∃ x, x ∈ xs ∧ S a x := by
  induction h with
  | nil => cases ha
  | cons h0 _ ih =>
    rcases List.mem_cons.1 ha with rfl | ha
    · exact ⟨_, List.mem_cons_self, h0⟩
    · obtain ⟨x, hx, hs⟩ := ih ha
      exact ⟨x, List.mem_cons_of_mem _ hx, hs⟩
theorem DAll.length {H α : Type} {S : α → DataW H → Prop} {us : List α} {xs : List (DataW H)} (h : DAll S us xs) : us.length = xs.length := by
  induction h with
  | nil => rfl
  | cons _ _ ih => simp [ih]
theorem DSlice.mem {H α : Type} {S : α → DataW H → Prop} {xs : List α} {x : DataW H} (h : DSlice S xs x) {a : α} (ha : a ∈ xs) : ∃ y, S a y := by
  rcases h with ⟨rfl, _⟩ | ⟨es, rest, _, h⟩
  · cases ha
  · obtain ⟨y, _, hs⟩ := h.mem ha
    exact ⟨y, hs⟩

section
variable {H α : Type} {enc : TypeId × Value → H} {P : Program} {w : World} {n : Nat} {t e : TypeId}
theorem OpensAt.int {k : IntKind} (ht : P.underlying t = some (.int k)) : OpensAt enc P w n t (Kd.int k) (DInt k) := by
  intro cs x h
  obtain ⟨m, rfl, rfl, hw⟩ := DataW.trod_int ht h
  exact ⟨m, rfl, rfl, hw⟩
theorem OpensAt.bool (ht : P.underlying t = some .bool) : OpensAt enc P w n t Kd.bool DBool := by
  intro cs x h
  obtain ⟨b, rfl, rfl⟩ := DataW.trod_bool ht h
  exact ⟨b, rfl, rfl⟩
theorem mapM_get {α β : Type} {f : α → Option β} : ∀ {l : List α} {r : List β}, l.mapM f = some r → r.length = l.length ∧ ∀ (i : Nat) (x : α), l[i]? = some x → f x = r[i]?
  | [], r, h => by simp at h; subst h; simp
  | a :: l, r, h => by
    simp only [List.mapM_cons, Option.bind_eq_bind, Option.bind_eq_some_iff, Option.pure_def, Option.some.injEq] at h
    obtain ⟨b, hb, r', hr, rfl⟩ := h
    obtain ⟨h1, h2⟩ := mapM_get hr
    refine ⟨by simp [h1], fun i x hx => ?_⟩
    cases i with
    | zero => simp at hx; subst hx; simpa using hb
    | succ i => simp at hx; simpa using h2 i x hx
theorem cells?_get {w : World} {a : Addr} {n : Nat} {cs : List Value} (h : w.cells? 0 a n = some cs) : cs.length = n ∧ ∀ (i : Nat) (u : Value), cs[i]? = some u → w.cell? (a.add i) = some u := by
  simp only [World.cells?, Nat.zero_le, if_true] at h
  obtain ⟨h1, h2⟩ := mapM_get h
  refine ⟨by simpa using h1, fun i u hu => ?_⟩
  have hi : i < n := by have := (List.getElem?_eq_some_iff.1 hu).1; simp at h1; omega
  rw [h2 i i (by simp [hi]), hu]
theorem exists_list {α : Type} {p : Nat → α → Prop} : ∀ (m : Nat), (∀ i, i < m → ∃ a, p i a) → ∃ l : List α, l.length = m ∧ ∀ (i : Nat) (a : α), l[i]? = some a → p i a
  | 0, _ => ⟨[], rfl, fun i a h => by simp at h⟩
  | m + 1, h => by
    obtain ⟨l, hl, hp⟩ := exists_list m (fun i hi => h i (by omega))
    obtain ⟨a, ha⟩ := h m (by omega)
    refine ⟨l ++ [a], by simp [hl], fun i b hb => ?_⟩
    rcases Nat.lt_or_ge i l.length with hi | hi
    · rw [List.getElem?_append_left hi] at hb
      exact hp i b hb
    · have : i = l.length := by
        have := (List.getElem?_eq_some_iff.1 hb).1
        simp at this
        omega
      subst this
      simp at hb
      subst hb
      rw [hl]
      exact ha
theorem DAll.of_get {S : α → DataW H → Prop} : ∀ {us : List α} {xs : List (DataW H)}, us.length = xs.length → (∀ (i : Nat) (a : α) (x : DataW H), us[i]? = some a → xs[i]? = some x → S a x) → DAll S us xs
  | [], [], _, _ => .nil
  | [], _ :: _, h, _ => by simp at h
  | _ :: _, [], h, _ => by simp at h
  | a :: us, x :: xs, h, hg => .cons (hg 0 a x rfl rfl) (DAll.of_get (by simpa using h) fun i b y hb hy => hg (i + 1) b y (by simpa using hb) (by simpa using hy))
theorem OpensAt.slice {d : Kd α} {S : α → DataW H → Prop} (ht : P.underlying t = some (.slice e)) (hc : P.cellsOf e = d.sz) (h : OpensAt enc P w n e d S) : OpensAt enc P w (n + 1) t (Kd.slice e d) (DSlice S) := by
  intro cs x hx
  rcases DataW.trod_slice ht hx with ⟨rfl, rfl⟩ | ⟨a, len, cap, elems, rest, m, hm, rfl, rfl, _, hl, hcap, hlen, hel, _⟩
  · exact ⟨[], ⟨none, 0, rfl, Nat.le_refl _, rfl, by simp, fun h => absurd h (by simp)⟩, .inl ⟨rfl, rfl⟩⟩
  · obtain rfl : n = m := by omega
    have key : ∀ i, i < len → ∃ p : α, ∃ c : List Value, c.length = d.sz ∧ d.K w p c ∧ (∀ (j : Nat) (u : Value), c[j]? = some u → w.cell? (a.add (i * d.sz + j)) = some u) ∧ ∃ y, elems[i]? = some y ∧ S p y.1 := by
      intro i hi
      have h1 := hel i hi
      rw [List.getElem?_eq_getElem (by omega : i < elems.length)] at h1
      obtain ⟨c, hc1, hc2⟩ := Option.bind_eq_some_iff.mp h1
      obtain ⟨p, hp, hs⟩ := h c _ hc2
      obtain ⟨g1, g2⟩ := cells?_get hc1
      refine ⟨p, c, by rw [g1, hc], hp, fun j u hu => ?_, _, List.getElem?_eq_getElem (by omega), hs⟩
      have := g2 j u hu
      rwa [Deep.add_add, hc] at this
    obtain ⟨ps, hpl, hps⟩ := exists_list len key
    refine ⟨ps, ⟨some a, cap, by rw [hpl], by rw [hpl]; exact hl, rfl, by rw [hpl]; unfold maxLen at hcap; omega, fun _ => ⟨a, rfl, fun j p hj => ?_⟩⟩, .inr ⟨_, _, rfl, ?_⟩⟩
    · obtain ⟨c, h1, h2, h3, _⟩ := hps j p hj
      exact ⟨c, h1, h2, h3⟩
    · refine DAll.of_get (by simp [hpl, hlen]) fun i p y hp hy => ?_
      obtain ⟨c, _, _, _, z, hz, hs⟩ := hps i p hp
      rw [List.getElem?_map, hz] at hy
      simp at hy
      subst hy
      exact hs
theorem OpensAt.zero (t : TypeId) (d : Kd α) (S : α → DataW H → Prop) : OpensAt enc P w 0 t d S := by
  intro cs x h
  simp [DataW.trod] at h
theorem Opens.slice {d : Kd α} {S : α → DataW H → Prop} (ht : P.underlying t = some (.slice e)) (hc : P.cellsOf e = d.sz) (h : Opens enc P w e d S) : Opens enc P w t (Kd.slice e d) (DSlice S)
  | 0 => OpensAt.zero _ _ _
  | n + 1 => OpensAt.slice ht hc (h n)
/-- What the list that was read is, plainly. -/
theorem plain_slice {d : Kd α} {S : α → DataW H → Prop} {Q : α → Prop} {A : Option Addr} {xs : List α} {x : DataW H} (hc : Kd.C d w A xs.length xs) (s : DSlice S xs x) (hQ : ∀ a y c, S a y → d.K w a c → Q a) : xs.length ≤ 9223372036854775807 ∧ ∀ a ∈ xs, Q a :=
  ⟨hc.2.1, fun a ha => by
    obtain ⟨i, hi, rfl⟩ := List.getElem_of_mem ha
    obtain ⟨y, hy⟩ := s.mem ha
    obtain ⟨ad, _, hcell⟩ := hc.2.2 (by omega)
    obtain ⟨c, _, hK, _⟩ := hcell i _ (List.getElem?_eq_getElem hi)
    exact hQ _ y c hy hK⟩
end
end Go.Proofs.Ytlkcmpamjheldaa.P
