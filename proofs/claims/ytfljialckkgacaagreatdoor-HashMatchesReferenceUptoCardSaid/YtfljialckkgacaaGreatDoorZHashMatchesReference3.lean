/- This text is one of those that prove the law HashMatchesReference of the given program, as its statement says it: true on every input that the statement covers. Its conditions are the statement's own. -/
import Derived.Test.YtfljialckkgacaaGreatDoorProg
import Derived.KernelRfl
import Derived.Laws.StructEq
import Derived.Test.YtfljialckkgacaaGreatDoorZHashMatchesReference1
import Derived.Test.YtfljialckkgacaaGreatDoorZHashMatchesReference2
set_option linter.unusedVariables false
set_option linter.unusedSimpArgs false
set_option linter.unusedVariables false
namespace Go.Proofs.YtfljialckkgacaaGreatDoor.E
/-! What calls give, without a bound on rounds and calls. -/
section
variable {α β R : Type}
/-- What a row of attempts comes to. -/
def LimO (c : Nat → Option β) (o : Option β) : Prop := (∀ k x, c k = some x → o = some x) ∧ ∀ x, o = some x → ∃ k0, ∀ k, k0 ≤ k → c k = some x
theorem LimO.const (o : Option β) : LimO (fun _ => o) o := ⟨fun _ _ h => h, fun _ h => ⟨0, fun _ _ => h⟩⟩
theorem LimO.of_eq {c d : Nat → Option β} {o p : Option β} (h : LimO c o) (hc : ∀ k, d k = c k) (ho : p = o) : LimO d p := by
  have : d = c := funext hc
  rw [this, ho]; exact h
theorem LimO.bind {c : Nat → Option α} {o : Option α} {F : Nat → α → Option β} {f : α → Option β} (h : LimO c o) (hf : ∀ x, LimO (fun k => F k x) (f x)) : LimO (fun k => (c k).bind (F k)) (o.bind f) := by
  refine ⟨fun k x hx => ?_, fun x hx => ?_⟩
  · cases hc : c k with
    | none => simp [hc] at hx
    | some y =>
      simp only [hc, Option.bind_some] at hx
      rw [h.1 k y hc]
      exact (hf y).1 k x hx
  · cases ho : o with
    | none => simp [ho] at hx
    | some y =>
      simp only [ho, Option.bind_some] at hx
      obtain ⟨k1, h1⟩ := h.2 y ho
      obtain ⟨k2, h2⟩ := (hf y).2 x hx
      exact ⟨max k1 k2, fun k hk => by simp only [h1 k (by omega), Option.bind_some]; exact h2 k (by omega)⟩
theorem LimO.map {c : Nat → Option α} {o : Option α} (h : LimO c o) (f : α → β) : LimO (fun k => (c k).map f) (o.map f) :=
  (h.bind (F := fun _ x => some (f x)) fun x => LimO.const (some (f x))).of_eq (fun k => by cases c k <;> rfl) (by cases o <;> rfl)
theorem LimO.unique {c : Nat → Option β} {o p : Option β} (h : LimO c o) (k : LimO c p) : o = p := by
  cases ho : o with
  | some x =>
    obtain ⟨k0, h0⟩ := h.2 x ho
    exact (k.1 k0 x (h0 k0 (Nat.le_refl _))).symm
  | none =>
    cases hp : p with
    | none => rfl
    | some x =>
      obtain ⟨k0, h0⟩ := k.2 x hp
      have := h.1 k0 x (h0 k0 (Nat.le_refl _))
      rw [ho] at this
      cases this
theorem LimO.shift {c : Nat → Option β} {o : Option β} (h : LimO c o) : LimO (fun k => c (k + 1)) o :=
  ⟨fun k x hx => h.1 (k + 1) x hx, fun x hx => by obtain ⟨k0, h0⟩ := h.2 x hx; exact ⟨k0, fun k hk => h0 (k + 1) (by omega)⟩⟩
open Classical in
noncomputable def lim (c : Nat → Option β) : Option β := if h : ∃ x k, c k = some x then some h.choose else none
theorem mono_le {c : Nat → Option β} (h : ∀ k x, c k = some x → c (k + 1) = some x) {k j : Nat} (hk : k ≤ j) {x : β} (hx : c k = some x) : c j = some x := by
  induction j with
  | zero => rw [show k = 0 by omega] at hx; exact hx
  | succ j ih =>
    by_cases he : k = j + 1
    · rw [← he]; exact hx
    · exact h j x (ih (by omega))
theorem lim_ok {c : Nat → Option β} (h : ∀ k x, c k = some x → c (k + 1) = some x) : LimO c (lim c) := by
  have hu : ∀ k x, c k = some x → lim c = some x := fun k x hx => by
    unfold lim
    have he : ∃ x k, c k = some x := ⟨x, k, hx⟩
    rw [dif_pos he]
    obtain ⟨j, hj⟩ := he.choose_spec
    have h1 := mono_le h (Nat.le_max_left k j) hx
    have h2 := mono_le h (Nat.le_max_right k j) hj
    rw [h1] at h2
    exact h2.symm
  refine ⟨hu, fun x hx => ?_⟩
  unfold lim at hx
  by_cases he : ∃ x k, c k = some x
  · rw [dif_pos he] at hx
    obtain ⟨j, hj⟩ := he.choose_spec
    cases hx
    exact ⟨j, fun k hk => mono_le h hk hj⟩
  · rw [dif_neg he] at hx; cases hx
end
section
variable {α β R : Type}
def RM.rl (m : RM α) (s : RS) : Option ((List W × α) × List Loc) := (m.run s).map fun x => (x, m.log s)
theorem rl_run (m : RM α) (s : RS) : m.run s = (m.rl s).map (·.1) := by
  unfold RM.rl
  cases m.run s <;> rfl
theorem rl_some {m : RM α} {s : RS} {x : List W × α} {l : List Loc} (h : m.rl s = some (x, l)) : m.run s = some x ∧ m.log s = l := by
  unfold RM.rl at h
  cases hr : m.run s with
  | none => simp [hr] at h
  | some y => simp only [hr, Option.map_some, Option.some.injEq, Prod.mk.injEq] at h; exact ⟨by rw [h.1], h.2⟩
theorem rl_bind : ∀ (m : RM α) (f : α → RM β) (s : RS), (m.bind f).rl s = (m.rl s).bind fun x => ((f x.1.2).rl (s.puts x.1.1)).map fun y => ((x.1.1 ++ y.1.1, y.1.2), x.2 ++ y.2)
  | .ret a, f, s => by
    simp only [RM.bind, RM.rl, RM.run, RM.log, Option.map_some, Option.bind_some, RS.puts]
    cases (f a).run s <;> simp
  | .fail, f, s => rfl
  | .rs t k, f, s => by
    have h := rl_bind (k (s.sl t)) f s
    simp only [RM.rl, RM.bind, RM.run, RM.log] at h ⊢
    cases h1 : ((k (s.sl t)).bind f).run s with
    | none =>
      rw [h1] at h
      cases h2 : (k (s.sl t)).run s with
      | none => rfl
      | some x =>
        rw [h2] at h
        simp only [Option.map_none, Option.map_some, Option.bind_some] at h ⊢
        cases h3 : (f x.2).run (s.puts x.1) with
        | none => rfl
        | some y => rw [h3] at h; cases h
    | some z =>
      rw [h1] at h
      cases h2 : (k (s.sl t)).run s with
      | none => rw [h2] at h; cases h
      | some x =>
        rw [h2] at h
        simp only [Option.map_some, Option.bind_some] at h ⊢
        cases h3 : (f x.2).run (s.puts x.1) with
        | none => rw [h3] at h; cases h
        | some y =>
          rw [h3] at h
          simp only [Option.map_some, Option.some.injEq, Prod.mk.injEq] at h ⊢
          exact ⟨h.1, by rw [h.2]; rfl⟩
  | .rb l k, f, s => by
    have h := rl_bind (k (s.H[l]?, s.mb l)) f s
    simp only [RM.rl, RM.bind, RM.run, RM.log] at h ⊢
    cases h1 : ((k (s.H[l]?, s.mb l)).bind f).run s with
    | none =>
      rw [h1] at h
      cases h2 : (k (s.H[l]?, s.mb l)).run s with
      | none => rfl
      | some x =>
        rw [h2] at h
        simp only [Option.map_none, Option.map_some, Option.bind_some] at h ⊢
        cases h3 : (f x.2).run (s.puts x.1) with
        | none => rfl
        | some y => rw [h3] at h; cases h
    | some z =>
      rw [h1] at h
      cases h2 : (k (s.H[l]?, s.mb l)).run s with
      | none => rw [h2] at h; cases h
      | some x =>
        rw [h2] at h
        simp only [Option.map_some, Option.bind_some] at h ⊢
        cases h3 : (f x.2).run (s.puts x.1) with
        | none => rw [h3] at h; cases h
        | some y =>
          rw [h3] at h
          simp only [Option.map_some, Option.some.injEq, Prod.mk.injEq] at h ⊢
          exact ⟨h.1, by rw [h.2]; rfl⟩
  | .rh k, f, s => by
    have h := rl_bind (k s.H) f s
    simp only [RM.rl, RM.bind, RM.run, RM.log] at h ⊢
    cases h1 : ((k s.H).bind f).run s with
    | none =>
      rw [h1] at h
      cases h2 : (k s.H).run s with
      | none => rfl
      | some x =>
        rw [h2] at h
        simp only [Option.map_none, Option.map_some, Option.bind_some] at h ⊢
        cases h3 : (f x.2).run (s.puts x.1) with
        | none => rfl
        | some y => rw [h3] at h; cases h
    | some z =>
      rw [h1] at h
      cases h2 : (k s.H).run s with
      | none => rw [h2] at h; cases h
      | some x =>
        rw [h2] at h
        simp only [Option.map_some, Option.bind_some] at h ⊢
        cases h3 : (f x.2).run (s.puts x.1) with
        | none => rw [h3] at h; cases h
        | some y =>
          rw [h3] at h
          simp only [Option.map_some, Option.some.injEq, Prod.mk.injEq] at h ⊢
          exact ⟨h.1, by rw [h.2]; rfl⟩
  | .wr w k, f, s => by
    have h := rl_bind k f (s.put w)
    simp only [RM.rl, RM.bind, RM.run, RM.log] at h ⊢
    cases h1 : (k.bind f).run (s.put w) with
    | none =>
      rw [h1] at h
      cases h2 : k.run (s.put w) with
      | none => rfl
      | some x =>
        rw [h2] at h
        simp only [Option.map_none, Option.map_some, Option.bind_some, RS.puts] at h ⊢
        cases h3 : (f x.2).run ((s.put w).puts x.1) with
        | none => rfl
        | some y => rw [h3] at h; cases h
    | some z =>
      rw [h1] at h
      cases h2 : k.run (s.put w) with
      | none => rw [h2] at h; cases h
      | some x =>
        rw [h2] at h
        simp only [Option.map_some, Option.bind_some, RS.puts] at h ⊢
        cases h3 : (f x.2).run ((s.put w).puts x.1) with
        | none => rw [h3] at h; cases h
        | some y =>
          rw [h3] at h
          simp only [Option.map_some, Option.some.injEq, Prod.mk.injEq] at h ⊢
          obtain ⟨z1, z2⟩ := z
          simp only [Prod.mk.injEq] at h ⊢
          exact ⟨⟨by rw [h.1.1]; rfl, h.1.2⟩, h.2⟩
  | .dyn o k, f, s => by
    cases o with
    | none => rfl
    | some x => exact rl_bind (k x) f s
  | .need b k, f, s => by
    cases b with
    | false => rfl
    | true => exact rl_bind k f s
  | .alt b x y, f, s => by
    cases b with
    | false => exact rl_bind y f s
    | true => exact rl_bind x f s
  | .out o kr kp, f, s => by
    cases o with
    | none => rfl
    | some z =>
      obtain ⟨o, h⟩ := z
      cases o with
      | ret a => exact rl_bind (kr a h) f s
      | pan p => exact rl_bind (kp p h) f s
def Lim (M : Nat → RM α) (m : RM α) : Prop := ∀ s, LimO (fun k => (M k).rl s) (m.rl s)
theorem Lim.const (m : RM α) : Lim (fun _ => m) m := fun s => LimO.const _
theorem Lim.bind {M : Nat → RM α} {m : RM α} {F : Nat → α → RM β} {f : α → RM β} (h : Lim M m) (hf : ∀ a, Lim (fun k => F k a) (f a)) : Lim (fun k => M k >>= F k) (m >>= f) := fun s =>
  ((h s).bind (F := fun k x => ((F k x.1.2).rl (s.puts x.1.1)).map fun y => ((x.1.1 ++ y.1.1, y.1.2), x.2 ++ y.2)) fun x => (hf x.1.2 (s.puts x.1.1)).map _).of_eq (fun k => rl_bind (M k) (F k) s) (rl_bind m f s)
theorem Lim.bind' {m : RM α} {F : Nat → α → RM β} {f : α → RM β} (hf : ∀ a, Lim (fun k => F k a) (f a)) : Lim (fun k => m >>= F k) (m >>= f) := Lim.bind (Lim.const m) hf
theorem Lim.alt {b : Bool} {M N : Nat → RM α} {m n : RM α} (h : Lim M m) (k : Lim N n) : Lim (fun k => .alt b (M k) (N k)) (.alt b m n) := by
  cases b with
  | false => exact fun s => (k s).of_eq (fun _ => rfl) rfl
  | true => exact fun s => (h s).of_eq (fun _ => rfl) rfl
theorem Lim.out {c : Nat → Option (Out × Heap)} {o : Option (Out × Heap)} (h : LimO c o) (kr : AV → Heap → RM α) (kp : PV → Heap → RM α) : Lim (fun k => .out (c k) kr kp) (.out o kr kp) := fun s => by
  have e : ∀ o : Option (Out × Heap), (RM.out o kr kp).rl s = o.bind fun z => match z with | (.ret a, h) => (kr a h).rl s | (.pan p, h) => (kp p h).rl s := fun o => by
    cases o with
    | none => rfl
    | some z => obtain ⟨o, h⟩ := z; cases o <;> rfl
  exact (h.bind (F := fun _ z => match z with | (.ret a, h) => (kr a h).rl s | (.pan p, h) => (kp p h).rl s) fun z => LimO.const _).of_eq (fun k => e (c k)) (e o)
end
abbrev Cf := Nat → List AV → Heap → Option (Out × Heap)
section
variable {E : Env} {cfs : Nat → Cf} {cf : Cf}
def LimC (cfs : Nat → Cf) (cf : Cf) : Prop := ∀ f a H, LimO (fun k => cfs k f a H) (cf f a H)
theorem callN_lim (hc : LimC cfs cf) (d : Option Nat) (f : Nat) (args : List AV) : Lim (fun k => callN E (cfs k) d f args) (callN E cf d f args) := by
  unfold callN
  split
  · exact Lim.out (hc _ _ _) _ _
  · refine Lim.bind' fun ls => Lim.bind' fun bs => ?_
    split
    · exact Lim.out (hc _ _ _) _ _
    · exact Lim.const _
theorem act_lim (hc : LimC cfs cf) (pre : Option Nat) (o : Oper) : Lim (fun k => act E (cfs k) pre o) (act E cf pre o) := by
  unfold act
  split
  case h_25 c he =>
    refine Lim.bind' fun args => ?_
    split
    · exact Lim.const _
    · refine Lim.bind' fun as1 => Lim.bind' fun f => ?_
      split
      · exact callN_lim hc _ _ _
      · exact callN_lim hc _ _ _
      · exact Lim.const _
    · exact Lim.const _
  all_goals exact Lim.const _
theorem actG_lim (hc : LimC cfs cf) (n : Nat) (ops : Array Oper) (pre : Option Nat) (o : Oper) : Lim (fun k => actG E (cfs k) n ops pre o) (actG E cf n ops pre o) := by
  unfold actG
  split
  · split
    · exact act_lim hc _ _
    · split
      · refine Lim.bind' fun c => Lim.bind' fun _ => ?_
        split
        · exact Lim.const _
        · exact Lim.bind' fun b => Lim.alt (act_lim hc _ _) (Lim.const _)
      · exact Lim.const _
  · exact Lim.const _
theorem runOps_lim (hc : LimC cfs cf) (n : Nat) (ops : Array Oper) : ∀ (L : List Nat) (s : RS), LimO (fun k => runOps E (cfs k) n ops L s) (runOps E cf n ops L s)
  | [], s => LimO.const _
  | i :: r, s => by
    cases ho : ops[i]? with
    | none => exact (LimO.const none).of_eq (fun k => by simp [runOps, ho]) (by simp [runOps, ho])
    | some o =>
      have e : ∀ cf : Cf, runOps E cf n ops (i :: r) s = ((actG E cf n ops none o).rl s).bind fun x => if s.H.length ≤ (s.puts x.1.1).H.length then (match x.1.2 with | none => runOps E cf n ops r (s.puts x.1.1) | some p => some (s.puts x.1.1, some p)) else none := fun cf => by
        simp only [runOps, ho]
        rw [rl_run]
        cases (actG E cf n ops none o).rl s with
        | none => rfl
        | some x => obtain ⟨⟨ws, pn⟩, l⟩ := x; cases pn <;> rfl
      refine ((actG_lim hc n ops none o s).bind (F := fun k x => if s.H.length ≤ (s.puts x.1.1).H.length then (match x.1.2 with | none => runOps E (cfs k) n ops r (s.puts x.1.1) | some p => some (s.puts x.1.1, some p)) else none)
        (f := fun x => if s.H.length ≤ (s.puts x.1.1).H.length then (match x.1.2 with | none => runOps E cf n ops r (s.puts x.1.1) | some p => some (s.puts x.1.1, some p)) else none) fun x => ?_).of_eq (fun k => e (cfs k)) (e cf)
      by_cases hl : s.H.length ≤ (s.puts x.1.1).H.length
      · simp only [hl, if_true]
        cases x.1.2 with
        | none => exact runOps_lim hc n ops r _
        | some p => exact LimO.const _
      · simp only [hl, if_false]
        exact LimO.const _
theorem traceL_lim (hc : LimC cfs cf) (n : Nat) (ops : Array Oper) (plan : List (Nat × Nat)) : ∀ (L : List Nat) (s : RS), LimO (fun k => traceL E (cfs k) n ops plan L s) (traceL E cf n ops plan L s)
  | [], s => LimO.const _
  | i :: r, s => by
    cases ho : ops[i]? with
    | none => exact (LimO.const none).of_eq (fun k => by simp [traceL, ho]) (by simp [traceL, ho])
    | some o =>
      let F : Cf → ((List W × Pn) × List Loc) → Option (List Tr × RS × Option PV) := fun cf x => if x.1.1.all simpleW then (match x.1.2 with
        | none => (traceL E cf n ops plan r (s.puts x.1.1)).map fun y => (⟨i, x.2, x.1.1.map W.loc⟩ :: y.1, y.2)
        | some p => some ([⟨i, x.2, x.1.1.map W.loc⟩], s.puts x.1.1, some p)) else none
      have e : ∀ cf : Cf, traceL E cf n ops plan (i :: r) s = ((actG E cf n ops (find plan i) o).rl s).bind (F cf) := fun cf => by
        simp only [traceL, ho]
        cases hr : (actG E cf n ops (find plan i) o).rl s with
        | none =>
          have : (actG E cf n ops (find plan i) o).run s = none := by rw [rl_run, hr]; rfl
          rw [this]; rfl
        | some x =>
          obtain ⟨⟨ws, pn⟩, l⟩ := x
          obtain ⟨h1, h2⟩ := rl_some hr
          rw [h1, h2]
          cases pn with
          | none =>
            simp only [Option.bind_some, F]
            split
            · cases traceL E cf n ops plan r (s.puts ws) <;> rfl
            · rfl
          | some p => rfl
      refine ((actG_lim hc n ops (find plan i) o s).bind (F := fun k => F (cfs k)) (f := F cf) fun x => ?_).of_eq (fun k => e (cfs k)) (e cf)
      simp only [F]
      by_cases hl : x.1.1.all simpleW = true
      · simp only [hl, if_true]
        cases x.1.2 with
        | none => exact (traceL_lim hc n ops plan r _).map _
        | some p => exact LimO.const _
      · rw [if_neg hl]
        simp only [hl, if_false]
        exact LimO.const _
theorem runDraw_lim (hc : LimC cfs cf) (n : Nat) (ops : Array Oper) (s : St) : LimO (fun k => runDraw E (cfs k) n ops s) (runDraw E cf n ops s) := by
  have e : ∀ cf : Cf, runDraw E cf n ops s = (traceL E cf n ops (planned s.H.length ops.toList 0) (List.range ops.size) (drawn0 ops s)).bind fun x => cond (okDraw ops (planned s.H.length ops.toList 0) x.1 x.2.2) (some (x.2.1, x.2.2)) none := fun cf => by
    unfold runDraw
    cases traceL E cf n ops (planned s.H.length ops.toList 0) (List.range ops.size) (drawn0 ops s) with
    | none => rfl
    | some x => obtain ⟨tr, z, pn⟩ := x; rfl
  exact ((traceL_lim hc n ops _ _ _).bind (F := fun _ x => cond (okDraw ops (planned s.H.length ops.toList 0) x.1 x.2.2) (some (x.2.1, x.2.2)) none) fun x => LimO.const _).of_eq (fun k => e (cfs k)) (e cf)
/-- Rounds, a bounded number of them; what is not needed is dropped behind each. -/
def iterP (g : St → Option (Ex × St)) (kp : St → St) : Nat → St → Option (Ex × St)
  | 0, _ => none
  | j + 1, s => (g s).bind fun r => match r with
    | (.normal, s') => iterP g kp j (kp s')
    | r => some r
theorem iterP_iter (g : St → Option (Ex × St)) (kp : St → St) : ∀ (j : Nat) (s : St), iter (fun s => g (kp s)) j s = iterP g kp j (kp s)
  | 0, s => rfl
  | j + 1, s => by
    simp only [iter, iterP]
    cases g (kp s) with
    | none => rfl
    | some r =>
      obtain ⟨ex, s'⟩ := r
      cases ex with
      | normal => exact iterP_iter g kp j s'
      | _ => rfl
theorem iterP_mono (g : St → Option (Ex × St)) (kp : St → St) : ∀ (j : Nat) (s : St) (x : Ex × St), iterP g kp j s = some x → iterP g kp (j + 1) s = some x
  | 0, s, x, h => by cases h
  | j + 1, s, x, h => by
    simp only [iterP] at h
    rw [iterP]
    cases hg : g s with
    | none => simp [hg] at h
    | some r =>
      simp only [hg, Option.bind_some] at h ⊢
      obtain ⟨ex, s'⟩ := r
      cases ex with
      | normal => exact iterP_mono g kp j (kp s') x h
      | _ => exact h
theorem iterP_lim {gs : Nat → St → Option (Ex × St)} {g : St → Option (Ex × St)} (h : ∀ s, LimO (fun k => gs k s) (g s)) (kp : St → St) : ∀ (j : Nat) (s : St), LimO (fun k => iterP (gs k) kp j s) (iterP g kp j s)
  | 0, s => LimO.const _
  | j + 1, s => by
    refine (h s).bind fun r => ?_
    obtain ⟨ex, s'⟩ := r
    cases ex with
    | normal => exact iterP_lim h kp j (kp s')
    | _ => exact LimO.const _
abbrev It := (St → Option (Ex × St)) → (St → St) → St → Option (Ex × St)
noncomputable def iterW : It := fun g kp s => lim fun j => iterP g kp j s
theorem iterW_lim (g : St → Option (Ex × St)) (kp : St → St) (s : St) : LimO (fun j => iterP g kp j s) (iterW g kp s) := lim_ok fun j x h => iterP_mono g kp j s x h
theorem iterW_eq (g : St → Option (Ex × St)) (kp : St → St) (s : St) : iterW g kp s = (g s).bind fun r => match r with
    | (.normal, s') => iterW g kp (kp s')
    | r => some r := by
  refine (iterW_lim g kp s).shift.unique ?_
  refine (LimO.const (g s)).bind (F := fun k r => match r with
    | (.normal, s') => iterP g kp k (kp s')
    | r => some r) fun r => ?_
  obtain ⟨ex, s'⟩ := r
  cases ex with
  | normal => exact iterW_lim g kp (kp s')
  | _ => exact LimO.const _
def ItLim (Its : Nat → It) (I : It) : Prop := ∀ (gs : Nat → St → Option (Ex × St)) (g : St → Option (Ex × St)) (kp : St → St), (∀ s, LimO (fun k => gs k s) (g s)) → ∀ s, LimO (fun k => Its k (gs k) kp s) (I g kp s)
theorem itW : ItLim (fun k g kp s => iterP g kp k s) iterW := fun gs g kp h s => by
  refine ⟨fun k x hx => (iterW_lim g kp s).1 k x ((iterP_lim h kp k s).1 k x hx), fun x hx => ?_⟩
  obtain ⟨j, hj⟩ := (iterW_lim g kp s).2 x hx
  obtain ⟨k0, h0⟩ := (iterP_lim h kp j s).2 x (hj j (Nat.le_refl _))
  exact ⟨max k0 j, fun k hk => mono_le (c := fun j => iterP (gs k) kp j s) (fun i x hi => iterP_mono (gs k) kp i s x hi) (show j ≤ k by omega) (h0 k (by omega))⟩
theorem it2 (j : Nat) : ItLim (fun k g kp s => iterP g kp (if k = 0 then j else j + 1) s) (fun g kp s => iterP g kp (j + 1) s) := fun gs g kp h s => by
  refine ⟨fun k x hx => ?_, fun x hx => ?_⟩
  · by_cases hk : k = 0
    · subst hk
      exact iterP_mono g kp j s x ((iterP_lim h kp j s).1 0 x (by simpa using hx))
    · simp only [hk, if_false] at hx
      exact (iterP_lim h kp (j + 1) s).1 k x hx
  · obtain ⟨k0, h0⟩ := (iterP_lim h kp (j + 1) s).2 x hx
    refine ⟨k0 + 1, fun k hk => ?_⟩
    have : ¬ k = 0 := by omega
    simp only [this, if_false]
    exact h0 k (by omega)
def exR (x : RS × Option PV) : Ex × St := match x.2 with
  | none => (.normal, x.1.stop)
  | some p => (.pan p, x.1.stop)
def evW (E : Env) (cf : Cf) (I : It) (n f : Nat) : Nat → Code → St → Option (Ex × St)
  | _, .skip, s => some (.normal, s)
  | _, .region _ ops draw, s => (if draw then runDraw E cf n ops s else runOps E cf n ops (List.range ops.size) s.start).map exR
  | b, .seq x y, s => (evW E cf I n f b x s).bind fun r => match r with
    | (.normal, s') => evW E cf I n f b y s'
    | r => some r
  | b, .cond c x y, s => (boolAt s c).bind fun t => match t with
    | true => evW E cf I n f b x s
    | false => evW E cf I n f b y s
  | _, .block id x, s => (evW E cf I n f id x s).bind fun r => match r with
    | (.exit j, s') => if j = id then some (.normal, s') else some (.exit j, s')
    | r => some r
  | b, .loop x, s => I (fun s' => evW E cf I n f b x s') (keepS E f b s.H.length) (keepS E f b s.H.length s)
  | _, .exit id, s => some (.exit id, s)
  | _, .ret, s => some (.ret, s)
  | _, _, _ => none
theorem evC_evW (n f k : Nat) : ∀ (c : Code) (b : Nat) (s : St), evC E cf n f k b c s = evW E cf (fun g kp s => iterP g kp k s) n f b c s := by
  intro c
  induction c with
  | skip => intro b s; rfl
  | exit id => intro b s; rfl
  | ret => intro b s; rfl
  | region id ops draw =>
    intro b s
    simp only [evC, evW]
    cases (if draw = true then runDraw E cf n ops s else runOps E cf n ops (List.range ops.size) s.start) with
    | none => rfl
    | some x => obtain ⟨z, pn⟩ := x; cases pn <;> rfl
  | seq x y ihx ihy =>
    intro b s
    simp only [evC, evW]
    rw [ihx]
    cases evW E cf (fun g kp s => iterP g kp k s) n f b x s with
    | none => rfl
    | some r =>
      obtain ⟨ex, s'⟩ := r
      cases ex with
      | normal => exact ihy b s'
      | _ => rfl
  | cond c x y ihx ihy =>
    intro b s
    simp only [evC, evW]
    cases boolAt s c with
    | none => rfl
    | some t => cases t with
      | true => exact ihx b s
      | false => exact ihy b s
  | block id x ihx =>
    intro b s
    simp only [evC, evW]
    rw [ihx]
    cases evW E cf (fun g kp s => iterP g kp k s) n f id x s with
    | none => rfl
    | some r =>
      obtain ⟨ex, s'⟩ := r
      cases ex <;> rfl
  | loop x ihx =>
    intro b s
    simp only [evC, evW]
    rw [show (fun s' => evC E cf n f k b x (keepS E f b s.H.length s')) = fun s' => (fun s' => evW E cf (fun g kp s => iterP g kp k s) n f b x s') (keepS E f b s.H.length s') from funext fun s' => ihx b _]
    exact iterP_iter _ _ k s
  | _ => intro b s; rfl
theorem evW_lim (hc : LimC cfs cf) {Its : Nat → It} {I : It} (hI : ItLim Its I) (n f : Nat) : ∀ (c : Code) (b : Nat) (s : St), LimO (fun k => evW E (cfs k) (Its k) n f b c s) (evW E cf I n f b c s) := by
  intro c
  induction c with
  | skip => intro b s; exact LimO.const _
  | exit id => intro b s; exact LimO.const _
  | ret => intro b s; exact LimO.const _
  | region id ops draw =>
    intro b s
    cases draw with
    | true => exact (runDraw_lim hc n ops s).map exR
    | false => exact (runOps_lim hc n ops _ _).map exR
  | seq x y ihx ihy =>
    intro b s
    refine (ihx b s).bind fun r => ?_
    obtain ⟨ex, s'⟩ := r
    cases ex with
    | normal => exact ihy b s'
    | _ => exact LimO.const _
  | cond c x y ihx ihy =>
    intro b s
    refine (LimO.const (boolAt s c)).bind fun t => ?_
    cases t with
    | true => exact ihx b s
    | false => exact ihy b s
  | block id x ihx => intro b s; exact (ihx id s).bind fun r => LimO.const _
  | loop x ihx =>
    intro b s
    exact hI (fun k s' => evW E (cfs k) (Its k) n f b x s') (fun s' => evW E cf I n f b x s') _ (fun s' => ihx b s') _
  | _ => intro b s; exact LimO.const _
variable {fns : List (Nat × Func)}
/-- A call's outcome, by what its calls give. -/
def bodyW (E : Env) (cf : Cf) (I : It) (fn : Func) (f : Nat) (args : List AV) (H : Heap) : Option (Out × Heap) :=
  fn.body.bind fun c => (evW E cf I fn.ntmps f 0 c ⟨fun t => (args[t]?).getD .dead, H⟩).bind (finK E f fn.results.toList H.length)
theorem bodyW_lim (hc : LimC cfs cf) {Its : Nat → It} {I : It} (hI : ItLim Its I) (fn : Func) (f : Nat) (args : List AV) (H : Heap) : LimO (fun k => bodyW E (cfs k) (Its k) fn f args H) (bodyW E cf I fn f args H) :=
  (LimO.const fn.body).bind fun c => (evW_lim hc hI fn.ntmps f c 0 _).bind fun r => LimO.const _
def stepW (E : Env) (fns : List (Nat × Func)) (cf : Cf) (I : It) (f : Nat) (args : List AV) (H : Heap) : Option (Out × Heap) :=
  match find E.cln f with
  | some q => clone q args H
  | none => (find fns f).bind fun fn => match find E.dfr f with
    | some g => (find fns g).bind fun gn => (dfrParts g fn gn).bind fun d => dfrGo E f g fn gn d args H (fun n f c s => evW E cf I n f 0 c s)
    | none => bodyW E cf I fn f args H
theorem dfrGo_lim {f g : Nat} {fn gn : Func} {d : DP} {args : List AV} {H : Heap} {rs : Nat → Nat → Nat → Code → St → Option (Ex × St)} {r : Nat → Nat → Code → St → Option (Ex × St)} (h : ∀ n f c s, LimO (fun k => rs k n f c s) (r n f c s)) :
    LimO (fun k => dfrGo E f g fn gn d args H (rs k)) (dfrGo E f g fn gn d args H r) := by
  refine (h _ _ _ _).bind fun x => ?_
  obtain ⟨ex, s0⟩ := x
  cases ex with
  | normal =>
    simp only
    cases (d.caps.all fun c => isPtrV (s0.sl c)) with
    | false => exact LimO.const _
    | true => exact (h _ _ _ _).bind fun y => (LimO.const _).bind fun p => (h _ _ _ _).bind fun z => LimO.const _
  | _ => exact LimO.const _
theorem stepW_lim (hc : LimC cfs cf) {Its : Nat → It} {I : It} (hI : ItLim Its I) (f : Nat) (args : List AV) (H : Heap) : LimO (fun k => stepW E fns (cfs k) (Its k) f args H) (stepW E fns cf I f args H) := by
  unfold stepW
  cases find E.cln f with
  | some q => exact LimO.const _
  | none =>
    refine (LimO.const _).bind fun fn => ?_
    cases find E.dfr f with
    | some g => exact (LimO.const _).bind fun gn => (LimO.const _).bind fun d => dfrGo_lim fun n f c s => evW_lim hc hI n f c 0 s
    | none => exact bodyW_lim hc hI fn f args H
theorem evCall_stepW (k f : Nat) (args : List AV) (H : Heap) : evCall E fns (k + 1) f args H = stepW E fns (evCall E fns k) (fun g kp s => iterP g kp k s) f args H := by
  simp only [evCall, stepW]
  cases find E.cln f with
  | some q => rfl
  | none =>
    simp only
    cases find fns f with
    | none => rfl
    | some fn =>
      simp only [Option.bind_some]
      cases find E.dfr f with
      | some g =>
        simp only
        congr 1
        funext gn
        congr 1
        funext d
        congr 1
        funext n f c s
        exact evC_evW n f k c 0 s
      | none =>
        simp only
        unfold bodyW
        cases fn.body with
        | none => rfl
        | some c =>
          simp only [Option.bind_some]
          rw [← evC_evW]
          have e : ∀ (s : St), ((resAll E f fn.results.toList).runK (fun _ _ a z => leave H.length (.ret a) z.H) [] [] s.start) = (match (resAll E f fn.results.toList).run s.start with
              | some (ws, a) => leave H.length (.ret a) (s.start.puts ws).H
              | none => none) := fun s => by
            rw [runK_eq]
            cases (resAll E f fn.results.toList).run s.start with
            | none => rfl
            | some x => rfl
          cases evC E (evCall E fns k) fn.ntmps f k 0 c ⟨fun t => (args[t]?).getD .dead, H⟩ with
          | none => rfl
          | some r =>
            obtain ⟨ex, s⟩ := r
            cases ex with
            | normal => exact (e s).symm
            | ret => exact (e s).symm
            | _ => rfl
theorem evCall_mono : ∀ (k f : Nat) (args : List AV) (H : Heap) (x : Out × Heap), evCall E fns k f args H = some x → evCall E fns (k + 1) f args H = some x
  | 0, f, args, H, x, h => by cases h
  | k + 1, f, args, H, x, h => by
    rw [evCall_stepW] at h ⊢
    have hc : LimC (fun j => if j = 0 then evCall E fns k else evCall E fns (k + 1)) (evCall E fns (k + 1)) := fun f a H =>
      ⟨fun j x hx => by
        by_cases hj : j = 0
        · simp only [hj, if_true] at hx; exact evCall_mono k f a H x hx
        · simp only [hj, if_false] at hx; exact hx,
      fun x hx => ⟨1, fun j hj => by have : ¬ j = 0 := by omega
                                     simp only [this, if_false]; exact hx⟩⟩
    exact (stepW_lim hc (it2 k) f args H).1 0 x (by simpa using h)
noncomputable def val (E : Env) (fns : List (Nat × Func)) : Cf := fun f args H => lim fun k => evCall E fns k f args H
theorem val_lim : LimC (evCall E fns) (val E fns) := fun f args H => lim_ok fun k x h => evCall_mono k f args H x h
theorem val_some {f : Nat} {args : List AV} {H : Heap} {x : Out × Heap} (h : val E fns f args H = some x) : ∃ k, evCall E fns k f args H = some x := by
  obtain ⟨k, hk⟩ := (val_lim f args H).2 x h
  exact ⟨k, hk k (Nat.le_refl _)⟩
theorem val_stepW (f : Nat) (args : List AV) (H : Heap) : val E fns f args H = stepW E fns (val E fns) iterW f args H :=
  (val_lim f args H).shift.unique ((stepW_lim val_lim itW f args H).of_eq (fun k => evCall_stepW k f args H) rfl)
/-- A loop, with what comes behind it. -/
noncomputable def loopV {R : Type} (g : St → Option (Ex × St)) (kp : St → St) (κ : Ex × St → Option R) (s : St) : Option R := (iterW g kp s).bind κ
noncomputable def roundV {R : Type} (g : St → Option (Ex × St)) (kp : St → St) (κ : Ex × St → Option R) (r : Ex × St) : Option R :=
  match r with
  | (.normal, s') => loopV g kp κ (kp s')
  | r => κ r
noncomputable def evV {R : Type} (E : Env) (cf : Cf) (n f : Nat) : Nat → Code → (Ex × St → Option R) → St → Option R
  | _, .skip, κ, s => κ (.normal, s)
  | _, .region _ ops draw, κ, s => match draw with
    | true => drawK E cf n ops (fun z pn => match pn with
      | none => κ (.normal, z.stop)
      | some p => κ (.pan p, z.stop)) s
    | false => opsK E cf n ops (fun z pn => match pn with
      | none => κ (.normal, z.stop)
      | some p => κ (.pan p, z.stop)) (List.range ops.size) s.start
  | b, .seq x y, κ, s => evV E cf n f b x (seqK (evV E cf n f b y) κ) s
  | b, .cond c x y, κ, s => (boolAt s c).bind fun t => cond t (evV E cf n f b x κ (setO s c true)) (evV E cf n f b y κ (setO s c false))
  | _, .block id x, κ, s => evV E cf n f id x (blockK id κ) s
  | b, .loop x, κ, s => loopV (evW E cf iterW n f b x) (keepS E f b s.H.length) κ (keepS E f b s.H.length s)
  | _, .exit id, κ, s => κ (.exit id, s)
  | _, .ret, κ, s => κ (.ret, s)
  | _, _, _, _ => none
theorem evV_eq {R : Type} (n f : Nat) : ∀ (c : Code) (b : Nat) (κ : Ex × St → Option R) (s : St), evV E cf n f b c κ s = (evW E cf iterW n f b c s).bind κ := by
  intro c
  induction c with
  | skip => intro b κ s; rfl
  | exit id => intro b κ s; rfl
  | ret => intro b κ s; rfl
  | region id ops draw =>
    intro b κ s
    simp only [evV, evW]
    cases draw with
    | true =>
      simp only [if_true]
      rw [drawK_eq]
      cases runDraw E cf n ops s with
      | none => rfl
      | some x => obtain ⟨z, pn⟩ := x; cases pn <;> rfl
    | false =>
      simp only [Bool.false_eq_true, if_false]
      rw [opsK_eq]
      cases runOps E cf n ops (List.range ops.size) s.start with
      | none => rfl
      | some x => obtain ⟨z, pn⟩ := x; cases pn <;> rfl
  | seq x y ihx ihy =>
    intro b κ s
    simp only [evV, evW]
    rw [ihx]
    cases evW E cf iterW n f b x s with
    | none => rfl
    | some r =>
      obtain ⟨ex, s'⟩ := r
      cases ex with
      | normal => exact ihy b κ s'
      | _ => rfl
  | cond c x y ihx ihy =>
    intro b κ s
    simp only [evV, evW]
    cases hb : boolAt s c with
    | none => rfl
    | some t =>
      cases t with
      | true => simp only [Option.bind_some, cond_true]; rw [setO_eq hb]; exact ihx b κ s
      | false => simp only [Option.bind_some, cond_false]; rw [setO_eq hb]; exact ihy b κ s
  | block id x ihx =>
    intro b κ s
    simp only [evV, evW]
    rw [ihx]
    cases evW E cf iterW n f id x s with
    | none => rfl
    | some r =>
      obtain ⟨ex, s'⟩ := r
      cases ex with
      | exit j =>
        simp only [Option.bind_some, blockK]
        split <;> rfl
      | _ => rfl
  | loop x ihx => intro b κ s; rfl
  | _ => intro b κ s; rfl
/-- A round of a loop. -/
theorem loopV_eq {R : Type} (n f b : Nat) (x : Code) (kp : St → St) (κ : Ex × St → Option R) (s : St) :
    loopV (evW E cf iterW n f b x) kp κ s = evV E cf n f b x (roundV (evW E cf iterW n f b x) kp κ) s := by
  rw [evV_eq]
  unfold loopV
  rw [iterW_eq]
  cases evW E cf iterW n f b x s with
  | none => rfl
  | some r =>
    obtain ⟨ex, s'⟩ := r
    cases ex <;> rfl
noncomputable def bodyV (E : Env) (cf : Cf) (fn : Func) (f : Nat) (args : List AV) (H : Heap) : Option (Out × Heap) :=
  match fn.body with
  | none => none
  | some c => evV E cf fn.ntmps f 0 c (finK E f fn.results.toList H.length) ⟨fun t => (args[t]?).getD .dead, H⟩
theorem val_eq {f : Nat} {fn : Func} (hf : find fns f = some fn) (hc : find E.cln f = none) (hd : find E.dfr f = none) (args : List AV) (H : Heap) : val E fns f args H = bodyV E (val E fns) fn f args H := by
  rw [val_stepW]
  simp only [stepW, hf, hc, hd, Option.bind_some]
  unfold bodyW bodyV
  cases fn.body with
  | none => rfl
  | some c => simp only [Option.bind_some]; rw [evV_eq]
theorem val_clone {f : Nat} {q : Nat × Nat × Nat} (hc : find E.cln f = some q) (args : List AV) (H : Heap) : val E fns f args H = clone q args H := by
  rw [val_stepW]
  simp only [stepW, hc]
/-- The end of a body whose deferred closure recovers. -/
noncomputable def dfr1 (E : Env) (cf : Cf) (f g : Nat) (fn gn : Func) (d : DP) (m : Nat) (s0 : St) (y : Ex × St) : Option (Out × Heap) :=
  (pend y.1).bind fun p => evV E cf gn.ntmps g 0 d.grest (fun z => cond (endOk z.1) ((resAll E f fn.results.toList).runK (fun _ _ a zz => leave m (.ret a) zz.H) [] [] (St.start ⟨stays d s0, z.2.H⟩)) none) (closSt d s0 y.2 p)
noncomputable def dfrV (E : Env) (cf : Cf) (f g : Nat) (fn gn : Func) (d : DP) (args : List AV) (H : Heap) : Option (Out × Heap) :=
  evV E cf fn.ntmps f 0 d.r0 (fun x => match x with
    | (.normal, s0) => cond (d.caps.all fun c => isPtrV (s0.sl c)) (evV E cf fn.ntmps f 0 d.rest (dfr1 E cf f g fn gn d H.length s0) ⟨fun t => cond (decide (t = d.t8)) .dead (s0.sl t), s0.H⟩) none
    | _ => none) ⟨fun t => (args[t]?).getD .dead, H⟩
theorem dfrV_eq {f g : Nat} {fn gn : Func} {d : DP} {args : List AV} {H : Heap} : dfrGo E f g fn gn d args H (fun n f c s => evW E cf iterW n f 0 c s) = dfrV E cf f g fn gn d args H := by
  unfold dfrGo dfrV
  rw [evV_eq]
  congr 1
  funext x
  obtain ⟨ex, s0⟩ := x
  cases ex with
  | normal =>
    simp only
    congr 1
    rw [evV_eq]
    congr 1
    funext y
    unfold dfr1
    congr 1
    funext p
    rw [evV_eq]
    congr 1
    funext z
    cases endOk z.1 with
    | false => rfl
    | true =>
      simp only [cond_true]
      rw [runK_eq]
  | _ => rfl
theorem val_dfr {f g : Nat} {fn gn : Func} {d : DP} (hf : find fns f = some fn) (hg : find fns g = some gn) (hc : find E.cln f = none) (hd : find E.dfr f = some g) (hp : dfrParts g fn gn = some d) (args : List AV) (H : Heap) : val E fns f args H = dfrV E (val E fns) f g fn gn d args H := by
  rw [val_stepW]
  simp only [stepW, hf, hc, hd, hg, hp, Option.bind_some]
  exact dfrV_eq
end
end Go.Proofs.YtfljialckkgacaaGreatDoor.E
namespace Go.Proofs.YtfljialckkgacaaGreatDoor.E
def tis : List (Nat × TI) := [
  (1, ⟨1, false, none, none, none, false, false, [], [.pv (.v .nilFunc)], 0, false, false, []⟩),
  (2, ⟨1, false, none, none, (some .i64), false, false, [], [.pv (.v (.int .i64 0))], 0, false, false, []⟩),
  (3, ⟨1, false, none, none, (some .i64), false, false, [], [.pv (.v (.int .i64 0))], 0, false, false, []⟩),
  (4, ⟨1, false, none, none, none, true, false, [], [.pv (.v (.bool false))], 0, false, false, []⟩),
  (5, ⟨1, false, none, none, (some .u8), false, false, [], [.pv (.v (.int .u8 0))], 0, false, false, []⟩),
  (6, ⟨1, false, none, none, (some .u8), false, false, [], [.pv (.v (.int .u8 0))], 0, false, false, []⟩),
  (7, ⟨4, true, none, none, none, false, true, [(0, 2), (1, 3), (2, 4), (3, 6)], [.pv (.v (.int .i64 0)), .pv (.v (.int .i64 0)), .pv (.v (.bool false)), .pv (.v (.int .u8 0))], 0, false, false, [false, false, true, false]⟩),
  (8, ⟨4, true, none, none, none, false, true, [(0, 2), (1, 3), (2, 4), (3, 6)], [.pv (.v (.int .i64 0)), .pv (.v (.int .i64 0)), .pv (.v (.bool false)), .pv (.v (.int .u8 0))], 0, false, false, [false, false, true, false]⟩),
  (9, ⟨1, false, none, none, none, false, false, [], [.pv (.v (.string ⟨#[]⟩))], 0, true, false, []⟩),
  (10, ⟨1, false, none, none, none, false, false, [], [.pv (.v (.string ⟨#[]⟩))], 0, true, false, []⟩),
  (11, ⟨1, false, none, none, none, false, false, [], [.pv (.v (.string ⟨#[]⟩))], 0, true, false, []⟩),
  (12, ⟨1, false, none, none, (some .u64), false, false, [], [.pv (.v (.int .u64 0))], 0, false, false, []⟩),
  (13, ⟨2, true, none, none, none, false, false, [(0, 9), (1, 12)], [.pv (.v (.string ⟨#[]⟩)), .pv (.v (.int .u64 0))], 0, false, false, []⟩),
  (14, ⟨2, true, none, none, none, false, false, [(0, 9), (1, 12)], [.pv (.v (.string ⟨#[]⟩)), .pv (.v (.int .u64 0))], 0, false, false, []⟩),
  (15, ⟨1, false, none, none, none, false, false, [], [.dead], 0, false, false, []⟩),
  (16, ⟨1, false, none, none, none, false, false, [], [.dead], 0, false, false, []⟩),
  (17, ⟨1, false, none, none, none, false, false, [], [.dead], 0, false, false, []⟩),
  (18, ⟨1, true, none, none, none, false, false, [(0, 17)], [.dead], 0, false, false, []⟩),
  (19, ⟨1, true, none, none, none, false, false, [(0, 17)], [.dead], 0, false, false, []⟩),
  (20, ⟨1, false, none, none, none, false, false, [], [.pv (.v .nilIface)], 0, false, true, []⟩),
  (21, ⟨1, false, none, none, (some .i32), false, false, [], [.pv (.v (.int .i32 0))], 0, false, false, []⟩),
  (22, ⟨1, false, (some (27, 1, 24)), none, none, false, false, [], [.slu 27 1 []], 0, false, false, []⟩),
  (23, ⟨3, true, none, none, none, false, true, [(0, 3), (1, 3), (2, 3)], [.pv (.v (.int .i64 0)), .pv (.v (.int .i64 0)), .pv (.v (.int .i64 0))], 0, false, false, [false, false, false]⟩),
  (24, ⟨3, true, none, none, none, false, true, [(0, 3), (1, 3), (2, 3)], [.pv (.v (.int .i64 0)), .pv (.v (.int .i64 0)), .pv (.v (.int .i64 0))], 0, false, false, [false, false, false]⟩),
  (25, ⟨1, false, none, none, none, false, false, [], [.pv (.v .nilFunc)], 0, false, false, []⟩),
  (26, ⟨1, false, none, none, none, false, false, [], [.pv (.v .nilFunc)], 0, false, false, []⟩),
  (27, ⟨1, false, (some (48, 1, 8)), none, none, false, false, [], [.slu 48 1 []], 0, false, false, []⟩),
  (28, ⟨1, false, none, none, (some .i64), false, false, [], [.pv (.v (.int .i64 0))], 0, false, false, []⟩),
  (30, ⟨1, false, none, none, none, false, false, [], [.pv (.v .nilFunc)], 0, false, false, []⟩),
  (32, ⟨1, false, none, none, none, false, false, [], [.pv (.v .nilFunc)], 0, false, false, []⟩),
  (34, ⟨1, false, none, none, none, false, false, [], [.pv (.v .nilFunc)], 0, false, false, []⟩),
  (35, ⟨1, false, none, none, none, false, false, [], [.pv (.v .nilFunc)], 0, false, false, []⟩),
  (36, ⟨1, false, (some (5, 1, 1)), none, none, false, false, [], [.slu 5 1 []], 0, false, false, []⟩),
  (37, ⟨1, false, (some (39, 5, 72)), none, none, false, false, [], [.slu 39 5 []], 0, false, false, []⟩),
  (38, ⟨5, true, none, none, none, false, false, [(0, 3), (1, 3), (2, 3), (3, 36), (4, 37)], [.pv (.v (.int .i64 0)), .pv (.v (.int .i64 0)), .pv (.v (.int .i64 0)), .slu 5 1 [], .slu 39 5 []], 0, false, false, []⟩),
  (39, ⟨5, true, none, none, none, false, false, [(0, 3), (1, 3), (2, 3), (3, 36), (4, 37)], [.pv (.v (.int .i64 0)), .pv (.v (.int .i64 0)), .pv (.v (.int .i64 0)), .slu 5 1 [], .slu 39 5 []], 0, false, false, []⟩),
  (41, ⟨1, false, none, none, none, false, false, [], [.pv (.v .nilFunc)], 0, false, false, []⟩),
  (42, ⟨1, false, none, none, none, false, false, [], [.pv (.v .nilFunc)], 0, false, false, []⟩),
  (43, ⟨1, false, none, none, none, false, false, [], [.pv (.v .nilFunc)], 0, false, false, []⟩),
  (44, ⟨1, false, none, none, none, false, false, [], [.pv (.v .nilFunc)], 0, false, false, []⟩),
  (46, ⟨1, false, none, none, none, false, false, [], [.pv (.v .nilFunc)], 0, false, false, []⟩),
  (47, ⟨1, false, none, none, none, false, false, [], [.pv (.v .nilFunc)], 0, false, false, []⟩),
  (48, ⟨1, false, none, none, (some .u64), false, false, [], [.pv (.v (.int .u64 0))], 0, false, false, []⟩),
  (50, ⟨1, false, none, none, none, false, false, [], [.pv (.v .nilFunc)], 0, false, false, []⟩),
  (52, ⟨1, false, none, none, none, false, false, [], [.pv (.v .nilFunc)], 0, false, false, []⟩),
  (54, ⟨1, false, none, none, none, false, false, [], [.pv (.v .nilFunc)], 0, false, false, []⟩),
  (55, ⟨1, false, none, none, none, false, false, [], [.pv (.v .nilFunc)], 0, false, false, []⟩),
  (56, ⟨1, false, none, none, none, false, false, [], [.pv (.v .nilFunc)], 0, false, false, []⟩),
  (58, ⟨1, false, none, none, none, false, false, [], [.pv (.v .nilFunc)], 0, false, false, []⟩),
  (59, ⟨1, false, none, none, none, false, false, [], [.pv (.v .nilFunc)], 0, false, false, []⟩),
  (60, ⟨1, false, none, none, none, false, false, [], [.pv (.v .nilFunc)], 0, false, false, []⟩),
  (61, ⟨1, false, none, none, none, false, false, [], [.pv (.v .nilFunc)], 0, false, false, []⟩),
  (62, ⟨1, false, none, none, none, false, false, [], [.pv (.v .nilFunc)], 0, false, false, []⟩),
  (63, ⟨1, false, none, none, none, false, false, [], [.pv (.v .nilFunc)], 0, false, false, []⟩),
  (64, ⟨1, false, none, none, none, false, false, [], [.pv (.v .nilFunc)], 0, false, false, []⟩),
  (65, ⟨1, false, none, none, none, false, false, [], [.pv (.v .nilFunc)], 0, false, false, []⟩),
  (66, ⟨1, true, none, none, none, false, true, [(0, 3)], [.pv (.v (.int .i64 0))], 0, false, false, [false]⟩),
  (67, ⟨1, true, none, none, none, false, true, [(0, 3)], [.pv (.v (.int .i64 0))], 0, false, false, [false]⟩),
  (69, ⟨1, false, none, none, none, false, false, [], [.pv (.v .nilFunc)], 0, false, false, []⟩),
  (70, ⟨1, false, none, none, none, false, false, [], [.pv (.v .nilFunc)], 0, false, false, []⟩),
  (71, ⟨1, false, none, none, none, false, false, [], [.pv (.v .nilFunc)], 0, false, false, []⟩),
  (72, ⟨1, false, none, none, none, false, false, [], [.pv (.v .nilFunc)], 0, false, false, []⟩),
  (73, ⟨1, false, none, none, none, false, false, [], [.pv (.v .nilFunc)], 0, false, false, []⟩),
  (74, ⟨1, false, none, none, none, false, false, [], [.pv (.v .nilFunc)], 0, false, false, []⟩),
  (75, ⟨1, false, none, none, none, false, false, [], [.pv (.v .nilFunc)], 0, false, false, []⟩),
  (76, ⟨1, false, none, none, none, false, false, [], [.pv (.v .nilFunc)], 0, false, false, []⟩),
  (77, ⟨1, false, none, none, none, false, false, [], [.pv (.v .nilFunc)], 0, false, false, []⟩),
  (79, ⟨1, false, none, none, none, false, false, [], [.pv (.v .nilFunc)], 0, false, false, []⟩),
  (80, ⟨1, false, none, none, none, false, false, [], [.dead], 0, false, false, []⟩),
  (81, ⟨1, true, none, none, none, false, false, [(0, 27)], [.slu 48 1 []], 0, false, false, []⟩),
  (82, ⟨1, true, none, none, none, false, false, [(0, 27)], [.slu 48 1 []], 0, false, false, []⟩),
  (83, ⟨1, false, none, none, none, false, false, [], [.pv (.v .nilFunc)], 0, false, false, []⟩),
  (84, ⟨1, false, none, none, none, false, false, [], [.pv (.v .nilFunc)], 0, false, false, []⟩),
  (86, ⟨1, false, none, none, none, false, false, [], [.pv (.v .nilFunc)], 0, false, false, []⟩),
  (87, ⟨8, true, none, none, none, false, true, [(0, 3), (1, 3), (2, 3), (3, 3), (4, 3), (5, 3), (6, 3), (7, 3)], [.pv (.v (.int .i64 0)), .pv (.v (.int .i64 0)), .pv (.v (.int .i64 0)), .pv (.v (.int .i64 0)), .pv (.v (.int .i64 0)), .pv (.v (.int .i64 0)), .pv (.v (.int .i64 0)), .pv (.v (.int .i64 0))], 0, false, false, [false, false, false, false, false, false, false, false]⟩),
  (88, ⟨8, true, none, none, none, false, true, [(0, 3), (1, 3), (2, 3), (3, 3), (4, 3), (5, 3), (6, 3), (7, 3)], [.pv (.v (.int .i64 0)), .pv (.v (.int .i64 0)), .pv (.v (.int .i64 0)), .pv (.v (.int .i64 0)), .pv (.v (.int .i64 0)), .pv (.v (.int .i64 0)), .pv (.v (.int .i64 0)), .pv (.v (.int .i64 0))], 0, false, false, [false, false, false, false, false, false, false, false]⟩),
  (90, ⟨1, false, none, none, none, false, false, [], [.pv (.v .nilFunc)], 0, false, false, []⟩),
  (92, ⟨1, false, none, none, none, false, false, [], [.pv (.v .nilFunc)], 0, false, false, []⟩),
  (93, ⟨1, false, none, none, none, false, false, [], [.pv (.v .nilFunc)], 0, false, false, []⟩),
  (95, ⟨1, false, none, none, none, false, false, [], [.pv (.v .nilFunc)], 0, false, false, []⟩),
  (96, ⟨1, false, none, none, none, false, false, [], [.pv (.v .nilFunc)], 0, false, false, []⟩),
  (97, ⟨1, false, none, none, none, false, false, [], [.pv (.v .nilFunc)], 0, false, false, []⟩),
  (98, ⟨1, false, none, none, none, false, false, [], [.pv (.v .nilFunc)], 0, false, false, []⟩),
  (99, ⟨1, false, none, none, none, false, false, [], [.pv (.v .nilFunc)], 0, false, false, []⟩),
  (100, ⟨1, false, none, none, none, false, false, [], [.pv (.v .nilFunc)], 0, false, false, []⟩),
  (101, ⟨1, false, none, none, none, false, false, [], [.pv (.v .nilFunc)], 0, false, false, []⟩),
  (102, ⟨1, false, none, none, none, false, false, [], [.pv (.v .nilFunc)], 0, false, false, []⟩),
  (103, ⟨1, false, none, none, none, false, false, [], [.pv (.v .nilFunc)], 0, false, false, []⟩),
  (104, ⟨1, false, none, none, none, false, false, [], [.pv (.v .nilFunc)], 0, false, false, []⟩),
  (106, ⟨1, false, none, none, none, false, false, [], [.pv (.v .nilFunc)], 0, false, false, []⟩),
  (107, ⟨1, false, none, none, none, false, false, [], [.pv (.v .nilFunc)], 0, false, false, []⟩),
  (108, ⟨1, false, none, none, (some .u32), false, false, [], [.pv (.v (.int .u32 0))], 0, false, false, []⟩),
  (109, ⟨10, true, none, none, none, false, true, [(0, 3), (1, 3), (2, 3), (3, 3), (4, 3), (5, 3), (6, 4), (7, 3), (8, 108), (9, 108)], [.pv (.v (.int .i64 0)), .pv (.v (.int .i64 0)), .pv (.v (.int .i64 0)), .pv (.v (.int .i64 0)), .pv (.v (.int .i64 0)), .pv (.v (.int .i64 0)), .pv (.v (.bool false)), .pv (.v (.int .i64 0)), .pv (.v (.int .u32 0)), .pv (.v (.int .u32 0))], 0, false, false, [false, false, false, false, false, false, true, false, false, false]⟩),
  (110, ⟨10, true, none, none, none, false, true, [(0, 3), (1, 3), (2, 3), (3, 3), (4, 3), (5, 3), (6, 4), (7, 3), (8, 108), (9, 108)], [.pv (.v (.int .i64 0)), .pv (.v (.int .i64 0)), .pv (.v (.int .i64 0)), .pv (.v (.int .i64 0)), .pv (.v (.int .i64 0)), .pv (.v (.int .i64 0)), .pv (.v (.bool false)), .pv (.v (.int .i64 0)), .pv (.v (.int .u32 0)), .pv (.v (.int .u32 0))], 0, false, false, [false, false, false, false, false, false, true, false, false, false]⟩),
  (111, ⟨1, false, (some (3, 1, 8)), none, none, false, false, [], [.slu 3 1 []], 0, false, false, []⟩),
  (114, ⟨1, false, none, none, none, false, false, [], [.pv (.v .nilFunc)], 0, false, false, []⟩),
  (116, ⟨1, false, none, none, none, false, false, [], [.pv (.v .nilFunc)], 0, false, false, []⟩),
  (117, ⟨1, false, none, none, none, false, false, [], [.pv (.v .nilFunc)], 0, false, false, []⟩),
  (118, ⟨1, false, none, none, none, false, false, [], [.pv (.v .nilFunc)], 0, false, false, []⟩),
  (119, ⟨1, false, none, none, none, false, false, [], [.pv (.v .nilFunc)], 0, false, false, []⟩),
  (120, ⟨1, false, none, none, none, false, false, [], [.pv (.v .nilFunc)], 0, false, false, []⟩),
  (121, ⟨1, false, none, none, none, false, false, [], [.pv (.v .nilFunc)], 0, false, false, []⟩),
  (122, ⟨1, false, none, none, none, false, false, [], [.pv (.v .nilFunc)], 0, false, false, []⟩),
  (123, ⟨1, false, none, none, none, false, false, [], [.pv (.v .nilFunc)], 0, false, false, []⟩),
  (124, ⟨1, false, none, none, (some .u64), false, false, [], [.pv (.v (.int .u64 0))], 0, false, false, []⟩),
  (125, ⟨1, true, none, none, none, false, true, [(0, 28)], [.pv (.v (.int .i64 0))], 0, false, false, [false]⟩),
  (126, ⟨1, true, none, none, none, false, true, [(0, 28)], [.pv (.v (.int .i64 0))], 0, false, false, [false]⟩),
  (128, ⟨1, false, none, none, none, false, false, [], [.dead], 0, false, false, []⟩),
  (129, ⟨5, true, none, none, none, false, false, [(0, 22), (1, 24), (4, 67)], [.slu 27 1 [], .pv (.v (.int .i64 0)), .pv (.v (.int .i64 0)), .pv (.v (.int .i64 0)), .pv (.v (.int .i64 0))], 0, false, false, []⟩),
  (130, ⟨5, true, none, none, none, false, false, [(0, 22), (1, 24), (4, 67)], [.slu 27 1 [], .pv (.v (.int .i64 0)), .pv (.v (.int .i64 0)), .pv (.v (.int .i64 0)), .pv (.v (.int .i64 0))], 0, false, false, []⟩),
  (131, ⟨1, false, none, none, none, false, false, [], [.pv (.v .nilFunc)], 0, false, false, []⟩),
  (132, ⟨1, false, none, none, none, false, false, [], [.pv (.v .nilFunc)], 0, false, false, []⟩),
  (133, ⟨1, false, none, none, none, false, false, [], [.pv (.v .nilFunc)], 0, false, false, []⟩),
  (134, ⟨1, false, none, none, none, false, false, [], [.pv (.v .nilFunc)], 0, false, false, []⟩),
  (135, ⟨1, false, none, none, none, false, false, [], [.pv (.v .nilFunc)], 0, false, false, []⟩),
  (136, ⟨1, false, none, none, none, false, false, [], [.pv (.v .nilFunc)], 0, false, false, []⟩),
  (137, ⟨1, false, none, none, none, false, false, [], [.pv (.v .nilFunc)], 0, false, false, []⟩),
  (139, ⟨1, false, none, none, none, false, false, [], [.pv (.v .nilFunc)], 0, false, false, []⟩),
  (140, ⟨1, false, none, none, none, false, false, [], [.pv (.v .nilFunc)], 0, false, false, []⟩),
  (141, ⟨1, false, none, none, none, false, false, [], [.pv (.v .nilFunc)], 0, false, false, []⟩),
  (143, ⟨1, false, none, none, none, false, false, [], [.pv (.v .nilFunc)], 0, false, false, []⟩),
  (145, ⟨1, false, none, none, none, false, false, [], [.pv (.v .nilFunc)], 0, false, false, []⟩),
  (146, ⟨1, false, none, none, none, false, false, [], [.pv (.v .nilFunc)], 0, false, false, []⟩),
  (147, ⟨1, false, none, none, none, false, false, [], [.pv (.v .nilFunc)], 0, false, false, []⟩),
  (148, ⟨1, false, none, none, none, false, false, [], [.pv (.v .nilFunc)], 0, false, false, []⟩),
  (149, ⟨1, false, none, none, none, false, false, [], [.pv (.v .nilFunc)], 0, false, false, []⟩),
  (150, ⟨1, false, none, none, none, false, false, [], [.pv (.v .nilFunc)], 0, false, false, []⟩),
  (151, ⟨1, false, none, none, none, false, false, [], [.pv (.v .nilFunc)], 0, false, false, []⟩),
  (152, ⟨1, false, none, none, none, false, false, [], [.pv (.v .nilFunc)], 0, false, false, []⟩),
  (153, ⟨8, true, none, (some (8, 1)), none, false, false, [], [.pv (.v (.int .i64 0)), .pv (.v (.int .i64 0)), .pv (.v (.int .i64 0)), .pv (.v (.int .i64 0)), .pv (.v (.int .i64 0)), .pv (.v (.int .i64 0)), .pv (.v (.int .i64 0)), .pv (.v (.int .i64 0))], 3, false, false, []⟩),
  (154, ⟨3, true, none, none, none, false, true, [(0, 48), (1, 3), (2, 3)], [.pv (.v (.int .u64 0)), .pv (.v (.int .i64 0)), .pv (.v (.int .i64 0))], 0, false, false, [false, false, false]⟩),
  (155, ⟨3, true, none, none, none, false, true, [(0, 48), (1, 3), (2, 3)], [.pv (.v (.int .u64 0)), .pv (.v (.int .i64 0)), .pv (.v (.int .i64 0))], 0, false, false, [false, false, false]⟩),
  (156, ⟨1, false, none, none, none, false, false, [], [.pv (.v .nilFunc)], 0, false, false, []⟩),
  (158, ⟨1, false, none, none, none, false, false, [], [.pv (.v .nilFunc)], 0, false, false, []⟩),
  (159, ⟨4, true, none, (some (4, 1)), none, false, false, [], [.pv (.v .nilFunc), .pv (.v .nilFunc), .pv (.v .nilFunc), .pv (.v .nilFunc)], 158, false, false, []⟩),
  (160, ⟨1, false, none, none, none, false, false, [], [.dead], 0, false, false, []⟩),
  (161, ⟨1, true, none, none, none, false, false, [(0, 67)], [.pv (.v (.int .i64 0))], 0, false, false, []⟩),
  (162, ⟨1, true, none, none, none, false, false, [(0, 67)], [.pv (.v (.int .i64 0))], 0, false, false, []⟩),
  (163, ⟨1, false, none, none, none, false, false, [], [.pv (.v .nilFunc)], 0, false, false, []⟩),
  (164, ⟨1, false, none, none, none, false, false, [], [.pv (.v .nilFunc)], 0, false, false, []⟩),
  (165, ⟨1, false, none, none, none, false, false, [], [.pv (.v .nilFunc)], 0, false, false, []⟩),
  (166, ⟨1, false, none, none, none, false, false, [], [.dead], 0, false, false, []⟩),
  (167, ⟨1, false, none, none, none, false, false, [], [.pv (.v .nilFunc)], 0, false, false, []⟩),
  (168, ⟨1, false, none, none, none, false, false, [], [.pv (.v .nilFunc)], 0, false, false, []⟩),
  (169, ⟨1, false, none, none, none, false, false, [], [.pv (.v .nilFunc)], 0, false, false, []⟩),
  (170, ⟨1, false, none, none, none, false, false, [], [.pv (.v .nilFunc)], 0, false, false, []⟩),
  (171, ⟨4, true, none, none, none, false, false, [(0, 17), (1, 17), (2, 17), (3, 9)], [.dead, .dead, .dead, .pv (.v (.string ⟨#[]⟩))], 0, false, false, []⟩),
  (172, ⟨4, true, none, none, none, false, false, [(0, 17), (1, 17), (2, 17), (3, 9)], [.dead, .dead, .dead, .pv (.v (.string ⟨#[]⟩))], 0, false, false, []⟩),
  (173, ⟨0, true, none, (some (0, 1)), none, false, false, [], [], 16, false, false, []⟩),
  (174, ⟨0, true, none, none, none, false, false, [(0, 173)], [], 0, false, false, []⟩),
  (175, ⟨0, true, none, none, none, false, false, [(0, 173)], [], 0, false, false, []⟩),
  (176, ⟨1, false, none, none, none, false, false, [], [.pv (.v .nilFunc)], 0, false, false, []⟩),
  (177, ⟨1, false, none, none, (some .u8), false, false, [], [.pv (.v (.int .u8 0))], 0, false, false, []⟩),
  (178, ⟨1, false, none, none, (some .u8), false, false, [], [.pv (.v (.int .u8 0))], 0, false, false, []⟩),
  (179, ⟨1, false, none, none, none, false, false, [], [.pv (.v .nilFunc)], 0, false, false, []⟩),
  (180, ⟨1, false, none, none, none, false, false, [], [.dead], 0, false, false, []⟩),
  (181, ⟨1, false, none, none, (some .i32), false, false, [], [.pv (.v (.int .i32 0))], 0, false, false, []⟩),
  (182, ⟨1, false, none, none, (some .i32), false, false, [], [.pv (.v (.int .i32 0))], 0, false, false, []⟩),
  (183, ⟨11, true, none, none, none, false, false, [(0, 12), (1, 12), (2, 108), (3, 177), (4, 5), (5, 5), (6, 178), (7, 179), (8, 180), (9, 181), (10, 182)], [.pv (.v (.int .u64 0)), .pv (.v (.int .u64 0)), .pv (.v (.int .u32 0)), .pv (.v (.int .u8 0)), .pv (.v (.int .u8 0)), .pv (.v (.int .u8 0)), .pv (.v (.int .u8 0)), .pv (.v .nilFunc), .dead, .pv (.v (.int .i32 0)), .pv (.v (.int .i32 0))], 0, false, false, []⟩),
  (184, ⟨11, true, none, none, none, false, false, [(0, 12), (1, 12), (2, 108), (3, 177), (4, 5), (5, 5), (6, 178), (7, 179), (8, 180), (9, 181), (10, 182)], [.pv (.v (.int .u64 0)), .pv (.v (.int .u64 0)), .pv (.v (.int .u32 0)), .pv (.v (.int .u8 0)), .pv (.v (.int .u8 0)), .pv (.v (.int .u8 0)), .pv (.v (.int .u8 0)), .pv (.v .nilFunc), .dead, .pv (.v (.int .i32 0)), .pv (.v (.int .i32 0))], 0, false, false, []⟩),
  (185, ⟨1, false, none, none, none, false, false, [], [.dead], 0, false, false, []⟩)]
def env : Env := ⟨tis, [(0, .agg [.v (.int .i64 0), .v (.int .i64 1), .v (.int .i64 8), .v (.int .i64 16), .v (.int .i64 32), .v (.int .i64 64), .v (.int .i64 64), .v (.int .i64 0)])], [(1, (166, [(0, 164), (1, 166), (2, 167), (3, 168)]))], [((15, 0), [0, 1, 5]), ((18, 0), [2, 3, 5]), ((20, 0), [3, 4, 5]), ((30, 0), [0, 3, 4]), ((30, 2), [0, 3, 4, 5, 6]), ((31, 0), [0, 3]), ((37, 0), [0, 5, 7, 12, 13, 15, 20, 22, 26]), ((39, 0), [1, 2, 3, 4, 5, 6]), ((39, 2), [1, 2, 4, 5, 7]), ((40, 0), [1, 3, 4]), ((41, 0), [1, 3, 4]), ((42, 0), [0, 1, 5]), ((44, 0), [1, 3, 4]), ((49, 0), [1, 3]), ((50, 0), [1, 3]), ((51, 0), [3, 7, 8, 9]), ((52, 0), [0, 1, 5]), ((52, 2), [0, 1, 5, 6, 7, 8, 9]), ((54, 1), [0, 7, 69, 70, 71]), ((54, 3), [0, 7, 12, 69, 70, 71, 80, 81, 82]), ((55, 0), [9, 10, 11, 12, 13]), ((59, 0), [0, 4, 6, 8, 10, 11, 13, 16, 17]), ((60, 0), [0, 1, 2, 3, 10, 11]), ((61, 0), [0, 1, 2, 7, 8]), ((61, 2), [0, 1, 2, 7, 8, 9, 10, 11, 12]), ((63, 0), [0, 3, 4]), ((64, 0), [0, 3, 4]), ((65, 0), [1, 4, 5, 6]), ((70, 0), [0, 7, 8, 9]), ((71, 0), [3, 11, 12, 13]), ((71, 2), [3, 5, 11, 12, 13, 17]), ((72, 0), [0, 3, 4]), ((74, 0), [2, 3, 36, 37, 38]), ((77, 0), [0, 3, 4, 6, 7, 10, 38, 39, 40]), ((79, 0), [3, 5, 6, 7, 8]), ((79, 2), [1, 3, 5, 6, 9, 10]), ((79, 4), [1, 3, 5, 6, 11, 12, 15, 16]), ((79, 6), [1, 3, 5, 6, 11, 12, 15, 16, 17]), ((81, 0), [1, 3, 4]), ((82, 0), [0, 1, 2, 8]), ((82, 2), [0, 1, 2, 8, 9]), ((88, 0), [2, 3, 13, 14, 15]), ((88, 2), [2, 3, 13, 14, 15, 26, 27, 28]), ((97, 0), [4, 5, 9, 10, 11]), ((100, 0), [1, 5]), ((103, 0), [0, 1, 2, 7, 8]), ((112, 1), [0, 2, 4, 6, 7, 39, 40]), ((113, 0), [0, 1, 5]), ((115, 0), [0, 1, 5]), ((117, 0), [0, 4, 18, 19]), ((120, 0), [0, 4, 5]), ((132, 0), [0, 2, 4, 7, 8, 16, 17]), ((135, 0), [0, 1, 6, 17]), ((138, 0), [0, 1, 6, 7])], [(12, (.t 0 2 (.u 48 1))), (32, (.t 0 2 (.u 48 1))), (33, (.s (.u 48 1))), (100, (.s (.u 48 1))), (120, (.t 0 2 (.u 48 1))), (146, (.s (.u 5 1)))], [(73, 90)], [(146, (5, 1, 1))], [(2, 27, 29), (4, 27, 24), (2, 27, 15), (6, 27, 19)]⟩
noncomputable def fns : List (Nat × Func) := [(3, Tryz.f3), (4, Tryz.f4), (5, Tryz.f5), (6, Tryz.f6), (7, Tryz.f7), (8, Tryz.f8), (9, Tryz.f9), (10, Tryz.f10), (11, Tryz.f11), (12, Tryz.f12), (13, Tryz.f13), (14, Tryz.f14), (15, Tryz.f15), (16, Tryz.f16), (17, Tryz.f17), (18, Tryz.f18), (19, Tryz.f19), (20, Tryz.f20), (21, Tryz.f21), (22, Tryz.f22), (23, Tryz.f23), (24, Tryz.f24), (25, Tryz.f25), (26, Tryz.f26), (27, Tryz.f27), (28, Tryz.f28), (29, Tryz.f29), (30, Tryz.f30), (31, Tryz.f31), (32, Tryz.f32), (33, Tryz.f33), (34, Tryz.f34), (35, Tryz.f35), (36, Tryz.f36), (37, Tryz.f37), (38, Tryz.f38), (39, Tryz.f39), (40, Tryz.f40), (41, Tryz.f41), (42, Tryz.f42), (43, Tryz.f43), (44, Tryz.f44), (45, Tryz.f45), (46, Tryz.f46), (47, Tryz.f47), (48, Tryz.f48), (49, Tryz.f49), (50, Tryz.f50), (51, Tryz.f51), (52, Tryz.f52), (53, Tryz.f53), (54, Tryz.f54), (55, Tryz.f55), (56, Tryz.f56), (57, Tryz.f57), (58, Tryz.f58), (59, Tryz.f59), (60, Tryz.f60), (61, Tryz.f61), (62, Tryz.f62), (63, Tryz.f63), (64, Tryz.f64), (65, Tryz.f65), (66, Tryz.f66), (67, Tryz.f67), (68, Tryz.f68), (69, Tryz.f69), (70, Tryz.f70), (71, Tryz.f71), (72, Tryz.f72), (73, Tryz.f73), (74, Tryz.f74), (75, Tryz.f75), (76, Tryz.f76), (77, Tryz.f77), (78, Tryz.f78), (79, Tryz.f79), (80, Tryz.f80), (81, Tryz.f81), (82, Tryz.f82), (83, Tryz.f83), (84, Tryz.f84), (85, Tryz.f85), (86, Tryz.f86), (87, Tryz.f87), (88, Tryz.f88), (89, Tryz.f89), (90, Tryz.f90), (91, Tryz.f91), (92, Tryz.f92), (93, Tryz.f93), (94, Tryz.f94), (95, Tryz.f95), (96, Tryz.f96), (97, Tryz.f97), (98, Tryz.f98), (99, Tryz.f99), (100, Tryz.f100), (101, Tryz.f101), (102, Tryz.f102), (103, Tryz.f103), (104, Tryz.f104), (105, Tryz.f105), (106, Tryz.f106), (107, Tryz.f107), (108, Tryz.f108), (109, Tryz.f109), (110, Tryz.f110), (111, Tryz.f111), (112, Tryz.f112), (113, Tryz.f113), (114, Tryz.f114), (115, Tryz.f115), (116, Tryz.f116), (117, Tryz.f117), (118, Tryz.f118), (119, Tryz.f119), (120, Tryz.f120), (121, Tryz.f121), (122, Tryz.f122), (123, Tryz.f123), (124, Tryz.f124), (125, Tryz.f125), (126, Tryz.f126), (127, Tryz.f127), (128, Tryz.f128), (129, Tryz.f129), (130, Tryz.f130), (131, Tryz.f131), (132, Tryz.f132), (133, Tryz.f133), (134, Tryz.f134), (135, Tryz.f135), (136, Tryz.f136), (137, Tryz.f137), (138, Tryz.f138), (139, Tryz.f139), (140, Tryz.f140), (141, Tryz.f141), (142, Tryz.f142), (143, Tryz.f143), (144, Tryz.f144), (145, Tryz.f145), (146, Tryz.f146), (147, Tryz.f147), (164, Tryz.f164), (165, Tryz.f165), (166, Tryz.f166), (167, Tryz.f167), (168, Tryz.f168)]
noncomputable def ev : Cf := val env fns
theorem ev_eq {f : Nat} {fn : Func} (hf : find fns f = some fn) (hc : find env.cln f = none) (hd : find env.dfr f = none) (args : List AV) (H : Heap) : ev f args H = bodyV env ev fn f args H := val_eq hf hc hd args H
theorem ev_dfr {f g : Nat} {fn gn : Func} {d : DP} (hf : find fns f = some fn) (hg : find fns g = some gn) (hc : find env.cln f = none) (hd : find env.dfr f = some g) (hp : dfrParts g fn gn = some d) (args : List AV) (H : Heap) : ev f args H = dfrV env ev f g fn gn d args H := val_dfr hf hg hc hd hp args H
theorem ev_clone {f : Nat} {q : Nat × Nat × Nat} (hc : find env.cln f = some q) (args : List AV) (H : Heap) : ev f args H = clone q args H := val_clone hc args H
end Go.Proofs.YtfljialckkgacaaGreatDoor.E
set_option linter.unusedVariables false
namespace Go.Proofs.YtfljialckkgacaaGreatDoor.E
/-! Copies of rows: slices.Clone, of any kind of element. -/
/-- Nothing is called. -/
def cf0 : Nat → List AV → Heap → Option (Out × Heap) := fun _ _ _ => none
def dead2 (s : St) : St := ⟨fun t => if t = 3 then .dead else if t = 4 then .dead else s.sl t, s.H⟩
/-- What the two ends compute. -/
def clK (E : Env) (n f : Nat) (rs : List ResultVar) (R0 R : Code) (sz : Nat) (xs : List PV) : Option (Out × Heap) :=
  evK E cf0 n f 1 0 R0 (fun r => match r.1 with
    | .normal => evK E cf0 n f 1 0 R (fun r => match r.1 with
      | .ret => finK E f rs 0 r
      | _ => none) (dead2 r.2)
    | _ => none) ⟨fun t => (([.pv (.sl sz xs)] : List AV)[t]?).getD .dead, []⟩
section
variable {P : Program} {E : Env}
theorem clK_some {n f : Nat} {rs : List ResultVar} {R0 R : Code} {sz : Nat} {xs : List PV} {x : Out × Heap} (h : clK E n f rs R0 R sz xs = some x) : ∃ st1 r, evC E cf0 n f 1 0 R0 ⟨fun t => (([.pv (.sl sz xs)] : List AV)[t]?).getD .dead, []⟩ = some (.normal, st1) ∧ evC E cf0 n f 1 0 R (dead2 st1) = some r ∧ finK E f rs 0 r = some x ∧ r.1 = .ret := by
  unfold clK at h
  rw [evK_eq] at h
  obtain ⟨⟨ex, st1⟩, h1, h2⟩ := Option.bind_eq_some_iff.1 h
  cases ex with
  | normal =>
    simp only [evK_eq] at h2
    obtain ⟨⟨ex, st⟩, h3, h4⟩ := Option.bind_eq_some_iff.1 h2
    cases ex with
    | ret => exact ⟨st1, _, h1, h3, h4, rfl⟩
    | normal => cases h4
    | exit id => cases h4
    | pan p => cases h4
  | ret => cases h2
  | exit id => cases h2
  | pan p => cases h2
theorem rel_dead2 {G : Gh} {st : St} {a : Act} {w : World} (h : Rel P E G st.start a w) (x y : Value) : Rel P E G (dead2 st).start ((a.put (some 3) x).put (some 4) y) w := by
  refine ⟨h.wo, h.bx, fun t => ?_, fun t r hr => (by cases hr), h.dm⟩
  show VRel P E G w (fun j => .s t j) ((dead2 st).sl t) _
  unfold dead2
  simp only
  by_cases h3 : t = 3
  · rw [if_pos h3]; trivial
  · rw [if_neg h3]
    by_cases h4 : t = 4
    · rw [if_pos h4]; trivial
    · rw [if_neg h4]
      have e1 := (same_put (a := a) (some 3) x).tmps t (by simp; omega)
      have e2 := (same_put (a := a.put (some 3) x) (some 4) y).tmps t (by simp; omega)
      rw [e2, e1]
      exact h.sl t
theorem run_eql_nil {w : World} {T e : Nat} (hT : P.underlying T = some (.slice e)) (p : Option Addr) (n c : Nat) : (binOp .eql T (.slice p n c) (.slice none 0 0)).run P w = .ok (.bool p.isNone) w := by
  have k : ∀ m, (Op.equalIn (m + 1) T (.slice p n c) (.slice none 0 0)).run P w = .ok p.isNone w := fun m => by
    cases p <;> simp only [Op.equalIn, Sem.run_bind, run_underlying hT, Result.andThen_ok, Sem.run_pure] <;> rfl
  show (do pure (.bool (← Op.equal T (.slice p n c) (.slice none 0 0))) : Sem Value).run P w = _
  have := k 9999
  simp only [Sem.run_bind, show (Op.equal T (.slice p n c) (.slice none 0 0)).run P w = .ok p.isNone w from this, Result.andThen_ok, Sem.run_pure]
theorem wp_op {o : Oper} {i : Nat} {ops : Array Oper} {L : List Nat} {a : Act} {w : World} {Q : Exit → Act → World → Prop} {v : Value} (hi : ops[i]? = some o) (hg : o.guard = none) (hx : (execOp a.eval o).run P w = .ok (.value v) w) (h : wpOps P ops Q L (a.put o.dst v) w) : wpOps P ops Q (i :: L) a w := by
  rw [wpOps_cons]
  unfold wpOp
  have hw : Region.wanted o (yielded ops a.tmps) = true := by unfold Region.wanted; rw [hg]
  simp only [hi, hw, if_true]
  refine .inl ?_
  unfold Oper.wp
  rw [hx]
  exact h
theorem cln_gen (hm : P.follows .mixedOrders = true) (hS : SysOk P E) {f : Nat} {fn : Func} (hf : P.funcs[f]? = some fn) {T e sz by_ id1 : Nat} {o0 o1 : Oper} {R0 R2 R3 : Code} (hT : P.underlying T = some (.slice e))
    (hb : fn.body = some (.seq R0 (.seq (.seq (.region id1 #[o0, o1] false) (.cond (.tmp 4) (.seq R2 .ret) .skip)) (.seq R3 .ret))))
    (ho0 : o0.op = .move (.tmp 0)) (hd0 : o0.dst = some 3) (hg0 : o0.guard = none) (ho1 : o1.op = .binOp .eql T (.tmp 3) (.const (.slice none 0 0)) T) (hd1 : o1.dst = some 4) (hg1 : o1.guard = none) (hn : 5 ≤ fn.ntmps)
    (hw0 : ∀ xs st1, evC E cf0 fn.ntmps f 1 0 R0 ⟨fun t => (([.pv (.sl sz xs)] : List AV)[t]?).getD .dead, []⟩ = some (.normal, st1) → st1.sl 0 = .pv (.sl sz xs))
    (k2 : clK E fn.ntmps f fn.results.toList R0 (.seq R2 .ret) sz [] = some (.ret (.slu e sz []), []))
    (k3 : ∀ xs, roomy xs.length by_ = true → clK E fn.ntmps f fn.results.toList R0 (.seq R3 .ret) sz xs = some (.ret (.slu e sz xs), []))
    {args : List AV} {H : Heap} {out : Out} {H' : Heap} (hc : clone (e, sz, by_) args H = some (out, H')) {G : Gh} {w : World} {vs : Array Value} (pre : PreC P E G w args vs H) : Calls P f vs w fun e w' => EndOk P E G w H' out e w' := by
  have hC : CallOk P E cf0 := fun f args H out H' h => by cases h
  have hF : ∀ f args H r, cf0 f args H = some r → Fns P f := fun f args H r h => by cases h
  -- the arguments
  unfold clone at hc
  split at hc
  case h_2 => cases hc
  case h_1 p =>
  cases hps : pSl p with
  | none => simp [hps] at hc
  | some l =>
  obtain ⟨z, xs⟩ := l
  obtain rfl := pSl_some hps
  simp only [hps, Option.bind_some] at hc
  cases hcc : (decide (z = sz) && roomy xs.length by_ && H.isEmpty) with
  | false => simp [hcc] at hc
  | true =>
  simp only [hcc, cond_true, Option.some.injEq, Prod.mk.injEq] at hc
  obtain ⟨rfl, rfl⟩ := hc
  simp only [Bool.and_eq_true, decide_eq_true_eq, List.isEmpty_iff] at hcc
  obtain ⟨⟨rfl, hroom⟩, rfl⟩ := hcc
  obtain ⟨st1, r3, c0, c3, fk3, g3⟩ := clK_some (k3 xs hroom)
  refine calls_of_wp hf hb ?_
  have r0 := enter_ok pre fn.ntmps
  refine wp_seq (evC_ok hm hS hC hF (D := fun _ => True) R0 0 (N := 0) (fun _ _ => trivial) c0 r0 (by simp; omega) (Nat.zero_le _) ⟨fun ex he G1 a1 w1 f1 p1 r1 s1 d1 => ?_, fun p hp => (by cases hp)⟩)
  cases he
  have hsz : 5 ≤ a1.tmps.size := by rw [s1]; simp; omega
  have hv0 : PRep G1.g (.sl z xs) (tmp a1 0) := by
    have := r1.sl 0
    have e0 : (st1.start.sl 0).a = .pv (.sl z xs) := hw0 xs st1 c0
    rw [e0] at this
    exact this
  -- ends
  have fin : ∀ {R : Code} {r : Ex × St} {G2 : Gh} {a2 : Act} {w2 : World} {ys : List PV} {Q : Exit → Act → World → Prop}, evC E cf0 fn.ntmps f 1 0 R (dead2 st1) = some r → finK E f fn.results.toList 0 r = some (.ret (.slu e z ys), []) → r.1 = .ret → Fr G w G2 w2 X0 → Rel P E G2 (dead2 st1).start a2 w2 → 5 ≤ a2.tmps.size → fn.ntmps ≤ a2.tmps.size → a2.defers = [] → (ys = xs) →
      (∀ a3 w3, bodyPost P fn (fun e_1 w' => EndOk P E G w [] (.ret (.slu e z xs)) e_1 w') .ret a3 w3 → Q .ret a3 w3) → R.wp P Q a2 w2 := by
    intro R r G2 a2 w2 ys Q hr hfk hret f2 r2 hs hsn hdf hys hQ
    subst hys
    refine evC_ok hm hS hC hF (D := fun _ => True) R 0 (N := 0) (fun _ _ => trivial) hr r2 hsn (Nat.zero_le _) ⟨fun ex he G3 a3 w3 f3 p3 r3 s3 d3 => ?_, fun p hp G3 a3 w3 v s2 f3 p3 r3 hH s3 d3 hv => ?_⟩
    · have go : (resAll E f fn.results.toList).runK (fun _ _ a z => leave 0 (.ret a) z.H) [] [] r.2.start = some (.ret (.slu e z ys), []) → bodyPost P fn (fun e_1 w' => EndOk P E G w [] (.ret (.slu e z ys)) e_1 w') .ret a3 w3 := by
        intro hres
        rw [runK_eq] at hres
        cases hz : (resAll E f fn.results.toList).run r.2.start with
        | none => simp [hz] at hres
        | some zz =>
          obtain ⟨ws, v⟩ := zz
          simp only [hz] at hres
          obtain ⟨G4, x, f4, p4, r4, e4, o4⟩ := resAll_ok hS r3 hz
          exact ⟨d3.defers.trans hdf, x, e4, leave_ok (H := []) pre.dm ((f2.trans f3).trans (f4.weaken X1_X0 X0_old)) (fun l b hl hb => absurd hl (by simp)) r4 (by simpa using hres) o4⟩
      obtain ⟨ex1, st3⟩ := r
      cases ex1 with
      | normal => cases hret
      | ret => cases he; exact hQ _ _ (go hfk)
      | exit id => cases hfk
      | pan p => cases he
    · obtain ⟨ex1, st3⟩ := r
      simp only at hp
      subst hp
      simp only [finK] at hfk
      unfold leave at hfk
      split at hfk
      · cases hfk
      · cases hfk
  -- the test
  refine wp_seq (wp_seq (wp_region ?_))
  show wpOps P #[o0, o1] _ [0, 1] a1 w1
  refine wp_op (o := o0) (v := tmp a1 0) rfl hg0 (by simp only [execOp, ho0]; rfl) ?_
  rw [hd0]
  have hx3 : tmp (a1.put (some 3) (tmp a1 0)) 3 = tmp a1 0 := (tmp_put (by omega) _ 3).trans (if_pos rfl)
  obtain ⟨p0, n0, c00, hp0, hnil⟩ : ∃ p0 n0 c00, tmp a1 0 = .slice p0 n0 c00 ∧ (p0 = none → xs = []) := by
    generalize tmp a1 0 = y at hv0
    cases hv0 with
    | sl0 => exact ⟨_, _, _, rfl, fun _ => rfl⟩
    | sl => exact ⟨_, _, _, rfl, fun h => by cases h⟩
  refine wp_op (o := o1) (v := .bool p0.isNone) rfl hg1 ?_ ?_
  · have e3 : (a1.put (some 3) (tmp a1 0)).eval (.tmp 3) = .slice p0 n0 c00 := hx3.trans hp0
    have hgd : (eqGuard .eql T (.tmp 3) (.const (.slice none 0 0)) (.slice p0 n0 c00) (.slice none 0 0)).run P w1 = .ok () w1 := by simp [eqGuard]
    have e4 : (a1.put (some 3) (tmp a1 0)).eval (.const (.slice none 0 0)) = .slice none 0 0 := rfl
    simp only [execOp, ho1, e3, e4, Sem.run_bind, hgd, Result.andThen_ok, run_eql_nil hT, Sem.run_pure]
  rw [hd1]
  show Exit.then _ _ .normal _ _
  have hr2 := rel_dead2 r1 (tmp a1 0) (.bool p0.isNone)
  have hsz2 : ((a1.put (some 3) (tmp a1 0)).put (some 4) (.bool p0.isNone)).tmps.size = a1.tmps.size := by rw [size_put, size_put]
  have h4 : ((a1.put (some 3) (tmp a1 0)).put (some 4) (.bool p0.isNone)).eval (.tmp 4) = .bool p0.isNone := (tmp_put (by rw [size_put]; omega) _ 4).trans (if_pos rfl)
  have hnn : fn.ntmps ≤ ((a1.put (some 3) (tmp a1 0)).put (some 4) (.bool p0.isNone)).tmps.size := by rw [hsz2, s1]; simp; omega
  have hdf : ((a1.put (some 3) (tmp a1 0)).put (some 4) (.bool p0.isNone)).defers = [] := by show a1.defers = []; exact d1.defers
  refine wp_cond h4 ?_
  cases hpn : p0.isNone with
  | true =>
    have hp' : p0 = none := by simpa using hpn
    obtain rfl := hnil hp'
    obtain ⟨st1', r2, c0', c2, fk2, g2⟩ := clK_some k2
    obtain rfl : st1 = st1' := by rw [c0] at c0'; cases c0'; rfl
    rw [hpn] at hr2 hsz2 hnn hdf
    exact fin c2 fk2 g2 f1 hr2 (by rw [hsz2]; exact hsz) hnn hdf rfl fun a3 w3 hb => hb
  | false =>
    rw [hpn] at hr2 hsz2 hnn hdf
    refine wp_skip ?_
    show (Code.seq R3 .ret).wp P _ _ _
    exact fin c3 fk3 g3 f1 hr2 (by rw [hsz2]; exact hsz) hnn hdf rfl fun a3 w3 hb => hb
end
end Go.Proofs.YtfljialckkgacaaGreatDoor.E
set_option linter.unusedVariables false
namespace Go.Proofs.YtfljialckkgacaaGreatDoor.E
/-! The reading's table of types, checked. -/
def z1 : AV → Value → Bool
  | .pv (.v (.int k n)), .int k' n' => decide (k = k') && decide (n = n')
  | .pv (.v (.bool b)), .bool b' => b == b'
  | .pv (.v (.string s)), .string s' => s.data.toList.isEmpty && s'.data.toList.isEmpty
  | .pv (.v .nilFunc), .nilFunc => true
  | .pv (.v .nilIface), .nilIface => true
  | .slu _ sz [], .slice none 0 0 => decide (0 < sz)
  | .dead, v => v.oneCell'
  | _, _ => false
def zB : List AV → List Value → Bool
  | [], [] => true
  | a :: r, v :: q => z1 a v && zB r q
  | _, _ => false
section
variable (P : Program)
def infoE (e sz by_ : Nat) : Bool := match P.info? e with
  | some k => decide (k.size = sz) && decide (k.bytes = by_) && decide (0 < sz) && (match k.zero with | some z => decide (z.cells.size = sz) | none => false)
  | none => false
def eqF : List Field → Nat → List Bool → Bool
  | [], _, [] => true
  | f :: r, j, b :: q => !(f.name == "_") && decide (f.offset = j) && (match P.underlying f.type with | some (.int _) => !b | some .bool => b | _ => false) && eqF r (j + 1) q
  | _, _, _ => false
def tyB (t : Nat) (i : TI) : Bool := match P.info? t, P.underlying t with
  | some k, some d => decide (k.size = i.size) && (match k.zero with | some z => zB i.zero z.cells.toList | none => false) && decide (i.zero.length = i.size) &&
    (i.agg == aggD d) && (i.agg || decide (i.size = 1)) &&
    (match i.el with | none => true | some x => (match d with | .slice e => decide (e = x.1) && infoE P e x.2.1 x.2.2 | _ => false)) &&
    (match i.arr with | none => true | some x => (match d with | .array n e => decide (n = x.1) && decide (e = i.ae) && (match P.info? e with | some k => decide (k.size = x.2) | none => false) | _ => false)) &&
    (match i.int with | none => true | some k => (match d with | .int k' => decide (k = k') | _ => false)) &&
    (!i.bool || (match d with | .bool => true | _ => false)) && (!i.str || (match d with | .string => true | _ => false)) && (!i.ifc || (match d with | .interface _ => true | _ => false)) &&
    (i.fields.isEmpty || (match d with | .struct fs => decide (fs.toList.map (fun f => (f.offset, f.type)) = i.fields) | _ => false)) &&
    (!i.eq || ((match d with | .struct fs => eqF P fs.toList 0 i.tags | _ => false) && !P.stoodInHeld t && !P.eqGuardType P.depth t))
  | _, _ => false
end
section
variable {P : Program}
theorem z1_ok {a : AV} {v : Value} (h : z1 a v = true) : ZRel a v := by
  unfold z1 at h
  split at h
  · simp only [Bool.and_eq_true, decide_eq_true_eq] at h
    obtain ⟨rfl, rfl⟩ := h
    exact ⟨rfl, rfl⟩
  · simp only [beq_iff_eq] at h
    subst h
    exact ⟨rfl, rfl⟩
  · rename_i s s'
    simp only [Bool.and_eq_true, List.isEmpty_iff] at h
    obtain ⟨⟨d⟩⟩ := s
    obtain ⟨⟨d'⟩⟩ := s'
    simp only at h
    obtain ⟨rfl, rfl⟩ := h
    exact ⟨rfl, rfl⟩
  · exact ⟨rfl, rfl⟩
  · exact ⟨rfl, rfl⟩
  · exact ⟨rfl, of_decide_eq_true h⟩
  · exact h
  · cases h
theorem zB_ok : ∀ {as0 : List AV} {vs : List Value}, zB as0 vs = true → vs.length = as0.length ∧ ∀ (j : Nat) (a : AV) (x : Value), as0[j]? = some a → vs[j]? = some x → ZRel a x
  | [], [], _ => ⟨rfl, fun j a x h => by simp at h⟩
  | [], _ :: _, h => by simp [zB] at h
  | _ :: _, [], h => by simp [zB] at h
  | a :: r, v :: q, h => by
    simp only [zB, Bool.and_eq_true] at h
    obtain ⟨k1, k2⟩ := zB_ok h.2
    refine ⟨by simp [k1], fun j b x hb hx => ?_⟩
    cases j with
    | zero => simp at hb hx; subst hb; subst hx; exact z1_ok h.1
    | succ j => exact k2 j b x (by simpa using hb) (by simpa using hx)
theorem eqF_ok {w : World} {g : Nat → Option (Array Value)} {vs us : Array Value} {cs ds : List PV} (hc : PRep g (.agg cs) (.agg vs)) (hd : PRep g (.agg ds) (.agg us)) (d : Nat) : ∀ (fs : List Field) (j : Nat) (tags : List Bool) (z : Bool), eqF P fs j tags = true → eqCells tags (cs.drop j) (ds.drop j) = some z → (Op.eqFields (d + 1) vs us fs).run P w = .ok z w
  | [], j, tags, z, h, he => by
    cases tags with
    | cons b q => simp [eqF] at h
    | nil =>
      unfold eqCells at he
      split at he
      · simp at he; subst he; simp [Op.eqFields]
      · rename_i h1 _ _; cases h1
      · rename_i h1 _ _; cases h1
      · cases he
  | f :: r, j, [], z, h, he => by simp [eqF] at h
  | f :: r, j, b :: q, z, h, he => by
    simp only [eqF, Bool.and_eq_true, Bool.not_eq_true', decide_eq_true_eq] at h
    obtain ⟨⟨⟨hn, ho⟩, ht⟩, hr⟩ := h
    have hn' : f.name ≠ "_" := by intro e; rw [e] at hn; simp at hn
    have cellC : ∀ {cs : List PV} {vs : Array Value} {x : Value} {l : List PV}, PRep g (.agg cs) (.agg vs) → cs.drop j = .v x :: l → vs[j]? = some x ∧ cs.drop (j + 1) = l := fun {cs vs x l} hP hl => by
      cases hP with
      | agg h1 h2 h3 =>
        have hj : cs[j]? = some (.v x) := by have := congrArg (fun l => l[0]?) hl; simpa using this
        have hlt : j < vs.size := by rw [h1]; exact (List.getElem?_eq_some_iff.1 hj).1
        have := h3 j _ vs[j] hj (Array.getElem?_eq_getElem hlt)
        have e : vs[j] = x := by cases this; rfl
        refine ⟨by rw [Array.getElem?_eq_getElem hlt, e], ?_⟩
        have := congrArg (List.drop 1) hl
        simpa [List.drop_drop] using this
    have step : ∀ {a c : Value} {y zz : Bool}, vs[j]? = some a → us[j]? = some c → ((part f.type vs f.offset).run P w = .ok a w) → ((part f.type us f.offset).run P w = .ok c w) → (Op.equalIn (d + 1) f.type a c).run P w = .ok y w → (Op.eqFields (d + 1) vs us r).run P w = .ok zz w → (Op.eqFields (d + 1) vs us (f :: r)).run P w = .ok (y && zz) w := fun {a c y zz} _ _ h1 h2 h3 h4 => by
      rw [Op.eqFields]
      simp only [if_pos hn', Sem.run_bind, h1, h2, h3, Result.andThen_ok]
      cases y
      · simp
      · simpa using h4
    unfold eqCells at he
    split at he
    · rename_i h1 _ _; cases h1
    · rename_i tt k a l1 k' b' l2 e1 e2 e3
      cases e1
      split at he
      · rename_i hk
        subst hk
        obtain ⟨v1, d1⟩ := cellC hc e2
        obtain ⟨v2, d2⟩ := cellC hd e3
        cases hrec : eqCells q l1 l2 with
        | none => simp [hrec] at he
        | some zz =>
          simp only [hrec, Option.map_some, Option.some.injEq] at he
          subst he
          have ih := eqF_ok (w := w) hc hd d r (j + 1) q zz hr (by rw [d1, d2]; exact hrec)
          split at ht
          · rename_i kk hu
            refine step v1 v2 ?_ ?_ ?_ ih
            · simp [part, isAgg, run_underlying hu, ho, v1]
            · simp [part, isAgg, run_underlying hu, ho, v2]
            · simp [Op.equalIn, run_underlying hu]
          · cases ht
          · cases ht
      · cases he
    · rename_i tt a l1 b' l2 e1 e2 e3
      cases e1
      obtain ⟨v1, d1⟩ := cellC hc e2
      obtain ⟨v2, d2⟩ := cellC hd e3
      cases hrec : eqCells q l1 l2 with
      | none => simp [hrec] at he
      | some zz =>
        simp only [hrec, Option.map_some, Option.some.injEq] at he
        subst he
        have ih := eqF_ok (w := w) hc hd d r (j + 1) q zz hr (by rw [d1, d2]; exact hrec)
        split at ht
        · cases ht
        · rename_i hu
          refine step v1 v2 ?_ ?_ ?_ ih
          · simp [part, isAgg, run_underlying hu, ho, v1]
          · simp [part, isAgg, run_underlying hu, ho, v2]
          · simp [Op.equalIn, run_underlying hu]
        · cases ht
    · cases he
theorem infoE_ok {e sz by_ : Nat} (h : infoE P e sz by_ = true) : ∃ k z, P.info? e = some k ∧ k.size = sz ∧ k.bytes = by_ ∧ k.zero = some z ∧ z.cells.size = sz ∧ 0 < sz := by
  unfold infoE at h
  split at h
  · rename_i k hk
    simp only [Bool.and_eq_true, decide_eq_true_eq] at h
    obtain ⟨⟨⟨h1, h2⟩, h3⟩, h4⟩ := h
    split at h4
    · rename_i z hz; exact ⟨k, z, hk, h1, h2, hz, of_decide_eq_true h4, h3⟩
    · cases h4
  · cases h
theorem tyB_ok {t : Nat} {i : TI} (h : tyB P t i = true) : TyOk P t i := by
  unfold tyB at h
  split at h
  · rename_i k d hk hd
    simp only [Bool.and_eq_true] at h
    obtain ⟨⟨⟨⟨⟨⟨⟨⟨⟨⟨⟨⟨h1, h2⟩, h3⟩, h4⟩, h5⟩, h6⟩, h7⟩, h8⟩, h9⟩, h10⟩, h11⟩, h12⟩, h13⟩ := h
    refine ⟨?_, ⟨d, hd, by simpa using h4⟩, fun ha => ?_, fun x hx => ?_, fun x hx => ?_, fun k hk => ?_, fun hb => ?_, fun hb => ?_, fun hb => ?_, fun f x hx => ?_, fun hf => ?_, fun he => ?_⟩
    · split at h2
      · rename_i z hz
        obtain ⟨k1, k2⟩ := zB_ok h2
        exact ⟨k, z, hk, of_decide_eq_true h1, hz, by simpa using k1, of_decide_eq_true h3, fun j a x ha hx => k2 j a x ha (by simpa using hx)⟩
      · cases h2
    · rw [ha] at h5; simpa using h5
    · rw [hx] at h6
      simp only at h6
      split at h6
      · simp only [Bool.and_eq_true, decide_eq_true_eq] at h6
        obtain ⟨rfl, h6⟩ := h6
        exact ⟨hd, infoE_ok h6⟩
      · cases h6
    · rw [hx] at h7
      simp only at h7
      split at h7
      · simp only [Bool.and_eq_true, decide_eq_true_eq] at h7
        obtain ⟨⟨rfl, rfl⟩, h7⟩ := h7
        split at h7
        · rename_i ke hke; exact ⟨_, ke, hd, hke, of_decide_eq_true h7, rfl⟩
        · cases h7
      · cases h7
    · rw [hk] at h8
      simp only at h8
      split at h8
      · have := of_decide_eq_true h8; subst this; exact hd
      · cases h8
    · rw [hb] at h9
      simp only [Bool.not_true, Bool.false_or] at h9
      split at h9
      · exact hd
      · cases h9
    · rw [hb] at h10
      simp only [Bool.not_true, Bool.false_or] at h10
      split at h10
      · exact hd
      · cases h10
    · rw [hb] at h11
      simp only [Bool.not_true, Bool.false_or] at h11
      split at h11
      · exact ⟨_, hd⟩
      · cases h11
    · have hne : i.fields.isEmpty = false := by cases hi : i.fields with
        | nil => rw [hi] at hx; simp at hx
        | cons a b => rfl
      rw [hne, Bool.false_or] at h12
      split at h12
      · rename_i fs
        have e := of_decide_eq_true h12
        rw [← e, List.getElem?_map] at hx
        cases hj : fs.toList[f]? with
        | none => simp [hj] at hx
        | some fd =>
          simp only [hj, Option.map_some, Option.some.injEq] at hx
          subst hx
          exact ⟨fs, fd, hd, by simpa using hj, rfl, rfl⟩
      · cases h12
    · have hne : i.fields.isEmpty = false := by cases hi : i.fields with
        | nil => exact absurd hi hf
        | cons a b => rfl
      rw [hne, Bool.false_or] at h12
      split at h12
      · rename_i fs
        have e := of_decide_eq_true h12
        exact ⟨fs, hd, by rw [← e]; simp⟩
      · cases h12
    · rw [he] at h13
      simp only [Bool.not_true, Bool.false_or, Bool.and_eq_true, Bool.not_eq_true'] at h13
      obtain ⟨⟨h13, h14⟩, h15⟩ := h13
      intro w vs us cs ds z g hc hd' hz
      split at h13
      · rename_i fs
        refine ⟨?_, h15⟩
        have := eqF_ok (w := w) hc hd' 9998 fs.toList 0 i.tags z h13 (by simpa using hz)
        have hf : P.fieldsOf t = fs := by simp [Program.fieldsOf, hd]
        have e := run_equalIn_struct (P := P) w 9999 t vs us (by rw [hf]; exact hd) h14
        rw [hf] at e
        exact e.trans this
      · cases h13
  · cases h
theorem sys_ok {E : Env} (h : (E.ti.all fun x => tyB P x.1 x.2) = true) : SysOk P E := by
  refine ⟨fun t i hi => ?_⟩
  have hm := find_none_or hi
  exact tyB_ok (List.all_eq_true.1 h _ hm)
end
end Go.Proofs.YtfljialckkgacaaGreatDoor.E
set_option linter.unusedVariables false
set_option linter.unusedSimpArgs false
namespace Go.Proofs.YtfljialckkgacaaGreatDoor.E
/-! Plain data in the reading's values. -/
@[simp] theorem pInt_v (k : IntKind) (n : Int) : pInt (.pv (.v (.int k n))) = some (k, n) := rfl
@[simp] theorem pIntK_v (k : IntKind) (n : Int) : pIntK k (.pv (.v (.int k n))) = some n := by simp [pIntK]
@[simp] theorem pBool_v (b : Bool) : pBool (.pv (.v (.bool b))) = some b := rfl
@[simp] theorem pSl_v (z : Nat) (xs : List PV) : pSl (.sl z xs) = some (z, xs) := rfl
@[simp] theorem pAgg_v (cs : List PV) : pAgg (.pv (.agg cs)) = some cs := rfl
@[simp] theorem aggOf_v (cs : List PV) : aggOf (.pv (.agg cs)) = some cs := rfl
@[simp] theorem pTup_v (cs : List PV) : pTup (.pv (.tup cs)) = some cs := rfl
@[simp] theorem pIfc_v (t : Nat) (p : PV) : pIfc (.pv (.ifc t p)) = some (t, p) := rfl
@[simp] theorem pSlu_v (e z : Nat) (xs : List PV) : pSlu e z (.slu e z xs) = some xs := by simp [pSlu]
@[simp] theorem onlyPV_v (p : PV) : onlyPV (.pv p) = some p := rfl
@[simp] theorem cells_v (x : Value) : (PV.v x).cells = [.v x] := rfl
@[simp] theorem cells_sl (z : Nat) (xs : List PV) : (PV.sl z xs).cells = [.sl z xs] := rfl
@[simp] theorem cells_agg (cs : List PV) : (PV.agg cs).cells = cs := rfl
@[simp] theorem isCell_v (x : Value) : (PV.v x).isCell = true := rfl
@[simp] theorem isCell_sl (z : Nat) (xs : List PV) : (PV.sl z xs).isCell = true := rfl
@[simp] theorem isCell_agg (cs : List PV) : (PV.agg cs).isCell = false := rfl
@[simp] theorem isPtr_v (l o : Nat) : isPtr l o (.ptr l o) = true := by simp [isPtr]
@[simp] theorem callT_ret {γ : Type} (a : AV) (h : Heap) (kr : AV → Heap → Option γ) (kp : PV → Heap → Option γ) : callT (some (.ret a, h)) kr kp = kr a h := rfl
@[simp] theorem callT_pan {γ : Type} (p : PV) (h : Heap) (kr : AV → Heap → Option γ) (kp : PV → Heap → Option γ) : callT (some (.pan p, h)) kr kp = kp p h := rfl
theorem w64 {x : Int} (h : -9223372036854775808 ≤ x ∧ x ≤ 9223372036854775807) : IntKind.wrap .i64 x = x := by
  simp only [IntKind.wrap, IntKind.bits, IntKind.signed]
  simp
  split <;> omega
theorem w64_nat {n : Nat} (h : n ≤ 9223372036854775807) : IntKind.wrap .i64 (n : Int) = n := w64 ⟨by omega, by omega⟩
theorem wu64 {x : Int} (h : 0 ≤ x ∧ x ≤ 18446744073709551615) : IntKind.wrap .u64 x = x := by
  simp only [IntKind.wrap, IntKind.bits, IntKind.signed]
  simp
  omega
theorem wu64_any (x : Int) : IntKind.wrap .u64 x = x % 18446744073709551616 := by simp [IntKind.wrap, IntKind.bits, IntKind.signed]
theorem wu32_any (x : Int) : IntKind.wrap .u32 x = x % 4294967296 := by simp [IntKind.wrap, IntKind.bits, IntKind.signed]
theorem wu8_any (x : Int) : IntKind.wrap .u8 x = x % 256 := by simp [IntKind.wrap, IntKind.bits, IntKind.signed]
theorem cond_dec {γ : Type} {p : Prop} [Decidable p] (x y : γ) : cond (decide p) x y = if p then x else y := by by_cases h : p <;> simp [h]
theorem cond_beq {γ : Type} (a b : Int) (x y : γ) : cond (a == b) x y = if a = b then x else y := by
  by_cases h : a = b
  · rw [if_pos h, beq_iff_eq.2 h]; rfl
  · rw [if_neg h, beq_eq_false_iff_ne.2 h]; rfl
theorem cond_bne {γ : Type} (a b : Int) (x y : γ) : cond (a != b) x y = if a = b then y else x := by
  by_cases h : a = b
  · rw [if_pos h, bne, beq_iff_eq.2 h]; rfl
  · rw [if_neg h, bne, beq_eq_false_iff_ne.2 h]; rfl
theorem cond_and {γ : Type} (a b : Bool) (x y : γ) : cond (a && b) x y = cond a (cond b x y) y := by cases a <;> rfl
theorem pI64 (n : Int) : pIntK .i64 (.pv (.v (.int .i64 n))) = some n := rfl
theorem pU64 (n : Int) : pIntK .u64 (.pv (.v (.int .u64 n))) = some n := rfl
theorem pU32 (n : Int) : pIntK .u32 (.pv (.v (.int .u32 n))) = some n := rfl
theorem pU8 (n : Int) : pIntK .u8 (.pv (.v (.int .u8 n))) = some n := rfl
theorem tt_and (b : Bool) : (true && b) = b := rfl
theorem ff_and (b : Bool) : (false && b) = false := rfl
theorem cnd_t {γ : Type} (x y : γ) : cond true x y = x := rfl
theorem cnd_f {γ : Type} (x y : γ) : cond false x y = y := rfl
theorem nt_t : (!true) = false := rfl
theorem nt_f : (!false) = true := rfl
theorem len1 (a : PV) : decide ([a].length = 1) = true := rfl
theorem len3 (a b c : PV) : decide ([a, b, c].length = 3) = true := rfl
theorem len5 (a b c d e : PV) : decide ([a, b, c, d, e].length = 5) = true := rfl
theorem len8 (a b c d e f g h : PV) : decide ([a, b, c, d, e, f, g, h].length = 8) = true := rfl
theorem len10 (a b c d e f g h i j : PV) : decide ([a, b, c, d, e, f, g, h, i, j].length = 10) = true := rfl
theorem hlen1 (a : List AV) : decide ([a].length = 1) = true := rfl
theorem clen1 (a : AV) : decide ([a].length = 1) = true := rfl
theorem clen5 (a b c d e : AV) : decide ([a, b, c, d, e].length = 5) = true := rfl
abbrev I (n : Int) : PV := .v (.int .i64 n)
abbrev U (n : Int) : PV := .v (.int .u64 n)
abbrev U32 (n : Int) : PV := .v (.int .u32 n)
abbrev U8 (n : Int) : PV := .v (.int .u8 n)
abbrev Bo (b : Bool) : PV := .v (.bool b)
/-- A call that returns this. -/
abbrev ok (p : PV) : Option (Out × Heap) := some (.ret (.pv p), [])
/-- A list of words, of segments. -/
def ws (l : List Int) : List PV := l.map fun n => .v (.int .u64 n)
def bs (l : List Int) : List PV := l.map fun n => .v (.int .u8 n)
def sgs (l : List (List Int)) : List PV := l.map fun s => .sl 1 (ws s)
def Word (x : Int) : Prop := 0 ≤ x ∧ x ≤ 18446744073709551615
def Words (xs : List Int) : Prop := xs.length ≤ 9223372036854775807 ∧ ∀ x ∈ xs, Word x
def Byte (x : Int) : Prop := 0 ≤ x ∧ x ≤ 255
def Bytes (xs : List Int) : Prop := xs.length ≤ 9223372036854775807 ∧ ∀ x ∈ xs, Byte x
def Segs (l : List (List Int)) : Prop := l.length ≤ 9223372036854775807 ∧ ∀ s ∈ l, Words s
@[simp] theorem ws_len (l : List Int) : (ws l).length = l.length := by simp [ws]
@[simp] theorem bs_len (l : List Int) : (bs l).length = l.length := by simp [bs]
@[simp] theorem sgs_len (l : List (List Int)) : (sgs l).length = l.length := by simp [sgs]
theorem ws_get {l : List Int} {i : Nat} (h : i < l.length) : (ws l)[i]? = some (.v (.int .u64 l[i])) := by simp [ws, h]
theorem bs_get {l : List Int} {i : Nat} (h : i < l.length) : (bs l)[i]? = some (.v (.int .u8 l[i])) := by simp [bs, h]
theorem sgs_get {l : List (List Int)} {i : Nat} (h : i < l.length) : (sgs l)[i]? = some (.sl 1 (ws l[i])) := by simp [sgs, h]
/-- Reading with a default. -/
def rd (l : List Int) (i : Int) : Int := l.getD i.toNat 0
def rdL (l : List (List Int)) (i : Int) : List Int := l.getD i.toNat []
theorem ws_rd {l : List Int} {i : Int} (h0 : 0 ≤ i) (h : i < l.length) : (ws l)[i.toNat]? = some (.v (.int .u64 (rd l i))) := by
  rw [ws_get (by omega)]; simp [rd, List.getD_eq_getElem?_getD, show i.toNat < l.length by omega]
theorem sgs_rd {l : List (List Int)} {i : Int} (h0 : 0 ≤ i) (h : i < l.length) : (sgs l)[i.toNat]? = some (.sl 1 (ws (rdL l i))) := by
  rw [sgs_get (by omega)]; simp [rdL, List.getD_eq_getElem?_getD, show i.toNat < l.length by omega]
theorem rdL_words {l : List (List Int)} (h : Segs l) (i : Int) : Words (rdL l i) := by
  unfold rdL
  rw [List.getD_eq_getElem?_getD]
  by_cases hs : i.toNat < l.length
  · rw [List.getElem?_eq_getElem hs]; exact h.2 _ (List.getElem_mem hs)
  · rw [List.getElem?_eq_none (by omega)]; exact ⟨by simp, fun x hx => by simp at hx⟩
theorem rd_word {l : List Int} (h : Words l) (i : Int) : Word (rd l i) := by
  unfold rd
  rw [List.getD_eq_getElem?_getD]
  by_cases hs : i.toNat < l.length
  · rw [List.getElem?_eq_getElem hs]; exact h.2 _ (List.getElem_mem hs)
  · rw [List.getElem?_eq_none (by omega)]; exact ⟨by simp, by simp⟩
end Go.Proofs.YtfljialckkgacaaGreatDoor.E
