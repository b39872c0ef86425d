/- This text proves that the law ResolveStructs of the given program returns true on every input that its statement covers, as the statement says it. Its conditions are the statement's own. -/
import Derived.Test.YtcjhejopcghgnaaDoorBR83
import Derived.Test.YtcjhejopcghgnaaDoorBR82
import Derived.Test.YtcjhejopcghgnaaDoorBR81
import Derived.Test.YtcjhejopcghgnaaDoorRows
import Derived.Test.YtcjhejopcghgnaaDoorCards
import Derived.Test.YtcjhejopcghgnaaDoorTie
import Derived.WalkKit
import Derived.ProofKit
import Derived.OpenShut
import Derived.ChangeOld
import Derived.SizedLaws
import Derived.SevenTiedAt
import Derived.Deep.DeepHandedRow
import Derived.Deep.DeepWitnessRowRef
set_option linter.unusedVariables false
set_option linter.unusedSimpArgs false
namespace Go.Proofs.YtcjhejopcghgnaaDoor.P
open Go.RowKit Go.Proofs.YtcjhejopcghgnaaDoorW.PrintWords Go.Proofs.YtcjhejopcghgnaaDoorW.PrintLast Go.Proofs.YtcjhejopcghgnaaDoorW.PrintMore
theorem rd_app_left {l m : List (List Int)} {i : Int} (h0 : 0 ≤ i) (h : i < l.length) : rd_L5 (l ++ m) i = rd_L5 l i := by
  unfold rd_L5
  rw [List.getD_eq_getElem?_getD, List.getD_eq_getElem?_getD, List.getElem?_append_left (by omega)]
theorem rd_app_last {l : List (List Int)} {y : List Int} {i : Int} (h : i = l.length) : rd_L5 (l ++ [y]) i = y := by
  unfold rd_L5
  rw [List.getD_eq_getElem?_getD, List.getElem?_append_right (by omega), show i.toNat - l.length = 0 by omega]
  rfl
theorem rd_cons {l : List (List Int)} {y : List Int} : rd_L5 (y :: l) 0 = y := rfl
theorem Segs.app {l : List (List Int)} {y : List Int} (h : Segs l) (hl : l.length < 1000000) (hy : Words y) : Segs (l ++ [y]) := by
  refine ⟨by simp; omega, fun s hs => ?_⟩
  rcases List.mem_append.1 hs with hs | hs
  · exact h.2 s hs
  · rw [List.mem_singleton.1 hs]; exact hy
theorem Segs.cons {l : List (List Int)} {y : List Int} (h : Segs l) (hl : l.length < 1000000) (hy : Words y) : Segs (y :: l) := by
  refine ⟨by simp; omega, fun s hs => ?_⟩
  rcases List.mem_cons.1 hs with hs | hs
  · rw [hs]; exact hy
  · exact h.2 s hs
theorem far_word {b : Bool} {pd sg : Int} (h1 : 0 ≤ pd ∧ pd ≤ 536870911) (h2 : 0 ≤ sg ∧ sg ≤ 4294967295) : vldP (2, 0, 0, 0, 0, 0, b, pd, sg, 0) := by
  exact .inr (.inr (.inl ⟨rfl, rfl, rfl, rfl, rfl, rfl, h1.1, h1.2, h2.1, h2.2, rfl⟩))
/-- The parts of a far word. -/
theorem far_parts {b : Bool} {pd sg : Int} (h1 : 0 ≤ pd ∧ pd ≤ 536870911) (h2 : 0 ≤ sg ∧ sg ≤ 4294967295) {x : Int} (hx : x = pakI (2, 0, 0, 0, 0, 0, b, pd, sg, 0)) : x % 4 = 2 ∧ x / 4 % 2 = (if b then 1 else 0) ∧ x / 4294967296 = sg ∧ x / 8 % 536870912 = pd := by
  subst hx
  unfold pakI
  simp only [show ¬ ((2 : Int) = 0) by decide, show ¬ ((2 : Int) = 1) by decide, if_false, if_true]
  cases b <;> simp only [Bool.false_eq_true, if_false, if_true] <;> omega
theorem Words.of {xs : List Int} (hl : xs.length ≤ 1000) (h : ∀ x ∈ xs, 0 ≤ x ∧ x < 18446744073709551616) : Words xs := ⟨by omega, fun x hx => by have := h x hx; omega⟩
end Go.Proofs.YtcjhejopcghgnaaDoor.P

set_option linter.unusedVariables false
set_option linter.unusedSimpArgs false
namespace Go.Proofs.YtcjhejopcghgnaaDoor.P
open Go.RowKit Go.Proofs.YtcjhejopcghgnaaDoorW.PrintWords Go.Proofs.YtcjhejopcghgnaaDoorW.PrintLast Go.Proofs.YtcjhejopcghgnaaDoorW.PrintMore
theorem struct_vld {g d p : Int} (hg : 0 ≤ g ∧ g < 20) (hd : 0 ≤ d ∧ d < 20) (hp : 0 ≤ p ∧ p < 20) : vldP (0, g, d, p, 0, 0, false, 0, 0, 0) :=
  .inl ⟨rfl, by simp only; omega, by simp only; omega, hd.1, by simp only; omega, hp.1, by simp only; omega, rfl, rfl, rfl, rfl, rfl, rfl⟩
theorem struct_pak {g d p : Int} (hg : 0 ≤ g ∧ g < 20) (hd : 0 ≤ d ∧ d < 20) (hp : 0 ≤ p ∧ p < 20) : pakI (0, g, d, p, 0, 0, false, 0, 0, 0) = g * 4 + d * 4294967296 + p * 281474976710656 := by
  unfold pakI
  simp only [if_true]
  omega
/-- A struct pointer with enough words behind it, and with one too few. -/
theorem struct_obj {f g d p : Int} (hf : 0 ≤ f ∧ f < 20) (hg : 0 ≤ g ∧ g < 20) (hd : 0 ≤ d ∧ d < 20) (hp : 0 ≤ p ∧ p < 20) (hne : ¬ (d + p = 0 ∧ g = 0)) {seg : List Int} (hx : rd seg f = pakI (0, g, d, p, 0, 0, false, 0, 0, 0)) (hlen : f + 1 ≤ seg.length) :
    obj [seg] 0 f = if f + 1 + g + (d + p) ≤ seg.length then (1, 0, f + 1 + g, d, p, 0, 0, d + p, 0) else bad 2 := by
  have q0 : rd_L5 [seg] 0 = seg := rfl
  have v0 : wd [seg] 0 f = pakI (0, g, d, p, 0, 0, false, 0, 0, 0) := by unfold wd; rw [q0]; exact hx
  have hk := struct_pak hg hd hp
  have e0 : fol [seg] 0 f = (pakI (0, g, d, p, 0, 0, false, 0, 0, 0), 0, f + 1, 0) := by
    unfold fol
    have b0 : inB [seg] 0 f 1 := by
      unfold inB
      rw [q0]
      simp
      omega
    rw [if_pos b0, v0, if_neg (by omega)]
  unfold obj
  rw [e0]
  simp only [if_true]
  rw [if_neg (by omega), dec_pak (struct_vld hg hd hp)]
  unfold objP
  simp only [if_true]
  unfold objS
  by_cases hb : f + 1 + g + (d + p) ≤ seg.length
  · rw [if_pos hb, if_pos]
    unfold inB
    rw [q0]
    simp
    omega
  · rw [if_neg hb, if_neg]
    unfold inB
    rw [q0]
    simp
    omega
theorem word8s_has {g d p : Int} (hg : 0 ≤ g ∧ g < 20) (hd : 0 ≤ d ∧ d < 20) (hp : 0 ≤ p ∧ p < 20) : Has (fun k => capnplaw08_word.f k 0 g d p 0 0 false 0 0 0) (pakI (0, g, d, p, 0, 0, false, 0, 0, 0)) := by
  refine ⟨1, fun k hk => ?_⟩
  show capnplaw08_word.f k 0 g d p 0 0 false 0 0 0 = _
  unfold capnplaw08_word.f
  rw [rEncode_eq 0 g d p 0 0 false 0 0 0 (by omega) (by omega) k (by omega), if_pos (struct_vld hg hd hp)]
  rfl
theorem one_seg {seg : List Int} (h : Words seg) : Segs [seg] := ⟨by simp, fun s hs => by rw [List.mem_singleton.1 hs]; exact h⟩
theorem one_sm {seg : List Int} (h : seg.length ≤ 1000) : Sm [seg] := by
  intro j
  unfold rd_L5
  rw [List.getD_eq_getElem?_getD]
  by_cases hj : j.toNat < [seg].length
  · rw [List.getElem?_eq_getElem hj]
    obtain hz : j.toNat = 0 := by simpa using hj
    simp only [hz, Option.getD_some, List.getElem_cons_zero]
    omega
  · rw [List.getElem?_eq_none (by omega)]
    simp
end Go.Proofs.YtcjhejopcghgnaaDoor.P

set_option linter.unusedVariables false
namespace Go.Proofs.YtcjhejopcghgnaaDoor.P
open Go.RowKit Go.Proofs.YtcjhejopcghgnaaDoorW.PrintWords Go.Proofs.YtcjhejopcghgnaaDoorW.PrintLast Go.Proofs.YtcjhejopcghgnaaDoorW.PrintMore
/-- Eight stores into another block. -/
theorem V_put8 {α : Type} {d : Kd α} {e base g : Nat} {W w1 : World} {ok : Nat → Prop} {v v0 v1 v2 v3 v4 v5 v6 v7 : Value} {xs : List α} (h : Kd.V d e W base ok v xs) (hk : ∀ k, ok k → k ≠ g) (hw : w1 = ((((((((W.setCell ⟨g, 0, none⟩ v0).setCell ⟨g, 1, none⟩ v1).setCell ⟨g, 2, none⟩ v2).setCell ⟨g, 3, none⟩ v3).setCell ⟨g, 4, none⟩ v4).setCell ⟨g, 5, none⟩ v5).setCell ⟨g, 6, none⟩ v6).setCell ⟨g, 7, none⟩ v7)) : Kd.V d e w1 base ok v xs := by
  subst hw
  exact Kd.V_far (Kd.V_far (Kd.V_far (Kd.V_far (Kd.V_far (Kd.V_far (Kd.V_far (Kd.V_far h hk _) hk _) hk _) hk _) hk _) hk _) hk _) hk _
end Go.Proofs.YtcjhejopcghgnaaDoor.P

namespace Go.Proofs.YtcjhejopcghgnaaDoor.P
open Go.RowKit Go.Proofs.YtcjhejopcghgnaaDoorW.PrintWords Go.Proofs.YtcjhejopcghgnaaDoorW.PrintLast Go.Proofs.YtcjhejopcghgnaaDoorW.PrintMore
attribute [local go_sem] max2_int min2_int max_two min_two max_three min_three max_four min_four   -- for this text's walks alone
set_option linter.unusedVariables false
set_option linter.unusedSimpArgs false

variable {gb : Bool}
theorem eqA46 (d : Nat) (w : World) (x0 y0 : Int) (x1 y1 : Int) (x2 y2 : Int) (x3 y3 : Int) (x4 y4 : Int) (x5 y5 : Int) (x6 y6 : Int) (x7 y7 : Int) :
    (Op.equalIn (d + 2) 46 (.agg #[.int .i64 x0, .int .i64 x1, .int .i64 x2, .int .i64 x3, .int .i64 x4, .int .i64 x5, .int .i64 x6, .int .i64 x7]) (.agg #[.int .i64 y0, .int .i64 y1, .int .i64 y2, .int .i64 y3, .int .i64 y4, .int .i64 y5, .int .i64 y6, .int .i64 y7])).run Tryd.prog w = .ok (x0 == y0 && (x1 == y1 && (x2 == y2 && (x3 == y3 && (x4 == y4 && (x5 == y5 && (x6 == y6 && (x7 == y7)))))))) w := by
  refine eqA_of Tryd.underlying46 (by kernel_rfl) ?_
  refine eqf_cons (by rfl) (by go_simp; rfl) (by go_simp; rfl) (by go_simp) ?_
  refine eqf_cons (by rfl) (by go_simp; rfl) (by go_simp; rfl) (by go_simp) ?_
  refine eqf_cons (by rfl) (by go_simp; rfl) (by go_simp; rfl) (by go_simp) ?_
  refine eqf_cons (by rfl) (by go_simp; rfl) (by go_simp; rfl) (by go_simp) ?_
  refine eqf_cons (by rfl) (by go_simp; rfl) (by go_simp; rfl) (by go_simp) ?_
  refine eqf_cons (by rfl) (by go_simp; rfl) (by go_simp; rfl) (by go_simp) ?_
  refine eqf_cons (by rfl) (by go_simp; rfl) (by go_simp; rfl) (by go_simp) ?_
  exact eqf_last (by rfl) (by go_simp; rfl) (by go_simp; rfl) (by go_simp)
end Go.Proofs.YtcjhejopcghgnaaDoor.P

namespace Go.Proofs.YtcjhejopcghgnaaDoor.P
open Go.RowKit Go.Proofs.YtcjhejopcghgnaaDoorW.PrintWords Go.Proofs.YtcjhejopcghgnaaDoorW.PrintLast Go.Proofs.YtcjhejopcghgnaaDoorW.PrintMore
attribute [local go_sem] max2_int min2_int max_two min_two max_three min_three max_four min_four   -- for this text's walks alone
set_option linter.unusedVariables false
set_option linter.unusedSimpArgs false

variable {gb : Bool}
attribute [local go_sem high] eqA46
/-! ### capnplaw08_ResolveStructs: function 9 -/
def capnplaw08_ResolveStructs.j0 : Nat → Int → Int → Int → Int → Int → List Int → Bool → Option (Bool)
  | 0, _, _, _, _, _, _, _ => none
  | k + 1, x2, x3, x9, x10, x11, x12, x56 => if x56 = true then (some true) else ((resolve_Object.f k (([x12] : List (List Int))) 0 x9).bind fun bt569 => (if 0 ≤ (wrap64 ((x12.length : Int) - 1)) then (if (wrap64 ((x12.length : Int) - 1)) ≤ (x12.length : Int) then ((resolve_Object.f k (([(x12.take ((wrap64 ((x12.length : Int) - 1)) : Int).toNat)] : List (List Int))) 0 x9).bind fun bt587 => (if bt569.2.2.2.2.2.2.2.2 = 0 then (if (bt569.1 == 1 && (bt569.2.1 == 0 && (bt569.2.2.1 == (wrap64 ((wrap64 (x9 + 1)) + x10)) && (bt569.2.2.2.1 == (wrap64 (Int.tmod x2 20)) && (bt569.2.2.2.2.1 == (wrap64 (Int.tmod x3 20)) && (bt569.2.2.2.2.2.1 == 0 && (bt569.2.2.2.2.2.2.1 == 0 && (bt569.2.2.2.2.2.2.2.1 == x11)))))))) = true then (some (bt587.2.2.2.2.2.2.2.2 == 2)) else (some false)) else (some false))) else (none)) else (none)))
def capnplaw08_ResolveStructs.f (k : Nat) (a0 a1 a2 a3 : Int) : Option (Bool) := (capnplaw08_awake.f).bind fun t560 => (if t560 = true then (if 0 ≤ (wrap64 ((wrap64 ((wrap64 ((wrap64 (Int.tmod a0 20)) + 1)) + (wrap64 (Int.tmod a1 20)))) + (wrap64 ((wrap64 (Int.tmod a2 20)) + (wrap64 (Int.tmod a3 20)))))) then (if (wrap64 ((wrap64 ((wrap64 ((wrap64 (Int.tmod a0 20)) + 1)) + (wrap64 (Int.tmod a1 20)))) + (wrap64 ((wrap64 (Int.tmod a2 20)) + (wrap64 (Int.tmod a3 20))))) : Int).toNat ≤ 35184372088832 then ((some (List.replicate (wrap64 ((wrap64 ((wrap64 ((wrap64 (Int.tmod a0 20)) + 1)) + (wrap64 (Int.tmod a1 20)))) + (wrap64 ((wrap64 (Int.tmod a2 20)) + (wrap64 (Int.tmod a3 20))))) : Int).toNat 0 : List Int)).bind fun y561 => ((capnplaw08_word.f k 0 (wrap64 (Int.tmod a1 20)) (wrap64 (Int.tmod a2 20)) (wrap64 (Int.tmod a3 20)) 0 0 false 0 0 0).bind fun t564 => (if 0 ≤ (wrap64 (Int.tmod a0 20)) then (if (wrap64 (Int.tmod a0 20)) < (y561.length : Int) then ((some (y561.set ((wrap64 (Int.tmod a0 20)) : Int).toNat t564 : List Int)).bind fun y565 => (if (wrap64 ((wrap64 (Int.tmod a2 20)) + (wrap64 (Int.tmod a3 20)))) = 0 then (capnplaw08_ResolveStructs.j0 k a2 a3 (wrap64 (Int.tmod a0 20)) (wrap64 (Int.tmod a1 20)) (wrap64 ((wrap64 (Int.tmod a2 20)) + (wrap64 (Int.tmod a3 20)))) y565 ((wrap64 (Int.tmod a1 20)) == 0)) else (capnplaw08_ResolveStructs.j0 k a2 a3 (wrap64 (Int.tmod a0 20)) (wrap64 (Int.tmod a1 20)) (wrap64 ((wrap64 (Int.tmod a2 20)) + (wrap64 (Int.tmod a3 20)))) y565 false))) else (none)) else (none)))) else (none)) else (none)) else (some false))
theorem capnplaw08_ResolveStructs.mono_l : ∀ k, (∀ y0 y1 y2 y3 y4 y5 y6, LeO (capnplaw08_ResolveStructs.j0 k y0 y1 y2 y3 y4 y5 y6) (capnplaw08_ResolveStructs.j0 (k + 1) y0 y1 y2 y3 y4 y5 y6))
  | 0 => fun _ _ _ _ _ _ _ r h => by simp [capnplaw08_ResolveStructs.j0] at h
  | k + 1 => by
    · intro y0 y1 y2 y3 y4 y5 y6
      unfold capnplaw08_ResolveStructs.j0
      repeat' first
      | (with_reducible apply resolve_Object.mono)
      | (with_reducible exact LeO.refl _)
      | (with_reducible refine LeO.ite ?_ ?_)
      | (with_reducible refine LeO.bind ?_ (fun _ => ?_))
theorem capnplaw08_ResolveStructs.mono : ∀ a0 a1 a2 a3 k, LeO (capnplaw08_ResolveStructs.f k a0 a1 a2 a3) (capnplaw08_ResolveStructs.f (k + 1) a0 a1 a2 a3) := by
  intro a0 a1 a2 a3 k
  have ih0 := capnplaw08_ResolveStructs.mono_l k
  unfold capnplaw08_ResolveStructs.f
  repeat' first
      | (with_reducible apply ih0)
      | (with_reducible apply capnplaw08_word.mono)
      | (with_reducible exact LeO.refl _)
      | (with_reducible refine LeO.ite ?_ ?_)
      | (with_reducible refine LeO.bind ?_ (fun _ => ?_))
set_option maxHeartbeats 8000000 in
set_option maxRecDepth 100000 in
theorem capnplaw08_ResolveStructs.calls (k : Nat) (a0 a1 a2 a3 : Int) (r : Bool) (w : World) (hG : Glob true w) (h : capnplaw08_ResolveStructs.f k a0 a1 a2 a3 = some r) :
    Calls Tryd.prog 9 #[.int .u8 a0, .int .u8 a1, .int .u8 a2, .int .u8 a3] w fun e w' => e = .returned (.bool r) ∧ Below w.heap.size w w' := by
  have HG := Aside0.mk hG
  clear hG
  have HB := Aside0.mk (Below.refl w.heap.size w)
  have H := h
  unfold capnplaw08_ResolveStructs.f at H
  clear h
  replace H := Option.bind_eq_some_iff.mp H
  obtain ⟨t560, A50, H⟩ := H
  have A5 := Aside0.mk A50
  clear A50
  by_cases c6 : t560 = true
  · subst c6
    have H1 : (if 0 ≤ (wrap64 ((wrap64 ((wrap64 ((wrap64 (Int.tmod a0 20)) + 1)) + (wrap64 (Int.tmod a1 20)))) + (wrap64 ((wrap64 (Int.tmod a2 20)) + (wrap64 (Int.tmod a3 20)))))) then (if (wrap64 ((wrap64 ((wrap64 ((wrap64 (Int.tmod a0 20)) + 1)) + (wrap64 (Int.tmod a1 20)))) + (wrap64 ((wrap64 (Int.tmod a2 20)) + (wrap64 (Int.tmod a3 20))))) : Int).toNat ≤ 35184372088832 then ((some (List.replicate (wrap64 ((wrap64 ((wrap64 ((wrap64 (Int.tmod a0 20)) + 1)) + (wrap64 (Int.tmod a1 20)))) + (wrap64 ((wrap64 (Int.tmod a2 20)) + (wrap64 (Int.tmod a3 20))))) : Int).toNat 0 : List Int)).bind fun y561 => ((capnplaw08_word.f k 0 (wrap64 (Int.tmod a1 20)) (wrap64 (Int.tmod a2 20)) (wrap64 (Int.tmod a3 20)) 0 0 false 0 0 0).bind fun t564 => (if 0 ≤ (wrap64 (Int.tmod a0 20)) then (if (wrap64 (Int.tmod a0 20)) < (y561.length : Int) then ((some (y561.set ((wrap64 (Int.tmod a0 20)) : Int).toNat t564 : List Int)).bind fun y565 => (if (wrap64 ((wrap64 (Int.tmod a2 20)) + (wrap64 (Int.tmod a3 20)))) = 0 then (capnplaw08_ResolveStructs.j0 k a2 a3 (wrap64 (Int.tmod a0 20)) (wrap64 (Int.tmod a1 20)) (wrap64 ((wrap64 (Int.tmod a2 20)) + (wrap64 (Int.tmod a3 20)))) y565 ((wrap64 (Int.tmod a1 20)) == 0)) else (capnplaw08_ResolveStructs.j0 k a2 a3 (wrap64 (Int.tmod a0 20)) (wrap64 (Int.tmod a1 20)) (wrap64 ((wrap64 (Int.tmod a2 20)) + (wrap64 (Int.tmod a3 20)))) y565 false))) else (none)) else (none)))) else (none)) else (none)) = some r := by rw [if_pos rfl] at H; exact H
    clear H
    have H := H1
    clear H1
    obtain ⟨ji7, hji7⟩ : ∃ j_ : Int, (wrap64 ((wrap64 ((wrap64 ((wrap64 (Int.tmod a0 20)) + 1)) + (wrap64 (Int.tmod a1 20)))) + (wrap64 ((wrap64 (Int.tmod a2 20)) + (wrap64 (Int.tmod a3 20)))))) = j_ := ⟨_, rfl⟩
    replace H : (if 0 ≤ (ji7) then (if (ji7 : Int).toNat ≤ 35184372088832 then ((some (List.replicate (ji7 : Int).toNat 0 : List Int)).bind fun y561 => ((capnplaw08_word.f k 0 (wrap64 (Int.tmod a1 20)) (wrap64 (Int.tmod a2 20)) (wrap64 (Int.tmod a3 20)) 0 0 false 0 0 0).bind fun t564 => (if 0 ≤ (wrap64 (Int.tmod a0 20)) then (if (wrap64 (Int.tmod a0 20)) < (y561.length : Int) then ((some (y561.set ((wrap64 (Int.tmod a0 20)) : Int).toNat t564 : List Int)).bind fun y565 => (if (wrap64 ((wrap64 (Int.tmod a2 20)) + (wrap64 (Int.tmod a3 20)))) = 0 then (capnplaw08_ResolveStructs.j0 k a2 a3 (wrap64 (Int.tmod a0 20)) (wrap64 (Int.tmod a1 20)) (wrap64 ((wrap64 (Int.tmod a2 20)) + (wrap64 (Int.tmod a3 20)))) y565 ((wrap64 (Int.tmod a1 20)) == 0)) else (capnplaw08_ResolveStructs.j0 k a2 a3 (wrap64 (Int.tmod a0 20)) (wrap64 (Int.tmod a1 20)) (wrap64 ((wrap64 (Int.tmod a2 20)) + (wrap64 (Int.tmod a3 20)))) y565 false))) else (none)) else (none)))) else (none)) else (none)) = some r := by (rw [hji7] at H; exact H)
    (skip)
    have hji7w : (IntKind.i64.wrap ((wrap64 ((wrap64 ((wrap64 (Int.tmod a0 20)) + 1)) + (wrap64 (Int.tmod a1 20)))) + (wrap64 ((wrap64 (Int.tmod a2 20)) + (wrap64 (Int.tmod a3 20)))))) = ji7 := (i64_w _).trans hji7
    by_cases c8 : 0 ≤ (ji7)
    · rw [if_pos c8] at H
      have c8b0 := eq_true c8
      have c8b1 : decide (0 ≤ (ji7)) = true := decide_eq_true c8
      clear c8
      by_cases c9 : (ji7 : Int).toNat ≤ 35184372088832
      · rw [if_pos c9] at H
        have c9b0 := eq_true c9
        have c9b1 : decide ((ji7 : Int).toNat ≤ 35184372088832) = true := decide_eq_true c9
        clear c9
        obtain ⟨y561, hy561⟩ : ∃ y_ : List Int, y_ = (List.replicate (ji7 : Int).toNat 0) := ⟨_, rfl⟩
        replace H : ((capnplaw08_word.f k 0 (wrap64 (Int.tmod a1 20)) (wrap64 (Int.tmod a2 20)) (wrap64 (Int.tmod a3 20)) 0 0 false 0 0 0).bind fun t564 => (if 0 ≤ (wrap64 (Int.tmod a0 20)) then (if (wrap64 (Int.tmod a0 20)) < (y561.length : Int) then ((some (y561.set ((wrap64 (Int.tmod a0 20)) : Int).toNat t564 : List Int)).bind fun y565 => (if (wrap64 ((wrap64 (Int.tmod a2 20)) + (wrap64 (Int.tmod a3 20)))) = 0 then (capnplaw08_ResolveStructs.j0 k a2 a3 (wrap64 (Int.tmod a0 20)) (wrap64 (Int.tmod a1 20)) (wrap64 ((wrap64 (Int.tmod a2 20)) + (wrap64 (Int.tmod a3 20)))) y565 ((wrap64 (Int.tmod a1 20)) == 0)) else (capnplaw08_ResolveStructs.j0 k a2 a3 (wrap64 (Int.tmod a0 20)) (wrap64 (Int.tmod a1 20)) (wrap64 ((wrap64 (Int.tmod a2 20)) + (wrap64 (Int.tmod a3 20)))) y565 false))) else (none)) else (none))) = some r := by (have H2_ := (Option.bind_some _ _).symm.trans H; rw [hy561]; with_reducible exact H2_)
        have Ny561 := Aside0.mk hy561
        clear hy561
        replace H := Option.bind_eq_some_iff.mp H
        obtain ⟨t564, A100, H⟩ := H
        have A10 := Aside0.mk A100
        clear A100
        obtain ⟨ji11, hji11⟩ : ∃ j_ : Int, (wrap64 (Int.tmod a0 20)) = j_ := ⟨_, rfl⟩
        replace H : (if 0 ≤ (ji11) then (if (ji11) < (y561.length : Int) then ((some (y561.set ((ji11) : Int).toNat t564 : List Int)).bind fun y565 => (if (wrap64 ((wrap64 (Int.tmod a2 20)) + (wrap64 (Int.tmod a3 20)))) = 0 then (capnplaw08_ResolveStructs.j0 k a2 a3 ji11 (wrap64 (Int.tmod a1 20)) (wrap64 ((wrap64 (Int.tmod a2 20)) + (wrap64 (Int.tmod a3 20)))) y565 ((wrap64 (Int.tmod a1 20)) == 0)) else (capnplaw08_ResolveStructs.j0 k a2 a3 ji11 (wrap64 (Int.tmod a1 20)) (wrap64 ((wrap64 (Int.tmod a2 20)) + (wrap64 (Int.tmod a3 20)))) y565 false))) else (none)) else (none)) = some r := by (rw [hji11] at H; exact H)
        (skip)
        (skip)
        have hji11w : (IntKind.i64.wrap (Int.tmod a0 20)) = ji11 := (i64_w _).trans hji11
        by_cases c12 : 0 ≤ (ji11)
        · rw [if_pos c12] at H
          have c12b0 : decide (0 ≤ (ji11)) = true := decide_eq_true c12
          clear c12
          by_cases c13 : (ji11) < (y561.length : Int)
          · rw [if_pos c13] at H
            have c13b0 : decide ((ji11) < (y561.length : Int)) = true := decide_eq_true c13
            clear c13
            obtain ⟨y565, hy565⟩ : ∃ y_ : List Int, y_ = (y561.set ((ji11) : Int).toNat t564) := ⟨_, rfl⟩
            replace H : (if (wrap64 ((wrap64 (Int.tmod a2 20)) + (wrap64 (Int.tmod a3 20)))) = 0 then (capnplaw08_ResolveStructs.j0 k a2 a3 ji11 (wrap64 (Int.tmod a1 20)) (wrap64 ((wrap64 (Int.tmod a2 20)) + (wrap64 (Int.tmod a3 20)))) y565 ((wrap64 (Int.tmod a1 20)) == 0)) else (capnplaw08_ResolveStructs.j0 k a2 a3 ji11 (wrap64 (Int.tmod a1 20)) (wrap64 ((wrap64 (Int.tmod a2 20)) + (wrap64 (Int.tmod a3 20)))) y565 false)) = some r := by (have H2_ := (Option.bind_some _ _).symm.trans H; rw [hy565]; with_reducible exact H2_)
            have Ny565 := Aside0.mk hy565
            clear hy565
            have HC15 := Aside0.mk H
            clear H
            go_enter Tryd.func9, Tryd.ntmps9
            go_upto_region 8 with (first | ((with_reducible refine gate_callee (f := 23) rfl ?_); refine goesL_ (some 17) rfl rfl Tryd.func23 (by kernel_rfl) rfl #[] rfl (by (try simp only [List.map_toArray, List.map_cons, List.map_nil]); done) ?_; (with_reducible refine (capnplaw08_awake.calls  true _ ?side1 A5.out).mono ?_); (case side1 => exact Glob.below HG.out HB.out); rintro e w16 ⟨rfl, hb⟩; refine ⟨_, rfl, ?_⟩; replace HB := Aside0.mk (below_step HB.out hb); (try clear hb)) | ((with_reducible refine gate_dst (N := 38) rfl ?_); refine Kd.R_make (Kd.int .u64) _ 23 rfl (N := 38) rfl 40 _ _ rfl ji7 (by (subst hji7; subst hji11; rfl)) (by (subst hji7; subst hji11; rfl)) Tryd.underlying40 (.int .u64 0) 8 info23 rfl (by decide) (by omega) 0 (ok := fun _ => True) (okp := fun _ => True) rfl (fun _ hk => hk) trivial (of_decide_eq_true (by (with_reducible assumption))) (Nat.le_trans (Nat.mul_le_mul_right _ (of_decide_eq_true (by (with_reducible assumption)) : ji7.toNat ≤ 35184372088832)) (by omega)) (Below.refl _ _) (Nat.le_refl _) ?_; intro v562 w17 ho18 hb hg_ hnew_; clear hg_ hnew_; ((rw [← Ny561.out] at ho18)); replace HO563 := Aside0.mk (Kd.R_lower ho18 (below_size HB.out)); replace HB := Aside0.mk (below_step HB.out hb); clear hb ho18) | ((with_reducible refine gate_callee (f := 31) rfl ?_); refine goesL_ (some 49) rfl rfl Tryd.func31 (by kernel_rfl) rfl #[.agg #[.int .i64 0, .int .i64 (wrap64 (Int.tmod a1 20)), .int .i64 (wrap64 (Int.tmod a2 20)), .int .i64 (wrap64 (Int.tmod a3 20)), .int .i64 0, .int .i64 0, .bool false, .int .i64 0, .int .u32 0, .int .u32 0]] rfl (by (try simp only [List.map_toArray, List.map_cons, List.map_nil]); rfl) ?_; (with_reducible refine (capnplaw08_word.calls k 0 (wrap64 (Int.tmod a1 20)) (wrap64 (Int.tmod a2 20)) (wrap64 (Int.tmod a3 20)) 0 0 false 0 0 0 t564 _ A10.out).mono ?_); rintro e w19 ⟨rfl, hb⟩; refine ⟨_, rfl, ?_⟩; replace HO563 := Aside0.mk (Kd.R_below HO563.out hb); replace HB := Aside0.mk (below_step HB.out hb); (try clear hb); have p14 : 0 ≤ ((ji11) : Int) := of_decide_eq_true (by (with_reducible assumption)); have q14 : ((ji11) : Int) < ((y561.length : Int) : Int) := of_decide_eq_true (by (with_reducible assumption)); obtain ⟨go14, co14, eo14, gb14, gl14, cl14, HG14⟩ := Kd.R_form HO563.out (by omega); (cases eo14); have GB14 := Aside0.mk gb14; clear gb14 gl14 HG14; obtain ⟨hx14_0, hf14_0⟩ := Kd.R_celln 0 HO563.out ((ji11) : Int) p14 q14; replace p14 := eq_true p14; replace q14 := eq_true q14; obtain ⟨hy20_, hz20_⟩ := Kd.R_celln 0 HO563.out ((ji11) : Int) (of_decide_eq_true (by (with_reducible assumption))) (of_decide_eq_true (by (with_reducible assumption))); have HP20 := Kd.R_putg HO563.out ((ji11) : Int) t564) | ((with_reducible refine gate_store (t := 23) (p := 50) rfl ?_); refine store_event (t := 23) (p := 50) (v := ?vo_w21) (w1 := (w19.setCell ⟨go14, ((ji11) : Int).toNat, none⟩ (.int .u64 t564))) ?hg ?ho ?hn ?hr ?_; (case ho => rfl); (case hg => rfl); (case hn => rfl); (case hr => (go_simp; done)); intro w21 hw; have hp_ : Kd.R (Kd.int .u64) 23 w21 w.heap.size (fun _ => True) (.slice (some ⟨go14, 0, none⟩) y561.length co14) y565 := (by rw [hw, Ny565.out]; exact HP20.1); clear HP20; replace HO563 := Aside0.mk (hp_); replace HB := Aside0.mk ((by rw [hw]; exact below_set (HB.out) GB14.out : Below w.heap.size w w21)); (try clear hg); (try clear hw); (try clear hp_)))
            (skip)
            go_cut [56] (fun v56 wc => ∃ (kq : Nat) (x56_14 : Bool), v56 = .bool x56_14 ∧ Aside0 (capnplaw08_ResolveStructs.j0 kq a2 a3 ji11 (wrap64 (Int.tmod a1 20)) (wrap64 ((wrap64 (Int.tmod a2 20)) + (wrap64 (Int.tmod a3 20)))) y565 x56_14 = some r) ∧ Aside0 (kq ≤ k) ∧ Aside0 (Kd.R (Kd.int .u64) 23 wc w.heap.size (fun _ => True) (.slice (some ⟨go14, 0, none⟩) y561.length co14) y565) ∧ Aside0 (Below w.heap.size w wc))
            case first =>
              have H := HC15.out
              clear HC15
              by_cases c22 : (wrap64 ((wrap64 (Int.tmod a2 20)) + (wrap64 (Int.tmod a3 20)))) = 0
              · rw [if_pos c22] at H
                have c22b0 : ((wrap64 ((wrap64 (Int.tmod a2 20)) + (wrap64 (Int.tmod a3 20)))) == 0) = true := beq_iff_eq.mpr c22
                clear c22
                (skip)
                have H' := Aside0.mk H
                clear H
                go_wp2
                go_meet
                case rel => exact ⟨_, (((wrap64 (Int.tmod a1 20)) == 0)), (by rfl), H', ⟨by omega⟩, ⟨by exact HO563.out⟩, ⟨by repeat ((with_reducible exact HB.out))⟩⟩
              · rw [if_neg c22] at H
                have c22b0 : ((wrap64 ((wrap64 (Int.tmod a2 20)) + (wrap64 (Int.tmod a3 20)))) == 0) = false := beq_eq_false_iff_ne.mpr c22
                (skip)
                have H' := Aside0.mk H
                clear H
                go_wp2
                go_meet
                case rel => exact ⟨_, (false), (by rfl), H', ⟨by omega⟩, ⟨by exact HO563.out⟩, ⟨by repeat ((with_reducible exact HB.out))⟩⟩
            case rest =>
              clear HC15
              skip
              skip
              skip
              skip
              skip
              skip
              skip
              skip
              skip
              skip
              try clear c8b0
              try clear c8b1
              skip
              try clear c9b0
              try clear c9b1
              skip
              try clear c12b0
              skip
              try clear c13b0
              try clear p14
              try clear q14
              skip
              skip
              skip
              skip
              skip
              try clear hx14_0
              skip
              skip
              obtain ⟨kq, x56_14, rfl, HA, HJ14, HO_12, HB⟩ := hcut
              have hl12_14 := (Kd.R_reads' HO_12.out).1
              rw [hl12_14] at HO_12
              (try simp only [hl12_14])
              cases kq with
              | zero => exact absurd HA.out (by simp [capnplaw08_ResolveStructs.j0])
              | succ kj14 =>
                have H := HA.out
                clear HA
                simp only [capnplaw08_ResolveStructs.j0] at H
                by_cases c23 : x56_14 = true
                · subst c23
                  have H1 : (some true) = some r := by rw [if_pos rfl] at H; exact H
                  clear H
                  have H := H1
                  clear H1
                  obtain rfl := Option.some.inj H
                  go_wp2
                  go_ret
                  exact ⟨by rfl, by repeat ((with_reducible exact HB.out))⟩
                · replace c23 := Bool.eq_false_iff.mpr c23
                  subst c23
                  have H1 : ((resolve_Object.f kj14 (([y565] : List (List Int))) 0 ji11).bind fun bt569 => (if 0 ≤ (wrap64 ((y565.length : Int) - 1)) then (if (wrap64 ((y565.length : Int) - 1)) ≤ (y565.length : Int) then ((resolve_Object.f kj14 (([(y565.take ((wrap64 ((y565.length : Int) - 1)) : Int).toNat)] : List (List Int))) 0 ji11).bind fun bt587 => (if bt569.2.2.2.2.2.2.2.2 = 0 then (if (bt569.1 == 1 && (bt569.2.1 == 0 && (bt569.2.2.1 == (wrap64 ((wrap64 (ji11 + 1)) + (wrap64 (Int.tmod a1 20)))) && (bt569.2.2.2.1 == (wrap64 (Int.tmod a2 20)) && (bt569.2.2.2.2.1 == (wrap64 (Int.tmod a3 20)) && (bt569.2.2.2.2.2.1 == 0 && (bt569.2.2.2.2.2.2.1 == 0 && (bt569.2.2.2.2.2.2.2.1 == (wrap64 ((wrap64 (Int.tmod a2 20)) + (wrap64 (Int.tmod a3 20)))))))))))) = true then (some (bt587.2.2.2.2.2.2.2.2 == 2)) else (some false)) else (some false))) else (none)) else (none))) = some r := by rw [if_neg (show ¬ (false = true) by decide)] at H; exact H
                  clear H
                  have H := H1
                  clear H1
                  obtain ⟨y566, hy566⟩ : ∃ y_ : List (List Int), y_ = (([y565] : List (List Int))) := ⟨_, rfl⟩
                  replace H : ((resolve_Object.f kj14 y566 0 ji11).bind fun bt569 => (if 0 ≤ (wrap64 ((y565.length : Int) - 1)) then (if (wrap64 ((y565.length : Int) - 1)) ≤ (y565.length : Int) then ((resolve_Object.f kj14 (([(y565.take ((wrap64 ((y565.length : Int) - 1)) : Int).toNat)] : List (List Int))) 0 ji11).bind fun bt587 => (if bt569.2.2.2.2.2.2.2.2 = 0 then (if (bt569.1 == 1 && (bt569.2.1 == 0 && (bt569.2.2.1 == (wrap64 ((wrap64 (ji11 + 1)) + (wrap64 (Int.tmod a1 20)))) && (bt569.2.2.2.1 == (wrap64 (Int.tmod a2 20)) && (bt569.2.2.2.2.1 == (wrap64 (Int.tmod a3 20)) && (bt569.2.2.2.2.2.1 == 0 && (bt569.2.2.2.2.2.2.1 == 0 && (bt569.2.2.2.2.2.2.2.1 == (wrap64 ((wrap64 (Int.tmod a2 20)) + (wrap64 (Int.tmod a3 20)))))))))))) = true then (some (bt587.2.2.2.2.2.2.2.2 == 2)) else (some false)) else (some false))) else (none)) else (none))) = some r := by (rw [hy566]; with_reducible exact H)
                  have Ny566 := Aside0.mk hy566
                  clear hy566
                  replace H := Option.bind_eq_some_iff.mp H
                  obtain ⟨⟨t569, t570, t571, t572, t573, t574, t575, t576, t577⟩, A240, H⟩ := H
                  dsimp only at H
                  have A24 := Aside0.mk A240
                  clear A240
                  obtain ⟨ji25, hji25⟩ : ∃ j_ : Int, (wrap64 ((y565.length : Int) - 1)) = j_ := ⟨_, rfl⟩
                  replace H : (if 0 ≤ (ji25) then (if (ji25) ≤ (y565.length : Int) then ((resolve_Object.f kj14 (([(y565.take ((ji25) : Int).toNat)] : List (List Int))) 0 ji11).bind fun bt587 => (if t577 = 0 then (if (t569 == 1 && (t570 == 0 && (t571 == (wrap64 ((wrap64 (ji11 + 1)) + (wrap64 (Int.tmod a1 20)))) && (t572 == (wrap64 (Int.tmod a2 20)) && (t573 == (wrap64 (Int.tmod a3 20)) && (t574 == 0 && (t575 == 0 && (t576 == (wrap64 ((wrap64 (Int.tmod a2 20)) + (wrap64 (Int.tmod a3 20)))))))))))) = true then (some (bt587.2.2.2.2.2.2.2.2 == 2)) else (some false)) else (some false))) else (none)) else (none)) = some r := by (rw [hji25] at H; exact H)
                  (skip)
                  have hji25w : (IntKind.i64.wrap ((y565.length : Int) - 1)) = ji25 := (i64_w _).trans hji25
                  by_cases c26 : 0 ≤ (ji25)
                  · rw [if_pos c26] at H
                    have c26b1 : decide (0 ≤ (ji25)) = true := decide_eq_true c26
                    clear c26
                    by_cases c27 : (ji25) ≤ (y565.length : Int)
                    · rw [if_pos c27] at H
                      have c27b1 : decide ((ji25) ≤ (y565.length : Int)) = true := decide_eq_true c27
                      clear c27
                      obtain ⟨y579, hy579⟩ : ∃ y_ : List Int, y_ = (y565.take ((ji25) : Int).toNat) := ⟨_, rfl⟩
                      replace H : ((resolve_Object.f kj14 (([y579] : List (List Int))) 0 ji11).bind fun bt587 => (if t577 = 0 then (if (t569 == 1 && (t570 == 0 && (t571 == (wrap64 ((wrap64 (ji11 + 1)) + (wrap64 (Int.tmod a1 20)))) && (t572 == (wrap64 (Int.tmod a2 20)) && (t573 == (wrap64 (Int.tmod a3 20)) && (t574 == 0 && (t575 == 0 && (t576 == (wrap64 ((wrap64 (Int.tmod a2 20)) + (wrap64 (Int.tmod a3 20)))))))))))) = true then (some (bt587.2.2.2.2.2.2.2.2 == 2)) else (some false)) else (some false))) = some r := by (rw [hy579]; with_reducible exact H)
                      have Ny579 := Aside0.mk hy579
                      clear hy579
                      obtain ⟨y584, hy584⟩ : ∃ y_ : List (List Int), y_ = (([y579] : List (List Int))) := ⟨_, rfl⟩
                      replace H : ((resolve_Object.f kj14 y584 0 ji11).bind fun bt587 => (if t577 = 0 then (if (t569 == 1 && (t570 == 0 && (t571 == (wrap64 ((wrap64 (ji11 + 1)) + (wrap64 (Int.tmod a1 20)))) && (t572 == (wrap64 (Int.tmod a2 20)) && (t573 == (wrap64 (Int.tmod a3 20)) && (t574 == 0 && (t575 == 0 && (t576 == (wrap64 ((wrap64 (Int.tmod a2 20)) + (wrap64 (Int.tmod a3 20)))))))))))) = true then (some (bt587.2.2.2.2.2.2.2.2 == 2)) else (some false)) else (some false))) = some r := by (rw [hy584]; with_reducible exact H)
                      have Ny584 := Aside0.mk hy584
                      clear hy584
                      replace H := Option.bind_eq_some_iff.mp H
                      obtain ⟨⟨t587, t588, t589, t590, t591, t592, t593, t594, t595⟩, A280, H⟩ := H
                      dsimp only at H
                      have A28 := Aside0.mk A280
                      clear A280
                      by_cases c29 : t577 = 0
                      · rw [if_pos c29] at H
                        have c29b0 : (t577 == 0) = true := beq_iff_eq.mpr c29
                        clear c29
                        by_cases c30 : (t569 == 1 && (t570 == 0 && (t571 == (wrap64 ((wrap64 (ji11 + 1)) + (wrap64 (Int.tmod a1 20)))) && (t572 == (wrap64 (Int.tmod a2 20)) && (t573 == (wrap64 (Int.tmod a3 20)) && (t574 == 0 && (t575 == 0 && (t576 == (wrap64 ((wrap64 (Int.tmod a2 20)) + (wrap64 (Int.tmod a3 20)))))))))))) = true
                        · rw [if_pos c30] at H
                          have c30b0 : (t569 == 1 && (t570 == 0 && (t571 == (wrap64 ((wrap64 (ji11 + 1)) + (wrap64 (Int.tmod a1 20)))) && (t572 == (wrap64 (Int.tmod a2 20)) && (t573 == (wrap64 (Int.tmod a3 20)) && (t574 == 0 && (t575 == 0 && (t576 == (wrap64 ((wrap64 (Int.tmod a2 20)) + (wrap64 (Int.tmod a3 20)))))))))))) = true := c30
                          (try (skip))
                          (try (skip))
                          clear c30
                          obtain rfl := Option.some.inj H
                          go_wp2_with (first | ((with_reducible refine gate_dst (N := 59) rfl ?_); refine Kd.N_lit (Kd.slice 23 (Kd.int .u64)) _ 40 ?hg (N' := 59) ?hd (xs := ([y565] : List (List Int))) (inner := [.slice (some ⟨go14, 0, none⟩) y565.length co14]) (ok := (fun _ => True)) (okp := (fun _ => True)) ?hr ?hp (fun _ hk => hk) ((show ∀ k_, wc.heap.size ≤ k_ → (fun _ => True) k_ from fun k_ hk => trivial) _ (Nat.le_refl _)) (Below.refl _ _) (Nat.le_refl _) (by simp) ?_; (case hd => rfl); (case hg => rfl); (case hr => (go_simp; done)); (case hp => exact (Reps.one (show Kd.FK (Kd.slice 23 (Kd.int .u64)) _ _ y565 [.slice (some ⟨go14, 0, none⟩) y565.length co14] from (Kd.FK_slice_mk (Kd.R_reads' (Kd.R_mono (ok' := (fun _ => True)) (HO_12.out) (fun k_ hk => trivial))).2.1 (Kd.R_F (Kd.R_mono (ok' := (fun _ => True)) (HO_12.out) (fun k_ hk => trivial))))) (Reps.none _ _))); intro v567 w31 ho32 hb hg_ hnew_; clear hg_ hnew_; ((rw [← Ny566.out] at ho32)); have n0_ := Aside0.mk (Kd.N_lower ho32 (below_size HB.out)); have n1_ := Aside0.mk (below_step HB.out hb); have nS_ := Aside0.mk (Kd.V_elder' (Kd.R_V (base' := w.heap.size) HO_12.out) (Kd.N_base ho32) hb); clear HB; clear HO_12; have HO568 := n0_; have HB := n1_; have HS_ := nS_; (try clear n0_; try clear n1_; try clear nS_); clear hb ho32; obtain ⟨Ao33, co33, eo33⟩ := Kd.N_slice HO568.out; subst eo33) | ((with_reducible refine gate_callee (f := 24) rfl ?_); refine goesL_ (some 61) rfl rfl Tryd.func24 (by kernel_rfl) rfl #[.slice Ao33 y566.length co33, .int .i64 0, .int .i64 ji11] rfl (by (try simp only [List.map_toArray, List.map_cons, List.map_nil]); rfl) ?_; (with_reducible refine (resolve_Object.calls kj14 _ _ y566 0 ji11 t569 t570 t571 t572 t573 t574 t575 t576 t577 _ ?side1 ?side2 ?side3 A24.out).mono ?_); (case side1 => exact Glob.below HG.out HB.out); (case side2 => repeat ((exact (Kd.N_reads' HO568.out).2.2))); (case side3 => exact (Kd.N_reads' HO568.out).2.1); rintro e w34 ⟨rfl, hb⟩; refine ⟨_, rfl, ?_⟩; have nS_ := Aside0.mk (Kd.V_below HS_.out hb); clear HS_; have HS_ := nS_; clear nS_; replace HO568 := Aside0.mk (Kd.N_below HO568.out hb); replace HB := Aside0.mk (below_step HB.out hb); (try clear hb)) | ((with_reducible refine gate_dst (N := 13) rfl ?_); refine box_event ?hg (N := 13) ?hd (cs := #[.int .i64 0, .int .i64 0, .int .i64 0, .int .i64 0, .int .i64 0, .int .i64 0, .int .i64 0, .int .i64 0]) (t := 46) ?hr ?_; (case hd => rfl); (case hg => rfl); (case hr => (go_simp; done)); intro gb578 hg w35 hbox hb; have nS_ := Aside0.mk (Kd.V_below (Kd.V_elderB HS_.out gb578 (Nat.le_of_eq hg.symm)) hb); clear HS_; have HS_ := nS_; clear nS_; replace HO568 := Aside0.mk (Kd.N_below (Kd.N_elderB HO568.out gb578 (Nat.le_of_eq hg.symm)) hb); replace BK578 := Aside0.mk (hbox); replace GE578 := Aside0.mk (ge_of HB.out hg); replace HB := Aside0.mk (below_step HB.out hb); (try clear hb); (try clear hbox); (try clear hg); obtain ⟨hcz36_0, hcz36_1, hcz36_2, hcz36_3, hcz36_4, hcz36_5, hcz36_6, hcz36_7⟩ := cells8 BK578.out; obtain ⟨hfz36_0, hfz36_1, hfz36_2, hfz36_3, hfz36_4, hfz36_5, hfz36_6, hfz36_7⟩ := frz8 BK578.out) | ((with_reducible refine gate_store (t := 46) (p := 13) rfl ?_); refine store_event (t := 46) (p := 13) (v := ?vo_w37) (w1 := ((((((((w35.setCell ⟨gb578, 0, none⟩ (.int .i64 t569)).setCell ⟨gb578, 1, none⟩ (.int .i64 t570)).setCell ⟨gb578, 2, none⟩ (.int .i64 t571)).setCell ⟨gb578, 3, none⟩ (.int .i64 t572)).setCell ⟨gb578, 4, none⟩ (.int .i64 t573)).setCell ⟨gb578, 5, none⟩ (.int .i64 t574)).setCell ⟨gb578, 6, none⟩ (.int .i64 t575)).setCell ⟨gb578, 7, none⟩ (.int .i64 t576))) ?hg ?ho ?hn ?hr ?_; (case ho => rfl); (case hg => rfl); (case hn => rfl); (case hr => (go_simp; done)); intro w37 hw; have nS_ := Aside0.mk (V_put8 HS_.out (fun _ hk => hk.2) hw); clear HS_; have HS_ := nS_; clear nS_; replace HO568 : Aside0 (Kd.N (Kd.slice 23 (Kd.int .u64)) 40 w37 w.heap.size (fun k_ => k_ ≠ gb578) (.slice Ao33 y566.length co33) y566) := ⟨(by rw [hw]; exact (by exact Kd.N_mono (Kd.N_far (p := ⟨gb578, 7, none⟩) (Kd.N_far (p := ⟨gb578, 6, none⟩) (Kd.N_far (p := ⟨gb578, 5, none⟩) (Kd.N_far (p := ⟨gb578, 4, none⟩) (Kd.N_far (p := ⟨gb578, 3, none⟩) (Kd.N_far (p := ⟨gb578, 2, none⟩) (Kd.N_far (p := ⟨gb578, 1, none⟩) (Kd.N_far (p := ⟨gb578, 0, none⟩) (Kd.N_mono HO568.out (fun k_ hk => (⟨hk, hk.2⟩ : _ ∧ k_ ≠ gb578))) (fun _ hk => hk.2) (.int .i64 t569)) (fun _ hk => hk.2) (.int .i64 t570)) (fun _ hk => hk.2) (.int .i64 t571)) (fun _ hk => hk.2) (.int .i64 t572)) (fun _ hk => hk.2) (.int .i64 t573)) (fun _ hk => hk.2) (.int .i64 t574)) (fun _ hk => hk.2) (.int .i64 t575)) (fun _ hk => hk.2) (.int .i64 t576)) (fun _ hk => hk.1.2)))⟩; replace BK578 : Aside0 (w37.heap[gb578]? = some (.cells #[.int .i64 t569, .int .i64 t570, .int .i64 t571, .int .i64 t572, .int .i64 t573, .int .i64 t574, .int .i64 t575, .int .i64 t576] 46 (0, 0))) := ⟨(by rw [hw]; exact (by exact put8 BK578.out))⟩; replace HB : Aside0 (Below w.heap.size w w37) := ⟨(by rw [hw]; exact (by repeat ((with_reducible first | exact HB.out | refine below_set ?_ GE578.out))))⟩; clear hw; have q38 : ((ji25) : Int) ≤ ((y565.length : Int) : Int) := of_decide_eq_true (by (with_reducible assumption)); obtain ⟨i038, hi038, _, hsz38, _⟩ := info_parts info23; have hroom38 : y565.length ≤ co14 := (Kd.V_reads' HS_.out).2.1; have hC38 : Kd.F (Kd.int .u64) _ _ (some ⟨go14, 0, none⟩) y565.length y565 := (Kd.V_at (base := w.heap.size) HS_.out).2.2; have hcut38 := cut_to (P := Tryd.prog) 40 23 .i64 Tryd.underlying40 hi038 (some ⟨go14, 0, none⟩) y565.length co14 (ji25) (of_decide_eq_true (by (with_reducible assumption))) q38 hroom38; have hr38 := Kd.F_take (m := ((ji25) : Int).toNat) hC38 (by omega); have hy38 : y579.length = ((ji25) : Int).toNat := (by rw [Ny579.out, List.length_take]; omega); rw [← Ny579.out] at hr38; rw [← hy38] at hcut38; have HO583 := Aside0.mk (show Kd.V (Kd.int .u64) 23 _ w.heap.size _ (.slice (some ⟨go14, 0, none⟩) y579.length co14) y579 from Kd.V_mk (by omega) hr38); clear hr38 hC38 hroom38 hi038 hsz38; clear hy38; replace q38 := eq_true q38) | ((with_reducible refine gate_dst (N := 70) rfl ?_); refine Kd.N_lit (Kd.slice 23 (Kd.int .u64)) _ 40 ?hg (N' := 70) ?hd (xs := ([y579] : List (List Int))) (inner := [.slice (some ⟨go14, 0, none⟩) y579.length co14]) (ok := (fun k_ => some k_ ≠ (.slice Ao33 y566.length co33 : Value).ownBlock ∧ k_ ≠ gb578)) (okp := (fun k_ => some k_ ≠ (.slice Ao33 y566.length co33 : Value).ownBlock ∧ k_ ≠ gb578)) ?hr ?hp (fun _ hk => hk) ((show ∀ k_, w37.heap.size ≤ k_ → (fun k_ => some k_ ≠ (.slice Ao33 y566.length co33 : Value).ownBlock ∧ k_ ≠ gb578) k_ from fun k_ hk => ⟨Kd.fresh' (Kd.N_lt HO568.out) k_ hk, Kd.freshB BK578.out k_ hk⟩) _ (Nat.le_refl _)) (Below.refl _ _) (Nat.le_refl _) (by simp) ?_; (case hd => rfl); (case hg => rfl); (case hr => (go_simp; done)); (case hp => exact (Reps.one (show Kd.FK (Kd.slice 23 (Kd.int .u64)) _ _ y579 [.slice (some ⟨go14, 0, none⟩) y579.length co14] from (Kd.FK_slice_mk (Kd.V_reads' (Kd.V_mono (ok' := (fun k_ => some k_ ≠ (.slice Ao33 y566.length co33 : Value).ownBlock ∧ k_ ≠ gb578)) (HO583.out) (fun k_ hk => ⟨hk.1.2, hk.2⟩))).2.1 (Kd.V_F (Kd.V_mono (ok' := (fun k_ => some k_ ≠ (.slice Ao33 y566.length co33 : Value).ownBlock ∧ k_ ≠ gb578)) (HO583.out) (fun k_ hk => ⟨hk.1.2, hk.2⟩))))) (Reps.none _ _))); intro v585 w39 ho40 hb hg_ hnew_; clear hg_ hnew_; ((rw [← Ny584.out] at ho40)); replace HO568 := Aside0.mk (Kd.N_elder' HO568.out (Kd.N_base ho40) hb); replace HO583 := Aside0.mk (Kd.V_elder' HO583.out (Kd.N_base ho40) hb); replace HO586 := Aside0.mk (Kd.N_lower ho40 (below_size HB.out)); replace BK578 := Aside0.mk (blk_below BK578.out hb); replace HB := Aside0.mk (below_step HB.out hb); clear hb ho40; obtain ⟨Ao41, co41, eo41⟩ := Kd.N_slice HO586.out; subst eo41) | ((with_reducible refine gate_callee (f := 24) rfl ?_); refine goesL_ (some 72) rfl rfl Tryd.func24 (by kernel_rfl) rfl #[.slice Ao41 y584.length co41, .int .i64 0, .int .i64 ji11] rfl (by (try simp only [List.map_toArray, List.map_cons, List.map_nil]); rfl) ?_; (with_reducible refine (resolve_Object.calls kj14 _ _ y584 0 ji11 t587 t588 t589 t590 t591 t592 t593 t594 t595 _ ?side1 ?side2 ?side3 A28.out).mono ?_); (case side1 => exact Glob.below HG.out HB.out); (case side2 => repeat ((exact (Kd.N_reads' HO586.out).2.2))); (case side3 => exact (Kd.N_reads' HO586.out).2.1); rintro e w42 ⟨rfl, hb⟩; refine ⟨_, rfl, ?_⟩; replace BK578 := Aside0.mk (blk_below BK578.out hb); replace HB := Aside0.mk (below_step HB.out hb); (try clear HO568); (try clear HO583); (try clear HO586); (try clear hb)) | ((with_reducible refine gate_dst (N := 15) rfl ?_); refine box_event ?hg (N := 15) ?hd (cs := #[.int .i64 0, .int .i64 0, .int .i64 0, .int .i64 0, .int .i64 0, .int .i64 0, .int .i64 0, .int .i64 0]) (t := 46) ?hr ?_; (case hd => rfl); (case hg => rfl); (case hr => (go_simp; done)); intro gb596 hg w43 hbox hb; replace BK596 := Aside0.mk (hbox); replace GE596 := Aside0.mk (ge_of HB.out hg); replace HB := Aside0.mk (below_step HB.out hb); replace NB578_596 := Aside0.mk (ne_l BK578.out hg); replace BK578 := Aside0.mk (blk_below BK578.out hb); (try clear HO568); (try clear HO583); (try clear HO586); (try clear hb); (try clear hbox); (try clear hg); have hnc44 := NB578_596.out; obtain ⟨hcz45_0, hcz45_1, hcz45_2, hcz45_3, hcz45_4, hcz45_5, hcz45_6, hcz45_7⟩ := cells8 BK596.out; obtain ⟨hfz45_0, hfz45_1, hfz45_2, hfz45_3, hfz45_4, hfz45_5, hfz45_6, hfz45_7⟩ := frz8 BK596.out; obtain ⟨hcz46_0, hcz46_1, hcz46_2, hcz46_3, hcz46_4, hcz46_5, hcz46_6, hcz46_7⟩ := cells8 BK578.out))
                          go_ret
                          exact ⟨by rfl, by repeat ((with_reducible first | exact HB.out | refine below_set ?_ GE596.out))⟩
                        · rw [if_neg c30] at H
                          have c30b0 : (t569 == 1 && (t570 == 0 && (t571 == (wrap64 ((wrap64 (ji11 + 1)) + (wrap64 (Int.tmod a1 20)))) && (t572 == (wrap64 (Int.tmod a2 20)) && (t573 == (wrap64 (Int.tmod a3 20)) && (t574 == 0 && (t575 == 0 && (t576 == (wrap64 ((wrap64 (Int.tmod a2 20)) + (wrap64 (Int.tmod a3 20)))))))))))) = false := by simpa using c30
                          (try (skip))
                          (try (skip))
                          (try (skip))
                          clear c30
                          obtain rfl := Option.some.inj H
                          go_wp2_with (first | ((with_reducible refine gate_dst (N := 59) rfl ?_); refine Kd.N_lit (Kd.slice 23 (Kd.int .u64)) _ 40 ?hg (N' := 59) ?hd (xs := ([y565] : List (List Int))) (inner := [.slice (some ⟨go14, 0, none⟩) y565.length co14]) (ok := (fun _ => True)) (okp := (fun _ => True)) ?hr ?hp (fun _ hk => hk) ((show ∀ k_, wc.heap.size ≤ k_ → (fun _ => True) k_ from fun k_ hk => trivial) _ (Nat.le_refl _)) (Below.refl _ _) (Nat.le_refl _) (by simp) ?_; (case hd => rfl); (case hg => rfl); (case hr => (go_simp; done)); (case hp => exact (Reps.one (show Kd.FK (Kd.slice 23 (Kd.int .u64)) _ _ y565 [.slice (some ⟨go14, 0, none⟩) y565.length co14] from (Kd.FK_slice_mk (Kd.R_reads' (Kd.R_mono (ok' := (fun _ => True)) (HO_12.out) (fun k_ hk => trivial))).2.1 (Kd.R_F (Kd.R_mono (ok' := (fun _ => True)) (HO_12.out) (fun k_ hk => trivial))))) (Reps.none _ _))); intro v567 w47 ho48 hb hg_ hnew_; clear hg_ hnew_; ((rw [← Ny566.out] at ho48)); have n0_ := Aside0.mk (Kd.N_lower ho48 (below_size HB.out)); have n1_ := Aside0.mk (below_step HB.out hb); have nS_ := Aside0.mk (Kd.V_elder' (Kd.R_V (base' := w.heap.size) HO_12.out) (Kd.N_base ho48) hb); clear HB; clear HO_12; have HO568 := n0_; have HB := n1_; have HS_ := nS_; (try clear n0_; try clear n1_; try clear nS_); clear hb ho48; obtain ⟨Ao49, co49, eo49⟩ := Kd.N_slice HO568.out; subst eo49) | ((with_reducible refine gate_callee (f := 24) rfl ?_); refine goesL_ (some 61) rfl rfl Tryd.func24 (by kernel_rfl) rfl #[.slice Ao49 y566.length co49, .int .i64 0, .int .i64 ji11] rfl (by (try simp only [List.map_toArray, List.map_cons, List.map_nil]); rfl) ?_; (with_reducible refine (resolve_Object.calls kj14 _ _ y566 0 ji11 t569 t570 t571 t572 t573 t574 t575 t576 t577 _ ?side1 ?side2 ?side3 A24.out).mono ?_); (case side1 => exact Glob.below HG.out HB.out); (case side2 => repeat ((exact (Kd.N_reads' HO568.out).2.2))); (case side3 => exact (Kd.N_reads' HO568.out).2.1); rintro e w50 ⟨rfl, hb⟩; refine ⟨_, rfl, ?_⟩; have nS_ := Aside0.mk (Kd.V_below HS_.out hb); clear HS_; have HS_ := nS_; clear nS_; replace HO568 := Aside0.mk (Kd.N_below HO568.out hb); replace HB := Aside0.mk (below_step HB.out hb); (try clear hb)) | ((with_reducible refine gate_dst (N := 13) rfl ?_); refine box_event ?hg (N := 13) ?hd (cs := #[.int .i64 0, .int .i64 0, .int .i64 0, .int .i64 0, .int .i64 0, .int .i64 0, .int .i64 0, .int .i64 0]) (t := 46) ?hr ?_; (case hd => rfl); (case hg => rfl); (case hr => (go_simp; done)); intro gb578 hg w51 hbox hb; have nS_ := Aside0.mk (Kd.V_below (Kd.V_elderB HS_.out gb578 (Nat.le_of_eq hg.symm)) hb); clear HS_; have HS_ := nS_; clear nS_; replace HO568 := Aside0.mk (Kd.N_below (Kd.N_elderB HO568.out gb578 (Nat.le_of_eq hg.symm)) hb); replace BK578 := Aside0.mk (hbox); replace GE578 := Aside0.mk (ge_of HB.out hg); replace HB := Aside0.mk (below_step HB.out hb); (try clear hb); (try clear hbox); (try clear hg); obtain ⟨hcz52_0, hcz52_1, hcz52_2, hcz52_3, hcz52_4, hcz52_5, hcz52_6, hcz52_7⟩ := cells8 BK578.out; obtain ⟨hfz52_0, hfz52_1, hfz52_2, hfz52_3, hfz52_4, hfz52_5, hfz52_6, hfz52_7⟩ := frz8 BK578.out) | ((with_reducible refine gate_store (t := 46) (p := 13) rfl ?_); refine store_event (t := 46) (p := 13) (v := ?vo_w53) (w1 := ((((((((w51.setCell ⟨gb578, 0, none⟩ (.int .i64 t569)).setCell ⟨gb578, 1, none⟩ (.int .i64 t570)).setCell ⟨gb578, 2, none⟩ (.int .i64 t571)).setCell ⟨gb578, 3, none⟩ (.int .i64 t572)).setCell ⟨gb578, 4, none⟩ (.int .i64 t573)).setCell ⟨gb578, 5, none⟩ (.int .i64 t574)).setCell ⟨gb578, 6, none⟩ (.int .i64 t575)).setCell ⟨gb578, 7, none⟩ (.int .i64 t576))) ?hg ?ho ?hn ?hr ?_; (case ho => rfl); (case hg => rfl); (case hn => rfl); (case hr => (go_simp; done)); intro w53 hw; have nS_ := Aside0.mk (V_put8 HS_.out (fun _ hk => hk.2) hw); clear HS_; have HS_ := nS_; clear nS_; replace HO568 : Aside0 (Kd.N (Kd.slice 23 (Kd.int .u64)) 40 w53 w.heap.size (fun k_ => k_ ≠ gb578) (.slice Ao49 y566.length co49) y566) := ⟨(by rw [hw]; exact (by exact Kd.N_mono (Kd.N_far (p := ⟨gb578, 7, none⟩) (Kd.N_far (p := ⟨gb578, 6, none⟩) (Kd.N_far (p := ⟨gb578, 5, none⟩) (Kd.N_far (p := ⟨gb578, 4, none⟩) (Kd.N_far (p := ⟨gb578, 3, none⟩) (Kd.N_far (p := ⟨gb578, 2, none⟩) (Kd.N_far (p := ⟨gb578, 1, none⟩) (Kd.N_far (p := ⟨gb578, 0, none⟩) (Kd.N_mono HO568.out (fun k_ hk => (⟨hk, hk.2⟩ : _ ∧ k_ ≠ gb578))) (fun _ hk => hk.2) (.int .i64 t569)) (fun _ hk => hk.2) (.int .i64 t570)) (fun _ hk => hk.2) (.int .i64 t571)) (fun _ hk => hk.2) (.int .i64 t572)) (fun _ hk => hk.2) (.int .i64 t573)) (fun _ hk => hk.2) (.int .i64 t574)) (fun _ hk => hk.2) (.int .i64 t575)) (fun _ hk => hk.2) (.int .i64 t576)) (fun _ hk => hk.1.2)))⟩; replace BK578 : Aside0 (w53.heap[gb578]? = some (.cells #[.int .i64 t569, .int .i64 t570, .int .i64 t571, .int .i64 t572, .int .i64 t573, .int .i64 t574, .int .i64 t575, .int .i64 t576] 46 (0, 0))) := ⟨(by rw [hw]; exact (by exact put8 BK578.out))⟩; replace HB : Aside0 (Below w.heap.size w w53) := ⟨(by rw [hw]; exact (by repeat ((with_reducible first | exact HB.out | refine below_set ?_ GE578.out))))⟩; clear hw; have q54 : ((ji25) : Int) ≤ ((y565.length : Int) : Int) := of_decide_eq_true (by (with_reducible assumption)); obtain ⟨i054, hi054, _, hsz54, _⟩ := info_parts info23; have hroom54 : y565.length ≤ co14 := (Kd.V_reads' HS_.out).2.1; have hC54 : Kd.F (Kd.int .u64) _ _ (some ⟨go14, 0, none⟩) y565.length y565 := (Kd.V_at (base := w.heap.size) HS_.out).2.2; have hcut54 := cut_to (P := Tryd.prog) 40 23 .i64 Tryd.underlying40 hi054 (some ⟨go14, 0, none⟩) y565.length co14 (ji25) (of_decide_eq_true (by (with_reducible assumption))) q54 hroom54; have hr54 := Kd.F_take (m := ((ji25) : Int).toNat) hC54 (by omega); have hy54 : y579.length = ((ji25) : Int).toNat := (by rw [Ny579.out, List.length_take]; omega); rw [← Ny579.out] at hr54; rw [← hy54] at hcut54; have HO583 := Aside0.mk (show Kd.V (Kd.int .u64) 23 _ w.heap.size _ (.slice (some ⟨go14, 0, none⟩) y579.length co14) y579 from Kd.V_mk (by omega) hr54); clear hr54 hC54 hroom54 hi054 hsz54; clear hy54; replace q54 := eq_true q54) | ((with_reducible refine gate_dst (N := 70) rfl ?_); refine Kd.N_lit (Kd.slice 23 (Kd.int .u64)) _ 40 ?hg (N' := 70) ?hd (xs := ([y579] : List (List Int))) (inner := [.slice (some ⟨go14, 0, none⟩) y579.length co14]) (ok := (fun k_ => some k_ ≠ (.slice Ao49 y566.length co49 : Value).ownBlock ∧ k_ ≠ gb578)) (okp := (fun k_ => some k_ ≠ (.slice Ao49 y566.length co49 : Value).ownBlock ∧ k_ ≠ gb578)) ?hr ?hp (fun _ hk => hk) ((show ∀ k_, w53.heap.size ≤ k_ → (fun k_ => some k_ ≠ (.slice Ao49 y566.length co49 : Value).ownBlock ∧ k_ ≠ gb578) k_ from fun k_ hk => ⟨Kd.fresh' (Kd.N_lt HO568.out) k_ hk, Kd.freshB BK578.out k_ hk⟩) _ (Nat.le_refl _)) (Below.refl _ _) (Nat.le_refl _) (by simp) ?_; (case hd => rfl); (case hg => rfl); (case hr => (go_simp; done)); (case hp => exact (Reps.one (show Kd.FK (Kd.slice 23 (Kd.int .u64)) _ _ y579 [.slice (some ⟨go14, 0, none⟩) y579.length co14] from (Kd.FK_slice_mk (Kd.V_reads' (Kd.V_mono (ok' := (fun k_ => some k_ ≠ (.slice Ao49 y566.length co49 : Value).ownBlock ∧ k_ ≠ gb578)) (HO583.out) (fun k_ hk => ⟨hk.1.2, hk.2⟩))).2.1 (Kd.V_F (Kd.V_mono (ok' := (fun k_ => some k_ ≠ (.slice Ao49 y566.length co49 : Value).ownBlock ∧ k_ ≠ gb578)) (HO583.out) (fun k_ hk => ⟨hk.1.2, hk.2⟩))))) (Reps.none _ _))); intro v585 w55 ho56 hb hg_ hnew_; clear hg_ hnew_; ((rw [← Ny584.out] at ho56)); replace HO568 := Aside0.mk (Kd.N_elder' HO568.out (Kd.N_base ho56) hb); replace HO583 := Aside0.mk (Kd.V_elder' HO583.out (Kd.N_base ho56) hb); replace HO586 := Aside0.mk (Kd.N_lower ho56 (below_size HB.out)); replace BK578 := Aside0.mk (blk_below BK578.out hb); replace HB := Aside0.mk (below_step HB.out hb); clear hb ho56; obtain ⟨Ao57, co57, eo57⟩ := Kd.N_slice HO586.out; subst eo57) | ((with_reducible refine gate_callee (f := 24) rfl ?_); refine goesL_ (some 72) rfl rfl Tryd.func24 (by kernel_rfl) rfl #[.slice Ao57 y584.length co57, .int .i64 0, .int .i64 ji11] rfl (by (try simp only [List.map_toArray, List.map_cons, List.map_nil]); rfl) ?_; (with_reducible refine (resolve_Object.calls kj14 _ _ y584 0 ji11 t587 t588 t589 t590 t591 t592 t593 t594 t595 _ ?side1 ?side2 ?side3 A28.out).mono ?_); (case side1 => exact Glob.below HG.out HB.out); (case side2 => repeat ((exact (Kd.N_reads' HO586.out).2.2))); (case side3 => exact (Kd.N_reads' HO586.out).2.1); rintro e w58 ⟨rfl, hb⟩; refine ⟨_, rfl, ?_⟩; replace BK578 := Aside0.mk (blk_below BK578.out hb); replace HB := Aside0.mk (below_step HB.out hb); (try clear HO568); (try clear HO583); (try clear HO586); (try clear hb)) | ((with_reducible refine gate_dst (N := 15) rfl ?_); refine box_event ?hg (N := 15) ?hd (cs := #[.int .i64 0, .int .i64 0, .int .i64 0, .int .i64 0, .int .i64 0, .int .i64 0, .int .i64 0, .int .i64 0]) (t := 46) ?hr ?_; (case hd => rfl); (case hg => rfl); (case hr => (go_simp; done)); intro gb596 hg w59 hbox hb; replace BK596 := Aside0.mk (hbox); replace GE596 := Aside0.mk (ge_of HB.out hg); replace HB := Aside0.mk (below_step HB.out hb); replace NB578_596 := Aside0.mk (ne_l BK578.out hg); replace BK578 := Aside0.mk (blk_below BK578.out hb); (try clear HO568); (try clear HO583); (try clear HO586); (try clear hb); (try clear hbox); (try clear hg); have hnc60 := NB578_596.out; obtain ⟨hcz61_0, hcz61_1, hcz61_2, hcz61_3, hcz61_4, hcz61_5, hcz61_6, hcz61_7⟩ := cells8 BK596.out; obtain ⟨hfz61_0, hfz61_1, hfz61_2, hfz61_3, hfz61_4, hfz61_5, hfz61_6, hfz61_7⟩ := frz8 BK596.out; obtain ⟨hcz62_0, hcz62_1, hcz62_2, hcz62_3, hcz62_4, hcz62_5, hcz62_6, hcz62_7⟩ := cells8 BK578.out))
                          go_ret
                          exact ⟨by rfl, by repeat ((with_reducible first | exact HB.out | refine below_set ?_ GE596.out))⟩
                      · rw [if_neg c29] at H
                        have c29b0 : (t577 == 0) = false := beq_eq_false_iff_ne.mpr c29
                        obtain rfl := Option.some.inj H
                        go_wp2_with (first | ((with_reducible refine gate_dst (N := 59) rfl ?_); refine Kd.N_lit (Kd.slice 23 (Kd.int .u64)) _ 40 ?hg (N' := 59) ?hd (xs := ([y565] : List (List Int))) (inner := [.slice (some ⟨go14, 0, none⟩) y565.length co14]) (ok := (fun _ => True)) (okp := (fun _ => True)) ?hr ?hp (fun _ hk => hk) ((show ∀ k_, wc.heap.size ≤ k_ → (fun _ => True) k_ from fun k_ hk => trivial) _ (Nat.le_refl _)) (Below.refl _ _) (Nat.le_refl _) (by simp) ?_; (case hd => rfl); (case hg => rfl); (case hr => (go_simp; done)); (case hp => exact (Reps.one (show Kd.FK (Kd.slice 23 (Kd.int .u64)) _ _ y565 [.slice (some ⟨go14, 0, none⟩) y565.length co14] from (Kd.FK_slice_mk (Kd.R_reads' (Kd.R_mono (ok' := (fun _ => True)) (HO_12.out) (fun k_ hk => trivial))).2.1 (Kd.R_F (Kd.R_mono (ok' := (fun _ => True)) (HO_12.out) (fun k_ hk => trivial))))) (Reps.none _ _))); intro v567 w63 ho64 hb hg_ hnew_; clear hg_ hnew_; ((rw [← Ny566.out] at ho64)); have n0_ := Aside0.mk (Kd.N_lower ho64 (below_size HB.out)); have n1_ := Aside0.mk (below_step HB.out hb); have nS_ := Aside0.mk (Kd.V_elder' (Kd.R_V (base' := w.heap.size) HO_12.out) (Kd.N_base ho64) hb); clear HB; clear HO_12; have HO568 := n0_; have HB := n1_; have HS_ := nS_; (try clear n0_; try clear n1_; try clear nS_); clear hb ho64; obtain ⟨Ao65, co65, eo65⟩ := Kd.N_slice HO568.out; subst eo65) | ((with_reducible refine gate_callee (f := 24) rfl ?_); refine goesL_ (some 61) rfl rfl Tryd.func24 (by kernel_rfl) rfl #[.slice Ao65 y566.length co65, .int .i64 0, .int .i64 ji11] rfl (by (try simp only [List.map_toArray, List.map_cons, List.map_nil]); rfl) ?_; (with_reducible refine (resolve_Object.calls kj14 _ _ y566 0 ji11 t569 t570 t571 t572 t573 t574 t575 t576 t577 _ ?side1 ?side2 ?side3 A24.out).mono ?_); (case side1 => exact Glob.below HG.out HB.out); (case side2 => repeat ((exact (Kd.N_reads' HO568.out).2.2))); (case side3 => exact (Kd.N_reads' HO568.out).2.1); rintro e w66 ⟨rfl, hb⟩; refine ⟨_, rfl, ?_⟩; have nS_ := Aside0.mk (Kd.V_below HS_.out hb); clear HS_; have HS_ := nS_; clear nS_; replace HO568 := Aside0.mk (Kd.N_below HO568.out hb); replace HB := Aside0.mk (below_step HB.out hb); (try clear hb)) | ((with_reducible refine gate_dst (N := 13) rfl ?_); refine box_event ?hg (N := 13) ?hd (cs := #[.int .i64 0, .int .i64 0, .int .i64 0, .int .i64 0, .int .i64 0, .int .i64 0, .int .i64 0, .int .i64 0]) (t := 46) ?hr ?_; (case hd => rfl); (case hg => rfl); (case hr => (go_simp; done)); intro gb578 hg w67 hbox hb; have nS_ := Aside0.mk (Kd.V_below (Kd.V_elderB HS_.out gb578 (Nat.le_of_eq hg.symm)) hb); clear HS_; have HS_ := nS_; clear nS_; replace HO568 := Aside0.mk (Kd.N_below (Kd.N_elderB HO568.out gb578 (Nat.le_of_eq hg.symm)) hb); replace BK578 := Aside0.mk (hbox); replace GE578 := Aside0.mk (ge_of HB.out hg); replace HB := Aside0.mk (below_step HB.out hb); (try clear hb); (try clear hbox); (try clear hg); obtain ⟨hcz68_0, hcz68_1, hcz68_2, hcz68_3, hcz68_4, hcz68_5, hcz68_6, hcz68_7⟩ := cells8 BK578.out; obtain ⟨hfz68_0, hfz68_1, hfz68_2, hfz68_3, hfz68_4, hfz68_5, hfz68_6, hfz68_7⟩ := frz8 BK578.out) | ((with_reducible refine gate_store (t := 46) (p := 13) rfl ?_); refine store_event (t := 46) (p := 13) (v := ?vo_w69) (w1 := ((((((((w67.setCell ⟨gb578, 0, none⟩ (.int .i64 t569)).setCell ⟨gb578, 1, none⟩ (.int .i64 t570)).setCell ⟨gb578, 2, none⟩ (.int .i64 t571)).setCell ⟨gb578, 3, none⟩ (.int .i64 t572)).setCell ⟨gb578, 4, none⟩ (.int .i64 t573)).setCell ⟨gb578, 5, none⟩ (.int .i64 t574)).setCell ⟨gb578, 6, none⟩ (.int .i64 t575)).setCell ⟨gb578, 7, none⟩ (.int .i64 t576))) ?hg ?ho ?hn ?hr ?_; (case ho => rfl); (case hg => rfl); (case hn => rfl); (case hr => (go_simp; done)); intro w69 hw; have nS_ := Aside0.mk (V_put8 HS_.out (fun _ hk => hk.2) hw); clear HS_; have HS_ := nS_; clear nS_; replace HO568 : Aside0 (Kd.N (Kd.slice 23 (Kd.int .u64)) 40 w69 w.heap.size (fun k_ => k_ ≠ gb578) (.slice Ao65 y566.length co65) y566) := ⟨(by rw [hw]; exact (by exact Kd.N_mono (Kd.N_far (p := ⟨gb578, 7, none⟩) (Kd.N_far (p := ⟨gb578, 6, none⟩) (Kd.N_far (p := ⟨gb578, 5, none⟩) (Kd.N_far (p := ⟨gb578, 4, none⟩) (Kd.N_far (p := ⟨gb578, 3, none⟩) (Kd.N_far (p := ⟨gb578, 2, none⟩) (Kd.N_far (p := ⟨gb578, 1, none⟩) (Kd.N_far (p := ⟨gb578, 0, none⟩) (Kd.N_mono HO568.out (fun k_ hk => (⟨hk, hk.2⟩ : _ ∧ k_ ≠ gb578))) (fun _ hk => hk.2) (.int .i64 t569)) (fun _ hk => hk.2) (.int .i64 t570)) (fun _ hk => hk.2) (.int .i64 t571)) (fun _ hk => hk.2) (.int .i64 t572)) (fun _ hk => hk.2) (.int .i64 t573)) (fun _ hk => hk.2) (.int .i64 t574)) (fun _ hk => hk.2) (.int .i64 t575)) (fun _ hk => hk.2) (.int .i64 t576)) (fun _ hk => hk.1.2)))⟩; replace BK578 : Aside0 (w69.heap[gb578]? = some (.cells #[.int .i64 t569, .int .i64 t570, .int .i64 t571, .int .i64 t572, .int .i64 t573, .int .i64 t574, .int .i64 t575, .int .i64 t576] 46 (0, 0))) := ⟨(by rw [hw]; exact (by exact put8 BK578.out))⟩; replace HB : Aside0 (Below w.heap.size w w69) := ⟨(by rw [hw]; exact (by repeat ((with_reducible first | exact HB.out | refine below_set ?_ GE578.out))))⟩; clear hw; have q70 : ((ji25) : Int) ≤ ((y565.length : Int) : Int) := of_decide_eq_true (by (with_reducible assumption)); obtain ⟨i070, hi070, _, hsz70, _⟩ := info_parts info23; have hroom70 : y565.length ≤ co14 := (Kd.V_reads' HS_.out).2.1; have hC70 : Kd.F (Kd.int .u64) _ _ (some ⟨go14, 0, none⟩) y565.length y565 := (Kd.V_at (base := w.heap.size) HS_.out).2.2; have hcut70 := cut_to (P := Tryd.prog) 40 23 .i64 Tryd.underlying40 hi070 (some ⟨go14, 0, none⟩) y565.length co14 (ji25) (of_decide_eq_true (by (with_reducible assumption))) q70 hroom70; have hr70 := Kd.F_take (m := ((ji25) : Int).toNat) hC70 (by omega); have hy70 : y579.length = ((ji25) : Int).toNat := (by rw [Ny579.out, List.length_take]; omega); rw [← Ny579.out] at hr70; rw [← hy70] at hcut70; have HO583 := Aside0.mk (show Kd.V (Kd.int .u64) 23 _ w.heap.size _ (.slice (some ⟨go14, 0, none⟩) y579.length co14) y579 from Kd.V_mk (by omega) hr70); clear hr70 hC70 hroom70 hi070 hsz70; clear hy70; replace q70 := eq_true q70) | ((with_reducible refine gate_dst (N := 70) rfl ?_); refine Kd.N_lit (Kd.slice 23 (Kd.int .u64)) _ 40 ?hg (N' := 70) ?hd (xs := ([y579] : List (List Int))) (inner := [.slice (some ⟨go14, 0, none⟩) y579.length co14]) (ok := (fun k_ => some k_ ≠ (.slice Ao65 y566.length co65 : Value).ownBlock ∧ k_ ≠ gb578)) (okp := (fun k_ => some k_ ≠ (.slice Ao65 y566.length co65 : Value).ownBlock ∧ k_ ≠ gb578)) ?hr ?hp (fun _ hk => hk) ((show ∀ k_, w69.heap.size ≤ k_ → (fun k_ => some k_ ≠ (.slice Ao65 y566.length co65 : Value).ownBlock ∧ k_ ≠ gb578) k_ from fun k_ hk => ⟨Kd.fresh' (Kd.N_lt HO568.out) k_ hk, Kd.freshB BK578.out k_ hk⟩) _ (Nat.le_refl _)) (Below.refl _ _) (Nat.le_refl _) (by simp) ?_; (case hd => rfl); (case hg => rfl); (case hr => (go_simp; done)); (case hp => exact (Reps.one (show Kd.FK (Kd.slice 23 (Kd.int .u64)) _ _ y579 [.slice (some ⟨go14, 0, none⟩) y579.length co14] from (Kd.FK_slice_mk (Kd.V_reads' (Kd.V_mono (ok' := (fun k_ => some k_ ≠ (.slice Ao65 y566.length co65 : Value).ownBlock ∧ k_ ≠ gb578)) (HO583.out) (fun k_ hk => ⟨hk.1.2, hk.2⟩))).2.1 (Kd.V_F (Kd.V_mono (ok' := (fun k_ => some k_ ≠ (.slice Ao65 y566.length co65 : Value).ownBlock ∧ k_ ≠ gb578)) (HO583.out) (fun k_ hk => ⟨hk.1.2, hk.2⟩))))) (Reps.none _ _))); intro v585 w71 ho72 hb hg_ hnew_; clear hg_ hnew_; ((rw [← Ny584.out] at ho72)); replace HO568 := Aside0.mk (Kd.N_elder' HO568.out (Kd.N_base ho72) hb); replace HO583 := Aside0.mk (Kd.V_elder' HO583.out (Kd.N_base ho72) hb); replace HO586 := Aside0.mk (Kd.N_lower ho72 (below_size HB.out)); replace HB := Aside0.mk (below_step HB.out hb); clear hb ho72; (try clear BK578); obtain ⟨Ao73, co73, eo73⟩ := Kd.N_slice HO586.out; subst eo73) | ((with_reducible refine gate_callee (f := 24) rfl ?_); refine goesL_ (some 72) rfl rfl Tryd.func24 (by kernel_rfl) rfl #[.slice Ao73 y584.length co73, .int .i64 0, .int .i64 ji11] rfl (by (try simp only [List.map_toArray, List.map_cons, List.map_nil]); rfl) ?_; (with_reducible refine (resolve_Object.calls kj14 _ _ y584 0 ji11 t587 t588 t589 t590 t591 t592 t593 t594 t595 _ ?side1 ?side2 ?side3 A28.out).mono ?_); (case side1 => exact Glob.below HG.out HB.out); (case side2 => repeat ((exact (Kd.N_reads' HO586.out).2.2))); (case side3 => exact (Kd.N_reads' HO586.out).2.1); rintro e w74 ⟨rfl, hb⟩; refine ⟨_, rfl, ?_⟩; replace HB := Aside0.mk (below_step HB.out hb); (try clear HO568); (try clear HO583); (try clear HO586); (try clear BK578); (try clear hb)) | ((with_reducible refine gate_dst (N := 15) rfl ?_); refine box_event ?hg (N := 15) ?hd (cs := #[.int .i64 0, .int .i64 0, .int .i64 0, .int .i64 0, .int .i64 0, .int .i64 0, .int .i64 0, .int .i64 0]) (t := 46) ?hr ?_; (case hd => rfl); (case hg => rfl); (case hr => (go_simp; done)); intro gb596 hg w75 hbox hb; replace BK596 := Aside0.mk (hbox); replace GE596 := Aside0.mk (ge_of HB.out hg); replace HB := Aside0.mk (below_step HB.out hb); (try clear HO568); (try clear HO583); (try clear HO586); (try clear BK578); (try clear hb); (try clear hbox); (try clear hg); obtain ⟨hcz77_0, hcz77_1, hcz77_2, hcz77_3, hcz77_4, hcz77_5, hcz77_6, hcz77_7⟩ := cells8 BK596.out; obtain ⟨hfz77_0, hfz77_1, hfz77_2, hfz77_3, hfz77_4, hfz77_5, hfz77_6, hfz77_7⟩ := frz8 BK596.out))
                        go_ret
                        exact ⟨by rfl, by repeat ((with_reducible first | exact HB.out | refine below_set ?_ GE596.out))⟩
                    · rw [if_neg c27] at H
                      exact absurd H (by simp)
                  · rw [if_neg c26] at H
                    exact absurd H (by simp)
          · rw [if_neg c13] at H
            exact absurd H (by simp)
        · rw [if_neg c12] at H
          exact absurd H (by simp)
      · rw [if_neg c9] at H
        exact absurd H (by simp)
    · rw [if_neg c8] at H
      exact absurd H (by simp)
  · replace c6 := Bool.eq_false_iff.mpr c6
    subst c6
    have H1 : (some false) = some r := by rw [if_neg (show ¬ (false = true) by decide)] at H; exact H
    clear H
    have H := H1
    clear H1
    obtain rfl := Option.some.inj H
    go_enter Tryd.func9, Tryd.ntmps9
    go_wp2_with (((with_reducible refine gate_callee (f := 23) rfl ?_); refine goesL_ (some 17) rfl rfl Tryd.func23 (by kernel_rfl) rfl #[] rfl (by (try simp only [List.map_toArray, List.map_cons, List.map_nil]); done) ?_; (with_reducible refine (capnplaw08_awake.calls  false _ ?side1 A5.out).mono ?_); (case side1 => exact Glob.below HG.out HB.out); rintro e w78 ⟨rfl, hb⟩; refine ⟨_, rfl, ?_⟩; replace HB := Aside0.mk (below_step HB.out hb); (try clear hb)))
    go_ret
    exact ⟨by rfl, by repeat ((with_reducible exact HB.out))⟩

end Go.Proofs.YtcjhejopcghgnaaDoor.P

set_option linter.unusedVariables false
set_option linter.unusedSimpArgs false
namespace Go.Proofs.YtcjhejopcghgnaaDoor.P
open Go.RowKit Go.Proofs.YtcjhejopcghgnaaDoorW.PrintWords Go.Proofs.YtcjhejopcghgnaaDoorW.PrintLast Go.Proofs.YtcjhejopcghgnaaDoorW.PrintMore
theorem ResolveStructs_pure (a0 : Int) (h0 : 0 ≤ a0 ∧ a0 ≤ 255) (a1 : Int) (h1 : 0 ≤ a1 ∧ a1 ≤ 255) (a2 : Int) (h2 : 0 ≤ a2 ∧ a2 ≤ 255) (a3 : Int) (h3 : 0 ≤ a3 ∧ a3 ≤ 255) :
    ∃ k, capnplaw08_ResolveStructs.f k a0 a1 a2 a3 = some true := by
  refine Has.ex (g := fun k => capnplaw08_ResolveStructs.f k a0 a1 a2 a3) ?_
  simp only [capnplaw08_ResolveStructs.f]
  refine Has.bind awake8_has (Has.pos rfl ?_)
  rw [Int.tmod_eq_emod_of_nonneg h0.1, Int.tmod_eq_emod_of_nonneg h1.1, Int.tmod_eq_emod_of_nonneg h2.1, Int.tmod_eq_emod_of_nonneg h3.1]
  have hf : 0 ≤ a0 % 20 ∧ a0 % 20 < 20 := by omega
  have hg : 0 ≤ a1 % 20 ∧ a1 % 20 < 20 := by omega
  have hd : 0 ≤ a2 % 20 ∧ a2 % 20 < 20 := by omega
  have hp : 0 ≤ a3 % 20 ∧ a3 % 20 < 20 := by omega
  generalize a0 % 20 = f at hf
  generalize a1 % 20 = g at hg
  generalize ed : a2 % 20 = d at hd
  generalize ep : a3 % 20 = p at hp
  rw [w64 (x := f) (by omega), w64 (x := g) (by omega), w64 (x := d) (by omega), w64 (x := p) (by omega), w64 (x := f + 1) (by omega), w64 (x := f + 1 + g) (by omega), w64 (x := d + p) (by omega), w64 (x := f + 1 + g + (d + p)) (by omega)]
  refine Has.pos (by omega) (Has.pos (by omega) ?_)
  simp only [Option.bind_some]
  refine Has.bind (word8s_has hg hd hp) ?_
  have hr := pakI_range (0, g, d, p, 0, 0, false, 0, 0, 0)
  generalize ex : pakI (0, g, d, p, 0, 0, false, 0, 0, 0) = x at hr
  refine Has.pos hf.1 (Has.pos (by rw [List.length_replicate]; omega) ?_)
  obtain ⟨seg, hs⟩ : ∃ s, s = (List.replicate (f + 1 + g + (d + p)).toNat (0 : Int)).set f.toNat x := ⟨_, rfl⟩
  rw [← hs]
  have hlen : seg.length = (f + 1 + g + (d + p)).toNat := by rw [hs, List.length_set, List.length_replicate]
  have hx : ∀ m : Nat, f.toNat < m → rd (seg.take m) f = x := by
    intro m hm
    unfold rd
    rw [List.getD_eq_getElem?_getD, List.getElem?_take, if_pos hm, hs, List.getElem?_set, if_pos rfl, if_pos (by rw [List.length_replicate]; omega)]
    rfl
  have hw : ∀ y ∈ seg, 0 ≤ y ∧ y < 18446744073709551616 := by
    intro y hy
    rw [hs] at hy
    rcases List.mem_or_eq_of_mem_set hy with hy | hy
    · rw [List.eq_of_mem_replicate hy]; omega
    · omega
  have hx0 : rd seg f = x := by have := hx seg.length (by omega); rwa [List.take_length] at this
  have done : Has (fun k => capnplaw08_ResolveStructs.j0 k a2 a3 f g (d + p) seg true) true := by
    refine Has.step (fun k => by rw [capnplaw08_ResolveStructs.j0]) ?_
    exact Has.pos rfl (Has.some_ _)
  have main : ¬ (d + p = 0 ∧ g = 0) → Has (fun k => capnplaw08_ResolveStructs.j0 k a2 a3 f g (d + p) seg false) true := by
    intro hne
    refine Has.step (fun k => by rw [capnplaw08_ResolveStructs.j0]) ?_
    refine Has.neg (by simp) ?_
    have hl1 : (seg.take ((seg.length : Int) - 1).toNat).length = seg.length - 1 := by rw [List.length_take]; omega
    have o1 := struct_obj hf hg hd hp hne (seg := seg) (by rw [ex]; exact hx0) (by omega)
    have o2 := struct_obj hf hg hd hp hne (seg := seg.take ((seg.length : Int) - 1).toNat) (by rw [ex]; exact hx _ (by omega)) (by omega)
    rw [if_pos (by omega)] at o1
    rw [if_neg (by omega)] at o2
    refine Has.bind (Object_has (one_seg (Words.of (by omega) hw)) (one_sm (by omega)) 0 f) ?_
    rw [o1, w64 (x := (seg.length : Int) - 1) (by omega)]
    refine Has.pos (by omega) (Has.pos (by omega) ?_)
    refine Has.bind (Object_has (one_seg (Words.of (by omega) (fun y hy => hw y (List.mem_of_mem_take hy)))) (one_sm (by omega)) 0 f) ?_
    rw [o2, Int.tmod_eq_emod_of_nonneg h2.1, Int.tmod_eq_emod_of_nonneg h3.1, ed, ep, w64 (x := d) (by omega), w64 (x := p) (by omega), w64 (x := f + 1) (by omega), w64 (x := f + 1 + g) (by omega)]
    exact Has.pos rfl (Has.pos (by simp) (Has.some_ _))
  by_cases hn : d + p = 0
  · refine Has.pos hn ?_
    by_cases hg0 : g = 0
    · simp only [show (g == 0) = true from by simpa using hg0]; exact done
    · simp only [show (g == 0) = false from by simpa using hg0]; exact main (fun h => hg0 h.2)
  · exact Has.neg hn (main (fun h => hn h.1))
end Go.Proofs.YtcjhejopcghgnaaDoor.P

namespace Go.Proofs.YtcjhejopcghgnaaDoor.resolveStructs
open Go.ChangeShapes Go.WideShapes Go.ChangeAt Go.RowKit Go.Proofs.YtcjhejopcghgnaaDoor.P Go.Proofs.YtcjhejopcghgnaaDoorW.PrintWords
open Go.ChangeMaps (open_string shut_string)
open Go.Proofs.YtcjhejopcghgnaaDoor.P
set_option linter.unusedVariables false
theorem own : ownKnob Tryd.prog.godebug = none := by kernel_rfl
theorem laidOut : laidOutB Tryd.prog = true := by kernel_rfl
theorem door_met (os : Os) (args : Array Value) : laidMetH Tryd.prog Rows.resolveStructsRow.laid ((World.doorLaid Tryd.prog 600 os).forCall (fun _ _ => 0) ⟨#[], args, []⟩).memory :=
  laidMetH_of_parts3 (fuel := 8) (laidMet_of_run' 8 (by kernel_rfl) (by kernel_rfl)) (by kernel_rfl) (by kernel_rfl)
set_option maxRecDepth 100000 in
set_option maxHeartbeats 1000000 in
theorem reads (os : Os) {H : Type} (enc : TypeId × Value → H) : DataW.whole enc Tryd.prog ((World.doorLaid Tryd.prog 600 os).forCall (fun _ _ => 0) ⟨#[], #[.int .u8 0, .int .u8 0, .int .u8 0, .int .u8 0], []⟩).memory Tryd.f9.params.toList Rows.resolveStructsSpec.vars false (#[.int .u8 0, .int .u8 0, .int .u8 0, .int .u8 0] : Array Value).toList 8 = some ([.lit (.int .u8 0), .lit (.int .u8 0), .lit (.int .u8 0), .lit (.int .u8 0)], [], []) := by kernel_rfl
set_option maxRecDepth 100000 in
set_option maxHeartbeats 1000000 in
theorem lifted (os : Os) (started : os.Started) (H : Type) (enc : TypeId × Value → H) (F : Stop.Interp) :
    ReturnsInHanded {} Tryd.checked os 9 .any ((OpenSpec.ofChange Rows.resolveStructsSpec).preRow enc Tryd.prog Tryd.f9 Rows.resolveStructsRow.domain false Rows.resolveStructsRow.laid) (((OpenSpec.ofChange Rows.resolveStructsSpec).at F).post enc Tryd.prog Tryd.f9 false true false false) := by
  refine returnsInHanded_of_row (C := Tryd.checked) (s := (OpenSpec.ofChange Rows.resolveStructsSpec)) own started (by kernel_rfl) Tryd.func9
    (witness_row_atRef (enc := enc) (C := Tryd.checked) false (World.doorLaid Tryd.prog 600 os) #[.int .u8 0, .int .u8 0, .int .u8 0, .int .u8 0] rfl (by kernel_rfl) (by kernel_rfl) (by kernel_rfl)
      (OpenSpec.preRow_of_cond 8 (reads os enc) (by kernel_rfl) (fun k hk => by cases hk) (by kernel_rfl) (door_met os _))) ?_
  intro W base args ds gs before hval0 hW _ hcond _ hL _ _
  have hval : ∀ (j : Nat) t v, Tryd.f9.params[j]? = some t → args[j]? = some v → Value.okWide Tryd.prog W .any base t v := hval0
  have hW' := hW
  obtain ⟨p, q, hA0, hV, rfl, hfz, hnd⟩ := hW
  have hA : DataW.TrodAll enc Tryd.prog W 0 (fun _ => true) true Tryd.f9.params.toList args.toList ds p := hA0
  rw [Tryd.params9] at hA hval
  obtain ⟨v0, vs0, d0, ds0, p0, q0, hargs, rfl, rfl, h0, r0⟩ := trodAll_cons hA
  obtain ⟨v1, vs1, d1, ds1, p1, q1, rfl, rfl, rfl, h1, r1⟩ := trodAll_cons r0
  obtain ⟨v2, vs2, d2, ds2, p2, q2, rfl, rfl, rfl, h2, r2⟩ := trodAll_cons r1
  obtain ⟨v3, vs3, d3, ds3, p3, q3, rfl, rfl, rfl, h3, r3⟩ := trodAll_cons r2
  obtain ⟨rfl, rfl, rfl⟩ := trodAll_nil r3
  obtain rfl : args = #[v0, v1, v2, v3] := by cases args; simp_all
  obtain ⟨rfl, rfl⟩ := trodVars_none hV
  have k0 := h0
  have lt0 : ∀ x ∈ p0, x.block < W.heap.size := by obtain ⟨m, hm⟩ := k0; exact DataW.trod_lt m _ _ _ hm
  obtain ⟨a0, rfl, _, _, w0⟩ := open_int Tryd.underlying5 (hval 0 5 v0 rfl rfl) h0
  have k1 := h1
  have lt1 : ∀ x ∈ p1, x.block < W.heap.size := by obtain ⟨m, hm⟩ := k1; exact DataW.trod_lt m _ _ _ hm
  obtain ⟨a1, rfl, _, _, w1⟩ := open_int Tryd.underlying5 (hval 1 5 v1 rfl rfl) h1
  have k2 := h2
  have lt2 : ∀ x ∈ p2, x.block < W.heap.size := by obtain ⟨m, hm⟩ := k2; exact DataW.trod_lt m _ _ _ hm
  obtain ⟨a2, rfl, _, _, w2⟩ := open_int Tryd.underlying5 (hval 2 5 v2 rfl rfl) h2
  have k3 := h3
  have lt3 : ∀ x ∈ p3, x.block < W.heap.size := by obtain ⟨m, hm⟩ := k3; exact DataW.trod_lt m _ _ _ hm
  obtain ⟨a3, rfl, _, _, w3⟩ := open_int Tryd.underlying5 (hval 3 5 v3 rfl rfl) h3
  have hG : Glob true W := ⟨dec_of_laid hL (by first | exact List.mem_cons_self | (exact List.mem_cons_of_mem _ List.mem_cons_self)), fun _ => bits_of_laid hL rfl⟩
  obtain ⟨k, hp⟩ := ResolveStructs_pure a0 (bounds_u8 w0) a1 (bounds_u8 w1) a2 (bounds_u8 w2) a3 (bounds_u8 w3)
  refine (capnplaw08_ResolveStructs.calls k a0 a1 a2 a3 true W hG  hp).mono fun e W' ⟨he, bel⟩ => ?_
  subst he
  exact ⟨_, rfl, _, _, _, [], _, [], hW', trodAll_mk1 (shut_bool Tryd.underlying4 _), (trodAll_cons_mk (Below.trod laidOut (by kernel_rfl) (of_decide_eq_true (by kernel_rfl)) k0 bel lt0) (trodAll_cons_mk (Below.trod laidOut (by kernel_rfl) (of_decide_eq_true (by kernel_rfl)) k1 bel lt1) (trodAll_cons_mk (Below.trod laidOut (by kernel_rfl) (of_decide_eq_true (by kernel_rfl)) k2 bel lt2) (trodAll_cons_mk (Below.trod laidOut (by kernel_rfl) (of_decide_eq_true (by kernel_rfl)) k3 bel lt3) trodAll_mk0)))), rfl, bel.frame _, fun h => by cases h⟩
theorem over : Rows.resolveStructsRow.holds Tryd.pinned (OpenSpec.ofChange Rows.resolveStructsSpec) :=
  OpenClaim.holds_of_cond 9 Tryd.f9 rfl rfl rfl rfl rfl rfl rfl ⟨rfl, rfl, rfl, rfl, rfl⟩ rfl rfl rfl rfl rfl (by kernel_rfl) Tryd.func9 (by kernel_rfl)
    (of_decide_eq_true (by kernel_rfl)) (by unfold Func.isWrapper; first | (rw [if_pos (by decide +kernel)]; kernel_rfl) | (rw [if_neg (by decide +kernel)]; exact ⟨rfl, rfl⟩))
    (fun os started H enc _ F => by rw [OpenClaim.pre_eq_preRow]; exact lifted os started H enc F)
theorem card_holds : Rows.ResolveStructsCardSaid :=
  Claim7.holds_tied_plain_at .later [] [.funcs, .data] true (true, "0407ccd01fd84b1ba019f912a12938fec7519b4bc3503758b1d06eee7da07cad") false
    over (fun _ h => by cases h) (by kernel_rfl) (fun _ h => by cases h) resolveStructs_row_tie rfl ⟨rfl, rfl⟩ (by kernel_rfl) rfl
    (fun f fn hf hfn => by
      obtain rfl : f = 9 := Option.some.inj ((show Tryd.prog.funcNamed "capnp/capnplaw08.ResolveStructs" = some 9 by kernel_rfl).symm.trans hf) |>.symm
      obtain rfl : fn = Tryd.f9 := (Option.some.inj (Tryd.func9.symm.trans hfn)).symm
      exact ⟨by kernel_rfl, fun j t ht => by
        rw [Tryd.params9] at ht
        have hm : t ∈ [5, 5, 5, 5] := by simpa using Array.mem_of_getElem? ht
        have hall : ([5, 5, 5, 5].all fun u => !Tryd.prog.wantsStandIn u) = true := by kernel_rfl
        exact (show Tryd.prog.wantsStandIn t = false by simpa using List.all_eq_true.1 hall t hm)⟩)
    (by kernel_rfl)
#print axioms card_holds
end Go.Proofs.YtcjhejopcghgnaaDoor.resolveStructs
namespace Go.Proofs.YtcjhejopcghgnaaDoor
theorem resolveStructs_holds : Go.Proofs.YtcjhejopcghgnaaDoor.Rows.ResolveStructsCardSaid := resolveStructs.card_holds
end Go.Proofs.YtcjhejopcghgnaaDoor
