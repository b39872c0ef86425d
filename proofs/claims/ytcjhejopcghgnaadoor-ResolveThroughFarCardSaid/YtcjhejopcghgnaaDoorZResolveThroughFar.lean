/- This text proves that the law ResolveThroughFar of the given program returns true on every input that its statement covers, as the statement says it. Its conditions are the statement's own. -/
import Derived.Test.YtcjhejopcghgnaaDoorBR83
import Derived.Test.YtcjhejopcghgnaaDoorBR82
import Derived.Test.YtcjhejopcghgnaaDoorBR81
import Derived.Test.YtcjhejopcghgnaaDoorRows
import Derived.Test.YtcjhejopcghgnaaDoorCards
import Derived.Test.YtcjhejopcghgnaaDoorTie
import Derived.WalkKit
import Derived.ProofKit
import Derived.OpenShut
import Derived.ChangeOld
import Derived.SizedLaws
import Derived.SevenTiedAt
import Derived.Deep.DeepHandedRow
import Derived.Deep.DeepWitnessRowRef
set_option linter.unusedVariables false
set_option linter.unusedSimpArgs false
namespace Go.Proofs.YtcjhejopcghgnaaDoor.P
open Go.RowKit Go.Proofs.YtcjhejopcghgnaaDoorW.PrintWords Go.Proofs.YtcjhejopcghgnaaDoorW.PrintLast Go.Proofs.YtcjhejopcghgnaaDoorW.PrintMore
theorem rd_app_left {l m : List (List Int)} {i : Int} (h0 : 0 ≤ i) (h : i < l.length) : rd_L5 (l ++ m) i = rd_L5 l i := by
  unfold rd_L5
  rw [List.getD_eq_getElem?_getD, List.getD_eq_getElem?_getD, List.getElem?_append_left (by omega)]
theorem rd_app_last {l : List (List Int)} {y : List Int} {i : Int} (h : i = l.length) : rd_L5 (l ++ [y]) i = y := by
  unfold rd_L5
  rw [List.getD_eq_getElem?_getD, List.getElem?_append_right (by omega), show i.toNat - l.length = 0 by omega]
  rfl
theorem rd_cons {l : List (List Int)} {y : List Int} : rd_L5 (y :: l) 0 = y := rfl
theorem Segs.app {l : List (List Int)} {y : List Int} (h : Segs l) (hl : l.length < 1000000) (hy : Words y) : Segs (l ++ [y]) := by
  refine ⟨by simp; omega, fun s hs => ?_⟩
  rcases List.mem_append.1 hs with hs | hs
  · exact h.2 s hs
  · rw [List.mem_singleton.1 hs]; exact hy
theorem Segs.cons {l : List (List Int)} {y : List Int} (h : Segs l) (hl : l.length < 1000000) (hy : Words y) : Segs (y :: l) := by
  refine ⟨by simp; omega, fun s hs => ?_⟩
  rcases List.mem_cons.1 hs with hs | hs
  · rw [hs]; exact hy
  · exact h.2 s hs
theorem far_word {b : Bool} {pd sg : Int} (h1 : 0 ≤ pd ∧ pd ≤ 536870911) (h2 : 0 ≤ sg ∧ sg ≤ 4294967295) : vldP (2, 0, 0, 0, 0, 0, b, pd, sg, 0) := by
  exact .inr (.inr (.inl ⟨rfl, rfl, rfl, rfl, rfl, rfl, h1.1, h1.2, h2.1, h2.2, rfl⟩))
/-- The parts of a far word. -/
theorem far_parts {b : Bool} {pd sg : Int} (h1 : 0 ≤ pd ∧ pd ≤ 536870911) (h2 : 0 ≤ sg ∧ sg ≤ 4294967295) {x : Int} (hx : x = pakI (2, 0, 0, 0, 0, 0, b, pd, sg, 0)) : x % 4 = 2 ∧ x / 4 % 2 = (if b then 1 else 0) ∧ x / 4294967296 = sg ∧ x / 8 % 536870912 = pd := by
  subst hx
  unfold pakI
  simp only [show ¬ ((2 : Int) = 0) by decide, show ¬ ((2 : Int) = 1) by decide, if_false, if_true]
  cases b <;> simp only [Bool.false_eq_true, if_false, if_true] <;> omega
theorem Words.of {xs : List Int} (hl : xs.length ≤ 1000) (h : ∀ x ∈ xs, 0 ≤ x ∧ x < 18446744073709551616) : Words xs := ⟨by omega, fun x hx => by have := h x hx; omega⟩
end Go.Proofs.YtcjhejopcghgnaaDoor.P

namespace Go.Proofs.YtcjhejopcghgnaaDoor.P
open Go.RowKit Go.Proofs.YtcjhejopcghgnaaDoorW.PrintWords Go.Proofs.YtcjhejopcghgnaaDoorW.PrintLast Go.Proofs.YtcjhejopcghgnaaDoorW.PrintMore
attribute [local go_sem] max2_int min2_int max_two min_two max_three min_three max_four min_four   -- for this text's walks alone
set_option linter.unusedVariables false
set_option linter.unusedSimpArgs false

variable {gb : Bool}
theorem eqA46 (d : Nat) (w : World) (x0 y0 : Int) (x1 y1 : Int) (x2 y2 : Int) (x3 y3 : Int) (x4 y4 : Int) (x5 y5 : Int) (x6 y6 : Int) (x7 y7 : Int) :
    (Op.equalIn (d + 2) 46 (.agg #[.int .i64 x0, .int .i64 x1, .int .i64 x2, .int .i64 x3, .int .i64 x4, .int .i64 x5, .int .i64 x6, .int .i64 x7]) (.agg #[.int .i64 y0, .int .i64 y1, .int .i64 y2, .int .i64 y3, .int .i64 y4, .int .i64 y5, .int .i64 y6, .int .i64 y7])).run Tryd.prog w = .ok (x0 == y0 && (x1 == y1 && (x2 == y2 && (x3 == y3 && (x4 == y4 && (x5 == y5 && (x6 == y6 && (x7 == y7)))))))) w := by
  refine eqA_of Tryd.underlying46 (by kernel_rfl) ?_
  refine eqf_cons (by rfl) (by go_simp; rfl) (by go_simp; rfl) (by go_simp) ?_
  refine eqf_cons (by rfl) (by go_simp; rfl) (by go_simp; rfl) (by go_simp) ?_
  refine eqf_cons (by rfl) (by go_simp; rfl) (by go_simp; rfl) (by go_simp) ?_
  refine eqf_cons (by rfl) (by go_simp; rfl) (by go_simp; rfl) (by go_simp) ?_
  refine eqf_cons (by rfl) (by go_simp; rfl) (by go_simp; rfl) (by go_simp) ?_
  refine eqf_cons (by rfl) (by go_simp; rfl) (by go_simp; rfl) (by go_simp) ?_
  refine eqf_cons (by rfl) (by go_simp; rfl) (by go_simp; rfl) (by go_simp) ?_
  exact eqf_last (by rfl) (by go_simp; rfl) (by go_simp; rfl) (by go_simp)
end Go.Proofs.YtcjhejopcghgnaaDoor.P

namespace Go.Proofs.YtcjhejopcghgnaaDoor.P
open Go.RowKit Go.Proofs.YtcjhejopcghgnaaDoorW.PrintWords Go.Proofs.YtcjhejopcghgnaaDoorW.PrintLast Go.Proofs.YtcjhejopcghgnaaDoorW.PrintMore
attribute [local go_sem] max2_int min2_int max_two min_two max_three min_three max_four min_four   -- for this text's walks alone
set_option linter.unusedVariables false
set_option linter.unusedSimpArgs false

variable {gb : Bool}
attribute [local go_sem high] eqA46
/-! ### capnplaw08_ResolveThroughFar: function 10 -/
mutual
def capnplaw08_ResolveThroughFar.j0 : Nat → List (List Int) → Int → Int → Bool → Option (Bool)
  | 0, _, _, _, _ => none
  | k + 1, x0, x1, x2, x24 => if x24 = true then ((capnplaw08_awake.f).bind fun t599 => (some t599)) else (if (x0.length : Int) = 0 then (none) else (if 0 ≤ (Int.tmod (wrap64 (x1)) (x0.length : Int)) then (if (Int.tmod (wrap64 (x1)) (x0.length : Int)) < (x0.length : Int) then (if (wrap64 (x2)) ≥ ((rd_L5 x0 (Int.tmod (wrap64 (x1)) (x0.length : Int))).length : Int) then (capnplaw08_ResolveThroughFar.j1 k x0 x2 (Int.tmod (wrap64 (x1)) (x0.length : Int)) true) else (if 0 ≤ x2 then (if x2 < ((rd_L5 x0 (Int.tmod (wrap64 (x1)) (x0.length : Int))).length : Int) then (capnplaw08_ResolveThroughFar.j1 k x0 x2 (Int.tmod (wrap64 (x1)) (x0.length : Int)) ((Int.tmod (rd (rd_L5 x0 (Int.tmod (wrap64 (x1)) (x0.length : Int))) x2) 4) == 2)) else (none)) else (none))) else (none)) else (none)))
def capnplaw08_ResolveThroughFar.j1 : Nat → List (List Int) → Int → Int → Bool → Option (Bool)
  | 0, _, _, _, _ => none
  | k + 1, x0, x2, x7, x49 => if x49 = true then (some true) else ((some (([] : List (List Int)) : List (List Int))).bind fun y603 => (if y603.length + x0.length < 5864062014805 then ((some (y603 ++ x0 : List (List Int))).bind fun y606 => ((capnplaw08_word.f k 2 0 0 0 0 0 false (wrap64 (x2)) ((x7) % 4294967296) 0).bind fun t609 => (if y606.length < 5864062014805 then ((some (y606 ++ [(([t609] : List Int))] : List (List Int))).bind fun y613 => ((resolve_Object.f k y613 x7 (wrap64 (x2))).bind fun bt616 => ((resolve_Object.f k y613 (x0.length : Int) 0).bind fun bt626 => (if (bt616.1 == bt626.1 && (bt616.2.1 == bt626.2.1 && (bt616.2.2.1 == bt626.2.2.1 && (bt616.2.2.2.1 == bt626.2.2.2.1 && (bt616.2.2.2.2.1 == bt626.2.2.2.2.1 && (bt616.2.2.2.2.2.1 == bt626.2.2.2.2.2.1 && (bt616.2.2.2.2.2.2.1 == bt626.2.2.2.2.2.2.1 && (bt616.2.2.2.2.2.2.2.1 == bt626.2.2.2.2.2.2.2.1)))))))) = true then (some (bt616.2.2.2.2.2.2.2.2 == bt626.2.2.2.2.2.2.2.2)) else (some false))))) else (none)))) else (none)))
end
def capnplaw08_ResolveThroughFar.f (k : Nat) (l0 : List (List Int)) (a1 a2 : Int) : Option (Bool) := (capnplaw08_awake.f).bind fun t597 => (if t597 = true then ((capnpref04_Few.f k l0).bind fun t598 => (if t598 = true then (capnplaw08_ResolveThroughFar.j0 k l0 a1 a2 ((l0.length : Int) == 0)) else (capnplaw08_ResolveThroughFar.j0 k l0 a1 a2 true))) else (capnplaw08_ResolveThroughFar.j0 k l0 a1 a2 true))
theorem capnplaw08_ResolveThroughFar.mono_l : ∀ k, (∀ y0 y1 y2 y3, LeO (capnplaw08_ResolveThroughFar.j0 k y0 y1 y2 y3) (capnplaw08_ResolveThroughFar.j0 (k + 1) y0 y1 y2 y3)) ∧ (∀ y0 y1 y2 y3, LeO (capnplaw08_ResolveThroughFar.j1 k y0 y1 y2 y3) (capnplaw08_ResolveThroughFar.j1 (k + 1) y0 y1 y2 y3))
  | 0 => ⟨fun _ _ _ _ r h => by simp [capnplaw08_ResolveThroughFar.j0] at h, fun _ _ _ _ r h => by simp [capnplaw08_ResolveThroughFar.j1] at h⟩
  | k + 1 => by
    obtain ⟨ih0, ih1⟩ := capnplaw08_ResolveThroughFar.mono_l k
    refine ⟨?_, ?_⟩
    · intro y0 y1 y2 y3
      unfold capnplaw08_ResolveThroughFar.j0
      repeat' first
      | (with_reducible apply ih1)
      | (with_reducible exact LeO.refl _)
      | (with_reducible refine LeO.ite ?_ ?_)
    · intro y0 y1 y2 y3
      unfold capnplaw08_ResolveThroughFar.j1
      repeat' first
      | (with_reducible apply capnplaw08_word.mono)
      | (with_reducible apply resolve_Object.mono)
      | (with_reducible exact LeO.refl _)
      | (with_reducible refine LeO.ite ?_ ?_)
      | (with_reducible refine LeO.bind ?_ (fun _ => ?_))
theorem capnplaw08_ResolveThroughFar.mono : ∀ a0 a1 a2 k, LeO (capnplaw08_ResolveThroughFar.f k a0 a1 a2) (capnplaw08_ResolveThroughFar.f (k + 1) a0 a1 a2) := by
  intro a0 a1 a2 k
  obtain ⟨ih0, ih1⟩ := capnplaw08_ResolveThroughFar.mono_l k
  unfold capnplaw08_ResolveThroughFar.f
  repeat' first
      | (with_reducible apply ih0)
      | (with_reducible apply capnpref04_Few.mono)
      | (with_reducible exact LeO.refl _)
      | (with_reducible refine LeO.ite ?_ ?_)
      | (with_reducible refine LeO.bind ?_ (fun _ => ?_))
set_option maxHeartbeats 8000000 in
set_option maxRecDepth 100000 in
theorem capnplaw08_ResolveThroughFar.calls (k : Nat) (P0_ : Nat → Prop) (A0 : Option Addr) (c0 : Nat) (l0 : List (List Int)) (a1 a2 : Int) (r : Bool) (w : World) (hG : Glob true w) (hs0 : Kd.V (Kd.slice 23 (Kd.int .u64)) 40 w w.heap.size (fun k_ => P0_ k_) (.slice A0 l0.length c0) l0) (h : capnplaw08_ResolveThroughFar.f k l0 a1 a2 = some r) :
    Calls Tryd.prog 10 #[.slice A0 l0.length c0, .int .u8 a1, .int .u16 a2] w fun e w' => e = .returned (.bool r) ∧ Below w.heap.size w w' := by
  have HG := Aside0.mk hG
  clear hG
  have HO0 := Aside0.mk (show Kd.V (Kd.slice 23 (Kd.int .u64)) 40 w w.heap.size (fun k_ => (P0_ k_ ∨ w.heap.size ≤ k_)) (.slice A0 l0.length c0) l0 from Kd.V_mono hs0 (fun k_ hk => .inl hk))
  have HB := Aside0.mk (Below.refl w.heap.size w)
  have H := h
  unfold capnplaw08_ResolveThroughFar.f at H
  clear h
  have HC4 := Aside0.mk H
  clear H
  go_enter Tryd.func10, Tryd.ntmps10
  go_upto_region 1 with (fail)
  go_cut [24] (fun v24 wc => ∃ (kq : Nat) (x24_3 : Bool), v24 = .bool x24_3 ∧ Aside0 (capnplaw08_ResolveThroughFar.j0 kq l0 a1 a2 x24_3 = some r) ∧ Aside0 (kq ≤ k) ∧ Aside0 (Kd.V (Kd.slice 23 (Kd.int .u64)) 40 wc w.heap.size (fun k_ => (P0_ k_ ∨ w.heap.size ≤ k_)) (.slice A0 l0.length c0) l0) ∧ Aside0 (Below w.heap.size w wc))
  case first =>
    have H := HC4.out
    clear HC4
    replace H := Option.bind_eq_some_iff.mp H
    obtain ⟨t597, A50, H⟩ := H
    have A5 := Aside0.mk A50
    clear A50
    by_cases c6 : t597 = true
    · subst c6
      have H1 : ((capnpref04_Few.f k l0).bind fun t598 => (if t598 = true then (capnplaw08_ResolveThroughFar.j0 k l0 a1 a2 ((l0.length : Int) == 0)) else (capnplaw08_ResolveThroughFar.j0 k l0 a1 a2 true))) = some r := by rw [if_pos rfl] at H; exact H
      clear H
      have H := H1
      clear H1
      replace H := Option.bind_eq_some_iff.mp H
      obtain ⟨t598, A70, H⟩ := H
      replace H : (if t598 = true then (capnplaw08_ResolveThroughFar.j0 k l0 a1 a2 ((l0.length : Int) == 0)) else (capnplaw08_ResolveThroughFar.j0 k l0 a1 a2 true)) = some r := H
      have A7 := Aside0.mk A70
      clear A70
      by_cases c8 : t598 = true
      · subst c8
        have H1 : (capnplaw08_ResolveThroughFar.j0 k l0 a1 a2 ((l0.length : Int) == 0)) = some r := by rw [if_pos rfl] at H; exact H
        clear H
        have H := H1
        clear H1
        have H' := Aside0.mk H
        clear H
        go_wp2_with (first | ((with_reducible refine gate_callee (f := 23) rfl ?_); refine goesL_ (some 13) rfl rfl Tryd.func23 (by kernel_rfl) rfl #[] rfl (by (try simp only [List.map_toArray, List.map_cons, List.map_nil]); done) ?_; (with_reducible refine (capnplaw08_awake.calls  true _ ?side1 A5.out).mono ?_); (case side1 => exact Glob.below HG.out HB.out); rintro e w9 ⟨rfl, hb⟩; refine ⟨_, rfl, ?_⟩; replace HO0 := Aside0.mk (Kd.V_below HO0.out hb); replace HB := Aside0.mk (below_step HB.out hb); (try clear hb)) | (go_at_call 13; (with_reducible refine (capnpref04_Few.calls k _ _ l0 true _ ?side1 ?side2 A7.out).mono ?_); (case side1 => repeat ((exact (Kd.V_reads' HO0.out).2.2))); (case side2 => exact (Kd.V_reads' HO0.out).2.1); rintro e w' ⟨rfl, ⟨nd, rfl⟩⟩))
        go_meet
        case rel => exact ⟨_, (((l0.length : Int) == 0)), (by rfl), H', ⟨by omega⟩, ⟨by (with_reducible repeat (apply Kd.V_drewN)); exact HO0.out⟩, ⟨by repeat ((with_reducible first | exact HB.out | apply pw_below_drewN))⟩⟩
      · replace c8 := Bool.eq_false_iff.mpr c8
        subst c8
        have H1 : (capnplaw08_ResolveThroughFar.j0 k l0 a1 a2 true) = some r := by rw [if_neg (show ¬ (false = true) by decide)] at H; exact H
        clear H
        have H := H1
        clear H1
        have H' := Aside0.mk H
        clear H
        go_wp2_with (first | ((with_reducible refine gate_callee (f := 23) rfl ?_); refine goesL_ (some 13) rfl rfl Tryd.func23 (by kernel_rfl) rfl #[] rfl (by (try simp only [List.map_toArray, List.map_cons, List.map_nil]); done) ?_; (with_reducible refine (capnplaw08_awake.calls  true _ ?side1 A5.out).mono ?_); (case side1 => exact Glob.below HG.out HB.out); rintro e w10 ⟨rfl, hb⟩; refine ⟨_, rfl, ?_⟩; replace HO0 := Aside0.mk (Kd.V_below HO0.out hb); replace HB := Aside0.mk (below_step HB.out hb); (try clear hb)) | (go_at_call 13; (with_reducible refine (capnpref04_Few.calls k _ _ l0 false _ ?side1 ?side2 A7.out).mono ?_); (case side1 => repeat ((exact (Kd.V_reads' HO0.out).2.2))); (case side2 => exact (Kd.V_reads' HO0.out).2.1); rintro e w' ⟨rfl, ⟨nd, rfl⟩⟩))
        go_meet
        case rel => exact ⟨_, (true), (by rfl), H', ⟨by omega⟩, ⟨by (with_reducible repeat (apply Kd.V_drewN)); exact HO0.out⟩, ⟨by repeat ((with_reducible first | exact HB.out | apply pw_below_drewN))⟩⟩
    · replace c6 := Bool.eq_false_iff.mpr c6
      subst c6
      have H1 : (capnplaw08_ResolveThroughFar.j0 k l0 a1 a2 true) = some r := by rw [if_neg (show ¬ (false = true) by decide)] at H; exact H
      clear H
      have H := H1
      clear H1
      have H' := Aside0.mk H
      clear H
      go_wp2_with (((with_reducible refine gate_callee (f := 23) rfl ?_); refine goesL_ (some 13) rfl rfl Tryd.func23 (by kernel_rfl) rfl #[] rfl (by (try simp only [List.map_toArray, List.map_cons, List.map_nil]); done) ?_; (with_reducible refine (capnplaw08_awake.calls  false _ ?side1 A5.out).mono ?_); (case side1 => exact Glob.below HG.out HB.out); rintro e w11 ⟨rfl, hb⟩; refine ⟨_, rfl, ?_⟩; replace HO0 := Aside0.mk (Kd.V_below HO0.out hb); replace HB := Aside0.mk (below_step HB.out hb); (try clear hb)))
      go_meet
      case rel => exact ⟨_, (true), (by rfl), H', ⟨by omega⟩, ⟨by exact HO0.out⟩, ⟨by repeat ((with_reducible exact HB.out))⟩⟩
  case rest =>
    clear HC4
    skip
    skip
    skip
    skip
    skip
    skip
    obtain ⟨kq, x24_3, rfl, HA, HJ3, HO_0, HB⟩ := hcut
    cases kq with
    | zero => exact absurd HA.out (by simp [capnplaw08_ResolveThroughFar.j0])
    | succ kj3 =>
      have H := HA.out
      clear HA
      simp only [capnplaw08_ResolveThroughFar.j0] at H
      by_cases c12 : x24_3 = true
      · subst c12
        have H1 : ((capnplaw08_awake.f).bind fun t599 => (some t599)) = some r := by rw [if_pos rfl] at H; exact H
        clear H
        have H := H1
        clear H1
        replace H := Option.bind_eq_some_iff.mp H
        obtain ⟨t599, A130, H⟩ := H
        replace H : (some t599) = some r := H
        have A13 := Aside0.mk A130
        clear A130
        obtain rfl := Option.some.inj H
        go_wp2_with (((with_reducible refine gate_callee (f := 23) rfl ?_); refine goesL_ (some 25) rfl rfl Tryd.func23 (by kernel_rfl) rfl #[] rfl (by (try simp only [List.map_toArray, List.map_cons, List.map_nil]); done) ?_; (with_reducible refine (capnplaw08_awake.calls  t599 _ ?side1 A13.out).mono ?_); (case side1 => exact Glob.below HG.out HB.out); rintro e w14 ⟨rfl, hb⟩; refine ⟨_, rfl, ?_⟩; replace HB := Aside0.mk (below_step HB.out hb); (try clear HO_0); (try clear hb)))
        go_ret
        exact ⟨by rfl, by repeat ((with_reducible exact HB.out))⟩
      · replace c12 := Bool.eq_false_iff.mpr c12
        subst c12
        have H1 : (if (l0.length : Int) = 0 then (none) else (if 0 ≤ (Int.tmod (wrap64 (a1)) (l0.length : Int)) then (if (Int.tmod (wrap64 (a1)) (l0.length : Int)) < (l0.length : Int) then (if (wrap64 (a2)) ≥ ((rd_L5 l0 (Int.tmod (wrap64 (a1)) (l0.length : Int))).length : Int) then (capnplaw08_ResolveThroughFar.j1 kj3 l0 a2 (Int.tmod (wrap64 (a1)) (l0.length : Int)) true) else (if 0 ≤ a2 then (if a2 < ((rd_L5 l0 (Int.tmod (wrap64 (a1)) (l0.length : Int))).length : Int) then (capnplaw08_ResolveThroughFar.j1 kj3 l0 a2 (Int.tmod (wrap64 (a1)) (l0.length : Int)) ((Int.tmod (rd (rd_L5 l0 (Int.tmod (wrap64 (a1)) (l0.length : Int))) a2) 4) == 2)) else (none)) else (none))) else (none)) else (none))) = some r := by rw [if_neg (show ¬ (false = true) by decide)] at H; exact H
        clear H
        have H := H1
        clear H1
        by_cases c15 : (l0.length : Int) = 0
        · rw [if_pos c15] at H
          exact absurd H (by simp)
        · rw [if_neg c15] at H
          have c15b2 : ¬ (l0 = []) := fun h_ => c15 (by rw [h_]; rfl)
          have HC16 := Aside0.mk H
          clear H
          go_upto_region 4 with (fail)
          go_cut [49] (fun v49 wc => ∃ (kq : Nat) (x49_15 : Bool), v49 = .bool x49_15 ∧ Aside0 (capnplaw08_ResolveThroughFar.j1 kq l0 a2 (Int.tmod (wrap64 (a1)) (l0.length : Int)) x49_15 = some r) ∧ Aside0 (kq ≤ kj3) ∧ Aside0 (Kd.V (Kd.slice 23 (Kd.int .u64)) 40 wc w.heap.size (fun k_ => (P0_ k_ ∨ w.heap.size ≤ k_)) (.slice A0 l0.length c0) l0) ∧ Aside0 (Below w.heap.size w wc))
          case first =>
            have H := HC16.out
            clear HC16
            obtain ⟨ji17, hji17⟩ : ∃ j_ : Int, (Int.tmod (wrap64 (a1)) (l0.length : Int)) = j_ := ⟨_, rfl⟩
            replace H : (if 0 ≤ (ji17) then (if (ji17) < (l0.length : Int) then (if (wrap64 (a2)) ≥ ((rd_L5 l0 (ji17)).length : Int) then (capnplaw08_ResolveThroughFar.j1 kj3 l0 a2 ji17 true) else (if 0 ≤ a2 then (if a2 < ((rd_L5 l0 (ji17)).length : Int) then (capnplaw08_ResolveThroughFar.j1 kj3 l0 a2 ji17 ((Int.tmod (rd (rd_L5 l0 (ji17)) a2) 4) == 2)) else (none)) else (none))) else (none)) else (none)) = some r := by (rw [hji17] at H; exact H)
            by_cases c18 : 0 ≤ (ji17)
            · rw [if_pos c18] at H
              have c18b0 : decide (0 ≤ (ji17)) = true := decide_eq_true c18
              clear c18
              (skip)
              by_cases c19 : (ji17) < (l0.length : Int)
              · rw [if_pos c19] at H
                have c19b0 : decide ((ji17) < (l0.length : Int)) = true := decide_eq_true c19
                clear c19
                by_cases c20 : (wrap64 (a2)) ≥ ((rd_L5 l0 (ji17)).length : Int)
                · rw [if_pos c20] at H
                  have c20b0 : decide (((rd_L5 l0 (ji17)).length : Int) ≤ (wrap64 (a2))) = true := decide_eq_true c20
                  clear c20
                  have H' := Aside0.mk H
                  clear H
                  have p600 : 0 ≤ ((ji17) : Int) := of_decide_eq_true (by (with_reducible assumption))
                  have q600 : (ji17) < (l0.length : Int) := of_decide_eq_true (by (with_reducible assumption))
                  obtain ⟨ad600, A600_0, c600_0, e600, hx600_0, hl600_0, hi600_0⟩ := at_L5 (Kd.V_reads' HO_0.out).2.2 (ji17) p600 q600
                  cases e600
                  obtain ⟨ce600, hce600, hMe600, hcc600⟩ := Kd.V_get HO_0.out [] (ji17) p600 q600
                  obtain ⟨ua600_0, uc600_0, rfl, ul600_0, ge600_0⟩ := Kd.FK_slice_open hMe600
                  have hv600_0 := hcc600 0 _ rfl
                  rw [Nat.add_zero, show ((Kd.slice 23 (Kd.int .u64))).sz = 1 from rfl, Nat.mul_one] at hv600_0
                  replace hv600_0 := Option.some.inj (hv600_0.symm.trans hx600_0)
                  injection hv600_0 with hva_ hvn_ hvc_
                  rw [hva_] at ge600_0
                  rw [hvc_] at ul600_0
                  have HL600_0 := Aside0.mk (show Kd.V (Kd.int .u64) 23 _ w.heap.size _ _ (rd_L5 l0 (ji17)) from Kd.V_mk ul600_0 ge600_0)
                  clear hva_ hvn_ hvc_ ge600_0 ul600_0
                  clear hcc600 hce600
                  have HR600_0 := Aside0.mk hi600_0
                  have HC600_0 := Aside0.mk hl600_0
                  clear hi600_0 hl600_0
                  replace p600 := eq_true p600
                  replace q600 := eq_true q600
                  go_wp2
                  try subst hji17
                  go_meet
                  case rel => exact ⟨_, (true), (by rfl), H', ⟨by omega⟩, ⟨by exact HO_0.out⟩, ⟨by repeat ((with_reducible exact HB.out))⟩⟩
                · rw [if_neg c20] at H
                  have c20b0 : decide (((rd_L5 l0 (ji17)).length : Int) ≤ (wrap64 (a2))) = false := decide_eq_false c20
                  clear c20
                  by_cases c21 : 0 ≤ a2
                  · rw [if_pos c21] at H
                    have c21b0 : decide (0 ≤ a2) = true := decide_eq_true c21
                    clear c21
                    by_cases c22 : a2 < ((rd_L5 l0 (ji17)).length : Int)
                    · rw [if_pos c22] at H
                      have c22b0 : decide (a2 < ((rd_L5 l0 (ji17)).length : Int)) = true := decide_eq_true c22
                      clear c22
                      have H' := Aside0.mk H
                      clear H
                      have p600 : 0 ≤ ((ji17) : Int) := of_decide_eq_true (by (with_reducible assumption))
                      have q600 : (ji17) < (l0.length : Int) := of_decide_eq_true (by (with_reducible assumption))
                      obtain ⟨ad600, A600_0, c600_0, e600, hx600_0, hl600_0, hi600_0⟩ := at_L5 (Kd.V_reads' HO_0.out).2.2 (ji17) p600 q600
                      cases e600
                      obtain ⟨ce600, hce600, hMe600, hcc600⟩ := Kd.V_get HO_0.out [] (ji17) p600 q600
                      obtain ⟨ua600_0, uc600_0, rfl, ul600_0, ge600_0⟩ := Kd.FK_slice_open hMe600
                      have hv600_0 := hcc600 0 _ rfl
                      rw [Nat.add_zero, show ((Kd.slice 23 (Kd.int .u64))).sz = 1 from rfl, Nat.mul_one] at hv600_0
                      replace hv600_0 := Option.some.inj (hv600_0.symm.trans hx600_0)
                      injection hv600_0 with hva_ hvn_ hvc_
                      rw [hva_] at ge600_0
                      rw [hvc_] at ul600_0
                      have HL600_0 := Aside0.mk (show Kd.V (Kd.int .u64) 23 _ w.heap.size _ _ (rd_L5 l0 (ji17)) from Kd.V_mk ul600_0 ge600_0)
                      clear hva_ hvn_ hvc_ ge600_0 ul600_0
                      clear hcc600 hce600
                      have HR600_0 := Aside0.mk hi600_0
                      have HC600_0 := Aside0.mk hl600_0
                      clear hi600_0 hl600_0
                      replace p600 := eq_true p600
                      replace q600 := eq_true q600
                      have p601 : 0 ≤ ((ji17) : Int) := of_decide_eq_true (by (with_reducible assumption))
                      have q601 : (ji17) < (l0.length : Int) := of_decide_eq_true (by (with_reducible assumption))
                      obtain ⟨ad601, A601_0, c601_0, e601, hx601_0, hl601_0, hi601_0⟩ := at_L5 (Kd.V_reads' HO_0.out).2.2 (ji17) p601 q601
                      obtain rfl : ad600 = ad601 := (by injection e601)
                      obtain ⟨ce601, hce601, hMe601, hcc601⟩ := Kd.V_get HO_0.out [] (ji17) p601 q601
                      obtain ⟨ua601_0, uc601_0, rfl, ul601_0, ge601_0⟩ := Kd.FK_slice_open hMe601
                      have hv601_0 := hcc601 0 _ rfl
                      rw [Nat.add_zero, show ((Kd.slice 23 (Kd.int .u64))).sz = 1 from rfl, Nat.mul_one] at hv601_0
                      replace hv601_0 := Option.some.inj (hv601_0.symm.trans hx601_0)
                      injection hv601_0 with hva_ hvn_ hvc_
                      rw [hva_] at ge601_0
                      rw [hvc_] at ul601_0
                      have HL601_0 := Aside0.mk (show Kd.V (Kd.int .u64) 23 _ w.heap.size _ _ (rd_L5 l0 (ji17)) from Kd.V_mk ul601_0 ge601_0)
                      clear hva_ hvn_ hvc_ ge601_0 ul601_0
                      clear hcc601 hce601
                      have HR601_0 := Aside0.mk hi601_0
                      have HC601_0 := Aside0.mk hl601_0
                      clear hi601_0 hl601_0
                      replace p601 := eq_true p601
                      replace q601 := eq_true q601
                      have ea_ := Option.some.inj (hx600_0.symm.trans hx601_0)
                      injection ea_ with ea_ en_ ec_
                      subst ea_
                      subst ec_
                      clear en_
                      have p602 : 0 ≤ (a2 : Int) := of_decide_eq_true (by (with_reducible assumption))
                      have q602 : a2 < ((rd_L5 l0 (ji17)).length : Int) := of_decide_eq_true (by (with_reducible assumption))
                      obtain ⟨ad602, e602, hx602_0⟩ := Kd.at_int (by repeat ((with_reducible exact HR601_0.out))) a2 p602 q602
                      cases e602
                      replace p602 := eq_true p602
                      replace q602 := eq_true q602
                      go_wp2
                      try subst hji17
                      go_meet
                      case rel => exact ⟨_, (((Int.tmod (rd (rd_L5 l0 ((Int.tmod (wrap64 (a1)) (l0.length : Int)))) a2) 4) == 2)), (by rfl), H', ⟨by omega⟩, ⟨by exact HO_0.out⟩, ⟨by repeat ((with_reducible exact HB.out))⟩⟩
                    · rw [if_neg c22] at H
                      exact absurd H (by simp)
                  · rw [if_neg c21] at H
                    exact absurd H (by simp)
              · rw [if_neg c19] at H
                exact absurd H (by simp)
            · rw [if_neg c18] at H
              exact absurd H (by simp)
          case rest =>
            clear HC16
            skip
            skip
            skip
            skip
            skip
            skip
            skip
            skip
            skip
            skip
            try clear c15
            try clear c15b0
            try clear c15b1
            try clear c15b2
            skip
            skip
            skip
            skip
            skip
            skip
            skip
            skip
            skip
            skip
            skip
            skip
            skip
            skip
            skip
            skip
            skip
            skip
            skip
            skip
            obtain ⟨kq, x49_15, rfl, HA, HJ15, HO_0, HB⟩ := hcut
            cases kq with
            | zero => exact absurd HA.out (by simp [capnplaw08_ResolveThroughFar.j1])
            | succ kj15 =>
              have H := HA.out
              clear HA
              simp only [capnplaw08_ResolveThroughFar.j1] at H
              by_cases c23 : x49_15 = true
              · subst c23
                have H1 : (some true) = some r := by rw [if_pos rfl] at H; exact H
                clear H
                have H := H1
                clear H1
                obtain rfl := Option.some.inj H
                go_wp2
                go_ret
                exact ⟨by rfl, by repeat ((with_reducible exact HB.out))⟩
              · replace c23 := Bool.eq_false_iff.mpr c23
                subst c23
                have H1 : ((some (([] : List (List Int)) : List (List Int))).bind fun y603 => (if y603.length + l0.length < 5864062014805 then ((some (y603 ++ l0 : List (List Int))).bind fun y606 => ((capnplaw08_word.f kj15 2 0 0 0 0 0 false (wrap64 (a2)) (((Int.tmod (wrap64 (a1)) (l0.length : Int))) % 4294967296) 0).bind fun t609 => (if y606.length < 5864062014805 then ((some (y606 ++ [(([t609] : List Int))] : List (List Int))).bind fun y613 => ((resolve_Object.f kj15 y613 (Int.tmod (wrap64 (a1)) (l0.length : Int)) (wrap64 (a2))).bind fun bt616 => ((resolve_Object.f kj15 y613 (l0.length : Int) 0).bind fun bt626 => (if (bt616.1 == bt626.1 && (bt616.2.1 == bt626.2.1 && (bt616.2.2.1 == bt626.2.2.1 && (bt616.2.2.2.1 == bt626.2.2.2.1 && (bt616.2.2.2.2.1 == bt626.2.2.2.2.1 && (bt616.2.2.2.2.2.1 == bt626.2.2.2.2.2.1 && (bt616.2.2.2.2.2.2.1 == bt626.2.2.2.2.2.2.1 && (bt616.2.2.2.2.2.2.2.1 == bt626.2.2.2.2.2.2.2.1)))))))) = true then (some (bt616.2.2.2.2.2.2.2.2 == bt626.2.2.2.2.2.2.2.2)) else (some false))))) else (none)))) else (none))) = some r := by rw [if_neg (show ¬ (false = true) by decide)] at H; exact H
                clear H
                have H := H1
                clear H1
                obtain ⟨y603, hy603⟩ : ∃ y_ : List (List Int), y_ = (([] : List (List Int))) := ⟨_, rfl⟩
                replace H : (if y603.length + l0.length < 5864062014805 then ((some (y603 ++ l0 : List (List Int))).bind fun y606 => ((capnplaw08_word.f kj15 2 0 0 0 0 0 false (wrap64 (a2)) (((Int.tmod (wrap64 (a1)) (l0.length : Int))) % 4294967296) 0).bind fun t609 => (if y606.length < 5864062014805 then ((some (y606 ++ [(([t609] : List Int))] : List (List Int))).bind fun y613 => ((resolve_Object.f kj15 y613 (Int.tmod (wrap64 (a1)) (l0.length : Int)) (wrap64 (a2))).bind fun bt616 => ((resolve_Object.f kj15 y613 (l0.length : Int) 0).bind fun bt626 => (if (bt616.1 == bt626.1 && (bt616.2.1 == bt626.2.1 && (bt616.2.2.1 == bt626.2.2.1 && (bt616.2.2.2.1 == bt626.2.2.2.1 && (bt616.2.2.2.2.1 == bt626.2.2.2.2.1 && (bt616.2.2.2.2.2.1 == bt626.2.2.2.2.2.1 && (bt616.2.2.2.2.2.2.1 == bt626.2.2.2.2.2.2.1 && (bt616.2.2.2.2.2.2.2.1 == bt626.2.2.2.2.2.2.2.1)))))))) = true then (some (bt616.2.2.2.2.2.2.2.2 == bt626.2.2.2.2.2.2.2.2)) else (some false))))) else (none)))) else (none)) = some r := by (have H2_ := (Option.bind_some _ _).symm.trans H; rw [hy603]; with_reducible exact H2_)
                have Ny603 := Aside0.mk hy603
                clear hy603
                by_cases c24 : y603.length + l0.length < 5864062014805
                · rw [if_pos c24] at H
                  have LMc24 := Aside0.mk c24
                  clear c24
                  obtain ⟨y606, hy606⟩ : ∃ y_ : List (List Int), y_ = (y603 ++ l0) := ⟨_, rfl⟩
                  replace H : ((capnplaw08_word.f kj15 2 0 0 0 0 0 false (wrap64 (a2)) (((Int.tmod (wrap64 (a1)) (l0.length : Int))) % 4294967296) 0).bind fun t609 => (if y606.length < 5864062014805 then ((some (y606 ++ [(([t609] : List Int))] : List (List Int))).bind fun y613 => ((resolve_Object.f kj15 y613 (Int.tmod (wrap64 (a1)) (l0.length : Int)) (wrap64 (a2))).bind fun bt616 => ((resolve_Object.f kj15 y613 (l0.length : Int) 0).bind fun bt626 => (if (bt616.1 == bt626.1 && (bt616.2.1 == bt626.2.1 && (bt616.2.2.1 == bt626.2.2.1 && (bt616.2.2.2.1 == bt626.2.2.2.1 && (bt616.2.2.2.2.1 == bt626.2.2.2.2.1 && (bt616.2.2.2.2.2.1 == bt626.2.2.2.2.2.1 && (bt616.2.2.2.2.2.2.1 == bt626.2.2.2.2.2.2.1 && (bt616.2.2.2.2.2.2.2.1 == bt626.2.2.2.2.2.2.2.1)))))))) = true then (some (bt616.2.2.2.2.2.2.2.2 == bt626.2.2.2.2.2.2.2.2)) else (some false))))) else (none))) = some r := by (have H2_ := (Option.bind_some _ _).symm.trans H; rw [hy606]; with_reducible exact H2_)
                  have Ny606 := Aside0.mk hy606
                  clear hy606
                  replace H := Option.bind_eq_some_iff.mp H
                  obtain ⟨t609, A250, H⟩ := H
                  have A25 := Aside0.mk A250
                  clear A250
                  obtain ⟨y610, hy610⟩ : ∃ y_ : List Int, y_ = (([t609] : List Int)) := ⟨_, rfl⟩
                  replace H : (if y606.length < 5864062014805 then ((some (y606 ++ [y610] : List (List Int))).bind fun y613 => ((resolve_Object.f kj15 y613 (Int.tmod (wrap64 (a1)) (l0.length : Int)) (wrap64 (a2))).bind fun bt616 => ((resolve_Object.f kj15 y613 (l0.length : Int) 0).bind fun bt626 => (if (bt616.1 == bt626.1 && (bt616.2.1 == bt626.2.1 && (bt616.2.2.1 == bt626.2.2.1 && (bt616.2.2.2.1 == bt626.2.2.2.1 && (bt616.2.2.2.2.1 == bt626.2.2.2.2.1 && (bt616.2.2.2.2.2.1 == bt626.2.2.2.2.2.1 && (bt616.2.2.2.2.2.2.1 == bt626.2.2.2.2.2.2.1 && (bt616.2.2.2.2.2.2.2.1 == bt626.2.2.2.2.2.2.2.1)))))))) = true then (some (bt616.2.2.2.2.2.2.2.2 == bt626.2.2.2.2.2.2.2.2)) else (some false))))) else (none)) = some r := by (rw [hy610]; with_reducible exact H)
                  have Ny610 := Aside0.mk hy610
                  clear hy610
                  by_cases c26 : y606.length < 5864062014805
                  · rw [if_pos c26] at H
                    have LMc26 := Aside0.mk c26
                    clear c26
                    obtain ⟨y613, hy613⟩ : ∃ y_ : List (List Int), y_ = (y606 ++ [y610]) := ⟨_, rfl⟩
                    replace H : ((resolve_Object.f kj15 y613 (Int.tmod (wrap64 (a1)) (l0.length : Int)) (wrap64 (a2))).bind fun bt616 => ((resolve_Object.f kj15 y613 (l0.length : Int) 0).bind fun bt626 => (if (bt616.1 == bt626.1 && (bt616.2.1 == bt626.2.1 && (bt616.2.2.1 == bt626.2.2.1 && (bt616.2.2.2.1 == bt626.2.2.2.1 && (bt616.2.2.2.2.1 == bt626.2.2.2.2.1 && (bt616.2.2.2.2.2.1 == bt626.2.2.2.2.2.1 && (bt616.2.2.2.2.2.2.1 == bt626.2.2.2.2.2.2.1 && (bt616.2.2.2.2.2.2.2.1 == bt626.2.2.2.2.2.2.2.1)))))))) = true then (some (bt616.2.2.2.2.2.2.2.2 == bt626.2.2.2.2.2.2.2.2)) else (some false)))) = some r := by (have H2_ := (Option.bind_some _ _).symm.trans H; rw [hy613]; with_reducible exact H2_)
                    have Ny613 := Aside0.mk hy613
                    clear hy613
                    replace H := Option.bind_eq_some_iff.mp H
                    obtain ⟨⟨t616, t617, t618, t619, t620, t621, t622, t623, t624⟩, A270, H⟩ := H
                    dsimp only at H
                    have A27 := Aside0.mk A270
                    clear A270
                    replace H := Option.bind_eq_some_iff.mp H
                    obtain ⟨⟨t626, t627, t628, t629, t630, t631, t632, t633, t634⟩, A280, H⟩ := H
                    dsimp only at H
                    have A28 := Aside0.mk A280
                    clear A280
                    by_cases c29 : (t616 == t626 && (t617 == t627 && (t618 == t628 && (t619 == t629 && (t620 == t630 && (t621 == t631 && (t622 == t632 && (t623 == t633)))))))) = true
                    · rw [if_pos c29] at H
                      have c29b0 : (t616 == t626 && (t617 == t627 && (t618 == t628 && (t619 == t629 && (t620 == t630 && (t621 == t631 && (t622 == t632 && (t623 == t633)))))))) = true := c29
                      (try (skip))
                      (try (skip))
                      clear c29
                      obtain rfl := Option.some.inj H
                      go_wp2_with (first | ((with_reducible refine gate_dst (N := 50) rfl ?_); (try (refine gate_guard (by rfl) ?_; dsimp only)); refine Kd.N_lit (Kd.slice 23 (Kd.int .u64)) _ 40 ?hg (N' := 50) ?hd (xs := ([] : List (List Int))) (inner := []) (ok := (fun k_ => (P0_ k_ ∨ w.heap.size ≤ k_))) (okp := (fun k_ => (P0_ k_ ∨ w.heap.size ≤ k_))) ?hr ?hp (fun _ hk => hk) ((show ∀ k_, wc.heap.size ≤ k_ → (fun k_ => (P0_ k_ ∨ w.heap.size ≤ k_)) k_ from fun k_ hk => (.inr (Nat.le_trans (below_size HB.out) hk))) _ (Nat.le_refl _)) (Below.refl _ _) (Nat.le_refl _) (by simp) ?_; (case hd => rfl); (case hg => rfl); (case hr => (go_simp; done)); (case hp => exact (Reps.none _ _)); intro v604 w30 ho31 hb hg_ hnew_; clear hg_ hnew_; ((rw [← Ny603.out] at ho31)); replace HO_0 := Aside0.mk (Kd.V_elder' HO_0.out (Kd.N_base ho31) hb); replace HO605 := Aside0.mk (Kd.N_lower ho31 (below_size HB.out)); replace HB := Aside0.mk (below_step HB.out hb); clear hb ho31) | ((with_reducible refine gate_builtin (b := .append) (xs := #[.tmp 50, .tmp 51]) rfl ?_); (try (refine gate_guard (by rfl) ?_; dsimp only)); at_builtin; refine Kd.N_append_rows (Kd.slice 23 (Kd.int .u64)) (w0 := w) w.heap.size rfl (.tmp 50) (.tmp 51) 22 40 (.slice none 0 0) 24 rfl Tryd.underlying22 info40 rfl (by decide) (by omega) v604 y603 l0 _ _ _ (fun k_ => (P0_ k_ ∨ w.heap.size ≤ k_)) (fun k_ => ((fun k_ => (P0_ k_ ∨ w.heap.size ≤ k_))) k_ ∧ some k_ ≠ (v604 : Value).ownBlock) rfl rfl ?aO ?aR (fun _ hk => hk) ?aF ?aB ?aS ?aL ?_; (case aR => exact (by skip; exact Kd.V_F (Kd.V_mono (ok' := (fun k_ => ((fun k_ => (P0_ k_ ∨ w.heap.size ≤ k_))) k_ ∧ some k_ ≠ (v604 : Value).ownBlock)) (HO_0.out) (fun k_ hk => ⟨hk.1, hk.2⟩)))); (case aB => exact HB.out); (case aF => exact (fun k_ hk => (.inr (Nat.le_trans (below_size HB.out) hk)))); (case aO => exact HO605.out); (case aS => exact (below_size HB.out)); (case aL => have := LMc24.out; omega); intro v607 w32 ho hb hg hat; rw [← Ny606.out] at ho; replace HO_0 := Aside0.mk (Kd.V_afterv (ok := (fun k_ => (P0_ k_ ∨ w.heap.size ≤ k_))) HO_0.out hg hat); replace HB := Aside0.mk (hb); replace HO608 := Aside0.mk (ho); clear HO605 ho hb hg hat) | ((with_reducible refine gate_callee (f := 31) rfl ?_); refine goesL_ (some 59) rfl rfl Tryd.func31 (by kernel_rfl) rfl #[.agg #[.int .i64 2, .int .i64 0, .int .i64 0, .int .i64 0, .int .i64 0, .int .i64 0, .bool false, .int .i64 (wrap64 (a2)), .int .u32 (((Int.tmod (wrap64 (a1)) (l0.length : Int))) % 4294967296), .int .u32 0]] rfl (by (try simp only [List.map_toArray, List.map_cons, List.map_nil]); rfl) ?_; (with_reducible refine (capnplaw08_word.calls kj15 2 0 0 0 0 0 false (wrap64 (a2)) (((Int.tmod (wrap64 (a1)) (l0.length : Int))) % 4294967296) 0 t609 _ A25.out).mono ?_); rintro e w33 ⟨rfl, hb⟩; refine ⟨_, rfl, ?_⟩; replace HO_0 := Aside0.mk (Kd.V_below HO_0.out hb); replace HO608 := Aside0.mk (Kd.N_below HO608.out hb); replace HB := Aside0.mk (below_step HB.out hb); (try clear hb)) | ((with_reducible refine gate_dst (N := 60) rfl ?_); (try (refine gate_guard (by rfl) ?_; dsimp only)); refine Kd.R_lit (Kd.int .u64) _ 23 ?hg (N := 60) ?hd (xs := ([t609] : List Int)) (inner := [.int .u64 t609]) (ok := fun _ => True) (okp := fun _ => True) ?hr ?hp (fun _ hk => hk) trivial (Below.refl _ _) (Nat.le_refl _) (by simp) ?_; (case hd => rfl); (case hg => rfl); (case hr => (go_simp; done)); (case hp => exact (Reps.one (show Kd.M (Kd.int .u64) _ _ _ t609 [.int .u64 t609] from rfl) (Reps.none _ _))); intro v611 w34 ho35 hb hg_ hnew_; clear hg_ hnew_; ((rw [← Ny610.out] at ho35)); replace HO_0 := Aside0.mk (Kd.V_elder' HO_0.out (Kd.R_base ho35) hb); replace HO608 := Aside0.mk (Kd.N_elder' HO608.out (Kd.R_base ho35) hb); replace HO612 := Aside0.mk (Kd.R_lower (Kd.R_newM (M := fun k_ => (w.heap.size ≤ k_)) ho35 (below_size HB.out) (fun k_ h_ => h_)) (below_size HB.out)); replace HB := Aside0.mk (below_step HB.out hb); clear hb ho35; obtain ⟨Ao37, co37, eo37⟩ := Kd.R_slice HO612.out; subst eo37) | ((with_reducible refine gate_builtin (b := .append) (xs := #[.tmp 53, .tmp 61]) rfl ?_); (try (refine gate_guard (by rfl) ?_; dsimp only)); at_builtin; refine Kd.N_append (Kd.slice 23 (Kd.int .u64)) (w0 := w) w.heap.size rfl (.tmp 53) (.tmp 61) 22 40 (.slice none 0 0) 24 rfl Tryd.underlying22 info40 rfl (by decide) (by omega) v607 y606 y610 [.slice Ao37 y610.length co37] (fun k_ => (P0_ k_ ∨ w.heap.size ≤ k_)) (fun k_ => ((fun k_ => (P0_ k_ ∨ w.heap.size ≤ k_))) k_ ∧ some k_ ≠ (v607 : Value).ownBlock) rfl rfl ?aP (fun _ hk => hk) ?aF ?aO ?aB ?aS ?aL ?_; (case aP => exact (Kd.FK_slice_mk (Kd.R_reads' (Kd.R_mono (ok' := (fun k_ => ((fun k_ => (P0_ k_ ∨ w.heap.size ≤ k_))) k_ ∧ some k_ ≠ (v607 : Value).ownBlock)) (Kd.R_apart' (HO612.out) (Kd.N_typed HO608.out) (by decide)) (fun k_ hk => ⟨(.inr (hk.1.1)), hk.2⟩))).2.1 (Kd.R_F (Kd.R_mono (ok' := (fun k_ => ((fun k_ => (P0_ k_ ∨ w.heap.size ≤ k_))) k_ ∧ some k_ ≠ (v607 : Value).ownBlock)) (Kd.R_apart' (HO612.out) (Kd.N_typed HO608.out) (by decide)) (fun k_ hk => ⟨(.inr (hk.1.1)), hk.2⟩))))); (case aB => exact HB.out); (case aF => exact (fun k_ hk => (.inr (Nat.le_trans (below_size HB.out) hk)))); (case aO => exact (by exact Kd.N_mono HO608.out (fun _ hk => hk.1))); (case aS => exact (below_size HB.out)); (case aL => have := LMc26.out; omega); intro v614 w36 ho hb hg hat; rw [← Ny613.out] at ho; replace HO_0 := Aside0.mk (Kd.V_afterv (ok := (fun k_ => (P0_ k_ ∨ w.heap.size ≤ k_) ∧ some k_ ≠ (.slice Ao37 y610.length co37 : Value).ownBlock)) (by exact Kd.V_mono HO_0.out (fun _ hk => ⟨⟨hk.1.1, hk.2⟩, hk.1.2⟩)) hg hat); replace HB := Aside0.mk (hb); replace HO615 := Aside0.mk (ho); clear HO608 HO612 ho hb hg hat; obtain ⟨Ao38, co38, eo38⟩ := Kd.N_slice HO615.out; subst eo38) | ((with_reducible refine gate_callee (f := 24) rfl ?_); refine goesL_ (some 68) rfl rfl Tryd.func24 (by kernel_rfl) rfl #[.slice Ao38 y613.length co38, .int .i64 (Int.tmod (wrap64 (a1)) (l0.length : Int)), .int .i64 (wrap64 (a2))] rfl (by (try simp only [List.map_toArray, List.map_cons, List.map_nil]); rfl) ?_; (with_reducible refine (resolve_Object.calls kj15 _ _ y613 (Int.tmod (wrap64 (a1)) (l0.length : Int)) (wrap64 (a2)) t616 t617 t618 t619 t620 t621 t622 t623 t624 _ ?side1 ?side2 ?side3 A27.out).mono ?_); (case side1 => exact Glob.below HG.out HB.out); (case side2 => repeat ((exact (Kd.N_reads' HO615.out).2.2))); (case side3 => exact (Kd.N_reads' HO615.out).2.1); rintro e w39 ⟨rfl, hb⟩; refine ⟨_, rfl, ?_⟩; replace HO615 := Aside0.mk (Kd.N_below HO615.out hb); replace HB := Aside0.mk (below_step HB.out hb); (try clear HO_0); (try clear hb)) | ((with_reducible refine gate_dst (N := 9) rfl ?_); (try (refine gate_guard (by rfl) ?_; dsimp only)); refine box_event ?hg (N := 9) ?hd (cs := #[.int .i64 0, .int .i64 0, .int .i64 0, .int .i64 0, .int .i64 0, .int .i64 0, .int .i64 0, .int .i64 0]) (t := 46) ?hr ?_; (case hd => rfl); (case hg => rfl); (case hr => (go_simp; done)); intro gb625 hg w40 hbox hb; replace HO615 := Aside0.mk (Kd.N_below (Kd.N_elderB HO615.out gb625 (Nat.le_of_eq hg.symm)) hb); replace BK625 := Aside0.mk (hbox); replace GE625 := Aside0.mk (ge_of HB.out hg); replace HB := Aside0.mk (below_step HB.out hb); clear hb hbox hg; (try clear HO_0); obtain ⟨hcz41_0, hcz41_1, hcz41_2, hcz41_3, hcz41_4, hcz41_5, hcz41_6, hcz41_7⟩ := cells8 BK625.out; obtain ⟨hfz41_0, hfz41_1, hfz41_2, hfz41_3, hfz41_4, hfz41_5, hfz41_6, hfz41_7⟩ := frz8 BK625.out) | ((with_reducible refine gate_callee (f := 24) rfl ?_); refine goesL_ (some 75) rfl rfl Tryd.func24 (by kernel_rfl) rfl #[.slice Ao38 y613.length co38, .int .i64 (l0.length : Int), .int .i64 0] rfl (by (try simp only [List.map_toArray, List.map_cons, List.map_nil]); rfl) ?_; (with_reducible refine (resolve_Object.calls kj15 _ _ y613 (l0.length : Int) 0 t626 t627 t628 t629 t630 t631 t632 t633 t634 _ ?side1 ?side2 ?side3 A28.out).mono ?_); (case side1 => exact Glob.below HG.out (by repeat ((with_reducible first | exact HB.out | refine below_set ?_ GE625.out)))); (case side2 => refine (Kd.N_reads' (e := 40) (base := w.heap.size) (ok := fun k_ => ((P0_ k_ ∨ w.heap.size ≤ k_) ∧ k_ ≠ gb625)) (n := y613.length) (c := co38) ?_).2.2; exact (by exact (Kd.N_mono (Kd.N_far (p := ⟨gb625, 7, none⟩) (Kd.N_far (p := ⟨gb625, 6, none⟩) (Kd.N_far (p := ⟨gb625, 5, none⟩) (Kd.N_far (p := ⟨gb625, 4, none⟩) (Kd.N_far (p := ⟨gb625, 3, none⟩) (Kd.N_far (p := ⟨gb625, 2, none⟩) (Kd.N_far (p := ⟨gb625, 1, none⟩) (Kd.N_far (p := ⟨gb625, 0, none⟩) (Kd.N_mono HO615.out (fun k_ hk => (⟨hk, hk.2⟩ : _ ∧ k_ ≠ gb625))) (fun _ hk => hk.2) (.int .i64 t616)) (fun _ hk => hk.2) (.int .i64 t617)) (fun _ hk => hk.2) (.int .i64 t618)) (fun _ hk => hk.2) (.int .i64 t619)) (fun _ hk => hk.2) (.int .i64 t620)) (fun _ hk => hk.2) (.int .i64 t621)) (fun _ hk => hk.2) (.int .i64 t622)) (fun _ hk => hk.2) (.int .i64 t623)) (fun _ h_ => h_.1)))); (case side3 => exact (Kd.N_reads' HO615.out).2.1); rintro e w42 ⟨rfl, hb⟩; refine ⟨_, rfl, ?_⟩; replace BK625 := Aside0.mk (blk_below (g := gb625) (o := .cells #[.int .i64 t616, .int .i64 t617, .int .i64 t618, .int .i64 t619, .int .i64 t620, .int .i64 t621, .int .i64 t622, .int .i64 t623] 46 (0, 0)) (by exact put8 BK625.out) hb); replace HB := Aside0.mk (below_step (by repeat ((with_reducible first | exact HB.out | refine below_set ?_ GE625.out))) hb); (try clear HO_0); (try clear HO615); (try clear hb)) | ((with_reducible refine gate_dst (N := 11) rfl ?_); (try (refine gate_guard (by rfl) ?_; dsimp only)); refine box_event ?hg (N := 11) ?hd (cs := #[.int .i64 0, .int .i64 0, .int .i64 0, .int .i64 0, .int .i64 0, .int .i64 0, .int .i64 0, .int .i64 0]) (t := 46) ?hr ?_; (case hd => rfl); (case hg => rfl); (case hr => (go_simp; done)); intro gb635 hg w43 hbox hb; replace BK635 := Aside0.mk (hbox); replace GE635 := Aside0.mk (ge_of HB.out hg); replace HB := Aside0.mk (below_step HB.out hb); replace NB625_635 := Aside0.mk (ne_l BK625.out hg); replace BK625 := Aside0.mk (blk_below BK625.out hb); clear hb hbox hg; (try clear HO_0); (try clear HO615); have hnc44 := NB625_635.out; obtain ⟨hcz45_0, hcz45_1, hcz45_2, hcz45_3, hcz45_4, hcz45_5, hcz45_6, hcz45_7⟩ := cells8 BK635.out; obtain ⟨hfz45_0, hfz45_1, hfz45_2, hfz45_3, hfz45_4, hfz45_5, hfz45_6, hfz45_7⟩ := frz8 BK635.out; obtain ⟨hcz46_0, hcz46_1, hcz46_2, hcz46_3, hcz46_4, hcz46_5, hcz46_6, hcz46_7⟩ := cells8 BK625.out))
                      go_ret
                      exact ⟨by rfl, by repeat ((with_reducible first | exact HB.out | refine below_set ?_ GE635.out))⟩
                    · rw [if_neg c29] at H
                      have c29b0 : (t616 == t626 && (t617 == t627 && (t618 == t628 && (t619 == t629 && (t620 == t630 && (t621 == t631 && (t622 == t632 && (t623 == t633)))))))) = false := by simpa using c29
                      (try (skip))
                      (try (skip))
                      (try (skip))
                      clear c29
                      obtain rfl := Option.some.inj H
                      go_wp2_with (first | ((with_reducible refine gate_dst (N := 50) rfl ?_); (try (refine gate_guard (by rfl) ?_; dsimp only)); refine Kd.N_lit (Kd.slice 23 (Kd.int .u64)) _ 40 ?hg (N' := 50) ?hd (xs := ([] : List (List Int))) (inner := []) (ok := (fun k_ => (P0_ k_ ∨ w.heap.size ≤ k_))) (okp := (fun k_ => (P0_ k_ ∨ w.heap.size ≤ k_))) ?hr ?hp (fun _ hk => hk) ((show ∀ k_, wc.heap.size ≤ k_ → (fun k_ => (P0_ k_ ∨ w.heap.size ≤ k_)) k_ from fun k_ hk => (.inr (Nat.le_trans (below_size HB.out) hk))) _ (Nat.le_refl _)) (Below.refl _ _) (Nat.le_refl _) (by simp) ?_; (case hd => rfl); (case hg => rfl); (case hr => (go_simp; done)); (case hp => exact (Reps.none _ _)); intro v604 w47 ho48 hb hg_ hnew_; clear hg_ hnew_; ((rw [← Ny603.out] at ho48)); replace HO_0 := Aside0.mk (Kd.V_elder' HO_0.out (Kd.N_base ho48) hb); replace HO605 := Aside0.mk (Kd.N_lower ho48 (below_size HB.out)); replace HB := Aside0.mk (below_step HB.out hb); clear hb ho48) | ((with_reducible refine gate_builtin (b := .append) (xs := #[.tmp 50, .tmp 51]) rfl ?_); (try (refine gate_guard (by rfl) ?_; dsimp only)); at_builtin; refine Kd.N_append_rows (Kd.slice 23 (Kd.int .u64)) (w0 := w) w.heap.size rfl (.tmp 50) (.tmp 51) 22 40 (.slice none 0 0) 24 rfl Tryd.underlying22 info40 rfl (by decide) (by omega) v604 y603 l0 _ _ _ (fun k_ => (P0_ k_ ∨ w.heap.size ≤ k_)) (fun k_ => ((fun k_ => (P0_ k_ ∨ w.heap.size ≤ k_))) k_ ∧ some k_ ≠ (v604 : Value).ownBlock) rfl rfl ?aO ?aR (fun _ hk => hk) ?aF ?aB ?aS ?aL ?_; (case aR => exact (by skip; exact Kd.V_F (Kd.V_mono (ok' := (fun k_ => ((fun k_ => (P0_ k_ ∨ w.heap.size ≤ k_))) k_ ∧ some k_ ≠ (v604 : Value).ownBlock)) (HO_0.out) (fun k_ hk => ⟨hk.1, hk.2⟩)))); (case aB => exact HB.out); (case aF => exact (fun k_ hk => (.inr (Nat.le_trans (below_size HB.out) hk)))); (case aO => exact HO605.out); (case aS => exact (below_size HB.out)); (case aL => have := LMc24.out; omega); intro v607 w49 ho hb hg hat; rw [← Ny606.out] at ho; replace HO_0 := Aside0.mk (Kd.V_afterv (ok := (fun k_ => (P0_ k_ ∨ w.heap.size ≤ k_))) HO_0.out hg hat); replace HB := Aside0.mk (hb); replace HO608 := Aside0.mk (ho); clear HO605 ho hb hg hat) | ((with_reducible refine gate_callee (f := 31) rfl ?_); refine goesL_ (some 59) rfl rfl Tryd.func31 (by kernel_rfl) rfl #[.agg #[.int .i64 2, .int .i64 0, .int .i64 0, .int .i64 0, .int .i64 0, .int .i64 0, .bool false, .int .i64 (wrap64 (a2)), .int .u32 (((Int.tmod (wrap64 (a1)) (l0.length : Int))) % 4294967296), .int .u32 0]] rfl (by (try simp only [List.map_toArray, List.map_cons, List.map_nil]); rfl) ?_; (with_reducible refine (capnplaw08_word.calls kj15 2 0 0 0 0 0 false (wrap64 (a2)) (((Int.tmod (wrap64 (a1)) (l0.length : Int))) % 4294967296) 0 t609 _ A25.out).mono ?_); rintro e w50 ⟨rfl, hb⟩; refine ⟨_, rfl, ?_⟩; replace HO_0 := Aside0.mk (Kd.V_below HO_0.out hb); replace HO608 := Aside0.mk (Kd.N_below HO608.out hb); replace HB := Aside0.mk (below_step HB.out hb); (try clear hb)) | ((with_reducible refine gate_dst (N := 60) rfl ?_); (try (refine gate_guard (by rfl) ?_; dsimp only)); refine Kd.R_lit (Kd.int .u64) _ 23 ?hg (N := 60) ?hd (xs := ([t609] : List Int)) (inner := [.int .u64 t609]) (ok := fun _ => True) (okp := fun _ => True) ?hr ?hp (fun _ hk => hk) trivial (Below.refl _ _) (Nat.le_refl _) (by simp) ?_; (case hd => rfl); (case hg => rfl); (case hr => (go_simp; done)); (case hp => exact (Reps.one (show Kd.M (Kd.int .u64) _ _ _ t609 [.int .u64 t609] from rfl) (Reps.none _ _))); intro v611 w51 ho52 hb hg_ hnew_; clear hg_ hnew_; ((rw [← Ny610.out] at ho52)); replace HO_0 := Aside0.mk (Kd.V_elder' HO_0.out (Kd.R_base ho52) hb); replace HO608 := Aside0.mk (Kd.N_elder' HO608.out (Kd.R_base ho52) hb); replace HO612 := Aside0.mk (Kd.R_lower (Kd.R_newM (M := fun k_ => (w.heap.size ≤ k_)) ho52 (below_size HB.out) (fun k_ h_ => h_)) (below_size HB.out)); replace HB := Aside0.mk (below_step HB.out hb); clear hb ho52; obtain ⟨Ao54, co54, eo54⟩ := Kd.R_slice HO612.out; subst eo54) | ((with_reducible refine gate_builtin (b := .append) (xs := #[.tmp 53, .tmp 61]) rfl ?_); (try (refine gate_guard (by rfl) ?_; dsimp only)); at_builtin; refine Kd.N_append (Kd.slice 23 (Kd.int .u64)) (w0 := w) w.heap.size rfl (.tmp 53) (.tmp 61) 22 40 (.slice none 0 0) 24 rfl Tryd.underlying22 info40 rfl (by decide) (by omega) v607 y606 y610 [.slice Ao54 y610.length co54] (fun k_ => (P0_ k_ ∨ w.heap.size ≤ k_)) (fun k_ => ((fun k_ => (P0_ k_ ∨ w.heap.size ≤ k_))) k_ ∧ some k_ ≠ (v607 : Value).ownBlock) rfl rfl ?aP (fun _ hk => hk) ?aF ?aO ?aB ?aS ?aL ?_; (case aP => exact (Kd.FK_slice_mk (Kd.R_reads' (Kd.R_mono (ok' := (fun k_ => ((fun k_ => (P0_ k_ ∨ w.heap.size ≤ k_))) k_ ∧ some k_ ≠ (v607 : Value).ownBlock)) (Kd.R_apart' (HO612.out) (Kd.N_typed HO608.out) (by decide)) (fun k_ hk => ⟨(.inr (hk.1.1)), hk.2⟩))).2.1 (Kd.R_F (Kd.R_mono (ok' := (fun k_ => ((fun k_ => (P0_ k_ ∨ w.heap.size ≤ k_))) k_ ∧ some k_ ≠ (v607 : Value).ownBlock)) (Kd.R_apart' (HO612.out) (Kd.N_typed HO608.out) (by decide)) (fun k_ hk => ⟨(.inr (hk.1.1)), hk.2⟩))))); (case aB => exact HB.out); (case aF => exact (fun k_ hk => (.inr (Nat.le_trans (below_size HB.out) hk)))); (case aO => exact (by exact Kd.N_mono HO608.out (fun _ hk => hk.1))); (case aS => exact (below_size HB.out)); (case aL => have := LMc26.out; omega); intro v614 w53 ho hb hg hat; rw [← Ny613.out] at ho; replace HO_0 := Aside0.mk (Kd.V_afterv (ok := (fun k_ => (P0_ k_ ∨ w.heap.size ≤ k_) ∧ some k_ ≠ (.slice Ao54 y610.length co54 : Value).ownBlock)) (by exact Kd.V_mono HO_0.out (fun _ hk => ⟨⟨hk.1.1, hk.2⟩, hk.1.2⟩)) hg hat); replace HB := Aside0.mk (hb); replace HO615 := Aside0.mk (ho); clear HO608 HO612 ho hb hg hat; obtain ⟨Ao55, co55, eo55⟩ := Kd.N_slice HO615.out; subst eo55) | ((with_reducible refine gate_callee (f := 24) rfl ?_); refine goesL_ (some 68) rfl rfl Tryd.func24 (by kernel_rfl) rfl #[.slice Ao55 y613.length co55, .int .i64 (Int.tmod (wrap64 (a1)) (l0.length : Int)), .int .i64 (wrap64 (a2))] rfl (by (try simp only [List.map_toArray, List.map_cons, List.map_nil]); rfl) ?_; (with_reducible refine (resolve_Object.calls kj15 _ _ y613 (Int.tmod (wrap64 (a1)) (l0.length : Int)) (wrap64 (a2)) t616 t617 t618 t619 t620 t621 t622 t623 t624 _ ?side1 ?side2 ?side3 A27.out).mono ?_); (case side1 => exact Glob.below HG.out HB.out); (case side2 => repeat ((exact (Kd.N_reads' HO615.out).2.2))); (case side3 => exact (Kd.N_reads' HO615.out).2.1); rintro e w56 ⟨rfl, hb⟩; refine ⟨_, rfl, ?_⟩; replace HO615 := Aside0.mk (Kd.N_below HO615.out hb); replace HB := Aside0.mk (below_step HB.out hb); (try clear HO_0); (try clear hb)) | ((with_reducible refine gate_dst (N := 9) rfl ?_); (try (refine gate_guard (by rfl) ?_; dsimp only)); refine box_event ?hg (N := 9) ?hd (cs := #[.int .i64 0, .int .i64 0, .int .i64 0, .int .i64 0, .int .i64 0, .int .i64 0, .int .i64 0, .int .i64 0]) (t := 46) ?hr ?_; (case hd => rfl); (case hg => rfl); (case hr => (go_simp; done)); intro gb625 hg w57 hbox hb; replace HO615 := Aside0.mk (Kd.N_below (Kd.N_elderB HO615.out gb625 (Nat.le_of_eq hg.symm)) hb); replace BK625 := Aside0.mk (hbox); replace GE625 := Aside0.mk (ge_of HB.out hg); replace HB := Aside0.mk (below_step HB.out hb); clear hb hbox hg; (try clear HO_0); obtain ⟨hcz58_0, hcz58_1, hcz58_2, hcz58_3, hcz58_4, hcz58_5, hcz58_6, hcz58_7⟩ := cells8 BK625.out; obtain ⟨hfz58_0, hfz58_1, hfz58_2, hfz58_3, hfz58_4, hfz58_5, hfz58_6, hfz58_7⟩ := frz8 BK625.out) | ((with_reducible refine gate_callee (f := 24) rfl ?_); refine goesL_ (some 75) rfl rfl Tryd.func24 (by kernel_rfl) rfl #[.slice Ao55 y613.length co55, .int .i64 (l0.length : Int), .int .i64 0] rfl (by (try simp only [List.map_toArray, List.map_cons, List.map_nil]); rfl) ?_; (with_reducible refine (resolve_Object.calls kj15 _ _ y613 (l0.length : Int) 0 t626 t627 t628 t629 t630 t631 t632 t633 t634 _ ?side1 ?side2 ?side3 A28.out).mono ?_); (case side1 => exact Glob.below HG.out (by repeat ((with_reducible first | exact HB.out | refine below_set ?_ GE625.out)))); (case side2 => refine (Kd.N_reads' (e := 40) (base := w.heap.size) (ok := fun k_ => ((P0_ k_ ∨ w.heap.size ≤ k_) ∧ k_ ≠ gb625)) (n := y613.length) (c := co55) ?_).2.2; exact (by exact (Kd.N_mono (Kd.N_far (p := ⟨gb625, 7, none⟩) (Kd.N_far (p := ⟨gb625, 6, none⟩) (Kd.N_far (p := ⟨gb625, 5, none⟩) (Kd.N_far (p := ⟨gb625, 4, none⟩) (Kd.N_far (p := ⟨gb625, 3, none⟩) (Kd.N_far (p := ⟨gb625, 2, none⟩) (Kd.N_far (p := ⟨gb625, 1, none⟩) (Kd.N_far (p := ⟨gb625, 0, none⟩) (Kd.N_mono HO615.out (fun k_ hk => (⟨hk, hk.2⟩ : _ ∧ k_ ≠ gb625))) (fun _ hk => hk.2) (.int .i64 t616)) (fun _ hk => hk.2) (.int .i64 t617)) (fun _ hk => hk.2) (.int .i64 t618)) (fun _ hk => hk.2) (.int .i64 t619)) (fun _ hk => hk.2) (.int .i64 t620)) (fun _ hk => hk.2) (.int .i64 t621)) (fun _ hk => hk.2) (.int .i64 t622)) (fun _ hk => hk.2) (.int .i64 t623)) (fun _ h_ => h_.1)))); (case side3 => exact (Kd.N_reads' HO615.out).2.1); rintro e w59 ⟨rfl, hb⟩; refine ⟨_, rfl, ?_⟩; replace BK625 := Aside0.mk (blk_below (g := gb625) (o := .cells #[.int .i64 t616, .int .i64 t617, .int .i64 t618, .int .i64 t619, .int .i64 t620, .int .i64 t621, .int .i64 t622, .int .i64 t623] 46 (0, 0)) (by exact put8 BK625.out) hb); replace HB := Aside0.mk (below_step (by repeat ((with_reducible first | exact HB.out | refine below_set ?_ GE625.out))) hb); (try clear HO_0); (try clear HO615); (try clear hb)) | ((with_reducible refine gate_dst (N := 11) rfl ?_); (try (refine gate_guard (by rfl) ?_; dsimp only)); refine box_event ?hg (N := 11) ?hd (cs := #[.int .i64 0, .int .i64 0, .int .i64 0, .int .i64 0, .int .i64 0, .int .i64 0, .int .i64 0, .int .i64 0]) (t := 46) ?hr ?_; (case hd => rfl); (case hg => rfl); (case hr => (go_simp; done)); intro gb635 hg w60 hbox hb; replace BK635 := Aside0.mk (hbox); replace GE635 := Aside0.mk (ge_of HB.out hg); replace HB := Aside0.mk (below_step HB.out hb); replace NB625_635 := Aside0.mk (ne_l BK625.out hg); replace BK625 := Aside0.mk (blk_below BK625.out hb); clear hb hbox hg; (try clear HO_0); (try clear HO615); have hnc61 := NB625_635.out; obtain ⟨hcz62_0, hcz62_1, hcz62_2, hcz62_3, hcz62_4, hcz62_5, hcz62_6, hcz62_7⟩ := cells8 BK635.out; obtain ⟨hfz62_0, hfz62_1, hfz62_2, hfz62_3, hfz62_4, hfz62_5, hfz62_6, hfz62_7⟩ := frz8 BK635.out; obtain ⟨hcz63_0, hcz63_1, hcz63_2, hcz63_3, hcz63_4, hcz63_5, hcz63_6, hcz63_7⟩ := cells8 BK625.out))
                      go_ret
                      exact ⟨by rfl, by repeat ((with_reducible first | exact HB.out | refine below_set ?_ GE635.out))⟩
                  · rw [if_neg c26] at H
                    exact absurd H (by simp)
                · rw [if_neg c24] at H
                  exact absurd H (by simp)

end Go.Proofs.YtcjhejopcghgnaaDoor.P

set_option linter.unusedVariables false
set_option linter.unusedSimpArgs false
namespace Go.Proofs.YtcjhejopcghgnaaDoor.P
open Go.RowKit Go.Proofs.YtcjhejopcghgnaaDoorW.PrintWords Go.Proofs.YtcjhejopcghgnaaDoorW.PrintLast Go.Proofs.YtcjhejopcghgnaaDoorW.PrintMore
theorem word8_has (b : Bool) (pd sg : Int) (h1 : 0 ≤ pd ∧ pd ≤ 536870911) (h2 : 0 ≤ sg ∧ sg ≤ 4294967295) : Has (fun k => capnplaw08_word.f k 2 0 0 0 0 0 b pd sg 0) (pakI (2, 0, 0, 0, 0, 0, b, pd, sg, 0)) := by
  refine ⟨1, fun k hk => ?_⟩
  show capnplaw08_word.f k 2 0 0 0 0 0 b pd sg 0 = _
  unfold capnplaw08_word.f
  rw [rEncode_eq 2 0 0 0 0 0 b pd sg 0 h2 (by omega) k (by omega), if_pos (far_word h1 h2)]
  rfl
theorem obj_fol {l : List (List Int)} {s a s' a' : Int} (h : fol l s a = fol l s' a') : obj l s a = obj l s' a' := by
  unfold obj
  rw [h]
theorem ResolveThroughFar_pure (l : List (List Int)) (h : Segs l) (s : Int) (hs : 0 ≤ s ∧ s ≤ 255) (a : Int) (ha : 0 ≤ a ∧ a ≤ 65535) :
    ∃ k, capnplaw08_ResolveThroughFar.f k l s a = some true := by
  refine Has.ex (g := fun k => capnplaw08_ResolveThroughFar.f k l s a) ?_
  simp only [capnplaw08_ResolveThroughFar.f]
  have out : Has (fun k => capnplaw08_ResolveThroughFar.j0 k l s a true) true := by
    refine Has.step (fun k => by rw [capnplaw08_ResolveThroughFar.j0]) ?_
    exact Has.pos rfl (Has.bind awake8_has (Has.some_ _))
  refine Has.bind awake8_has (Has.pos rfl (Has.bind (Few_has h) ?_))
  by_cases hf : Few l
  case neg => exact Has.neg (by simpa using hf) out
  refine Has.pos (by simpa using hf) ?_
  by_cases hn : (l.length : Int) = 0
  case pos => simp only [show ((l.length : Int) == 0) = true from by simpa using hn]; exact out
  simp only [show ((l.length : Int) == 0) = false from by simpa using hn]
  have hfl := hf.1
  refine Has.step (fun k => by rw [capnplaw08_ResolveThroughFar.j0]) ?_
  refine Has.neg (by simp) (Has.neg hn ?_)
  rw [w64 (x := s) (by omega), w64 (x := a) (by omega), Int.tmod_eq_emod_of_nonneg hs.1]
  have hi : 0 ≤ s % (l.length : Int) ∧ s % (l.length : Int) < l.length := ⟨Int.emod_nonneg _ hn, Int.emod_lt_of_pos _ (by omega)⟩
  generalize s % (l.length : Int) = i at hi
  refine Has.pos hi.1 (Has.pos hi.2 ?_)
  have done : Has (fun k => capnplaw08_ResolveThroughFar.j1 k l a i true) true := by
    refine Has.step (fun k => by rw [capnplaw08_ResolveThroughFar.j1]) ?_
    exact Has.pos rfl (Has.some_ _)
  by_cases hg : a ≥ ((rd_L5 l i).length : Int)
  case pos => exact Has.pos hg done
  refine Has.neg hg (Has.pos ha.1 (Has.pos (by omega) ?_))
  have hx := wd_range h i a
  rw [wd_eq, Int.tmod_eq_emod_of_nonneg hx.1]
  by_cases h2 : wd l i a % 4 = 2
  case pos => simp only [show (wd l i a % 4 == 2) = true from by simpa using h2]; exact done
  simp only [show (wd l i a % 4 == 2) = false from by simpa using h2]
  refine Has.step (fun k => by rw [capnplaw08_ResolveThroughFar.j1]) ?_
  refine Has.neg (by simp) ?_
  simp only [Option.bind_some]
  refine Has.pos (by simp; omega) ?_
  rw [w64 (x := a) (by omega), show i % 4294967296 = i by omega]
  refine Has.bind (word8_has false a i (by omega) (by omega)) ?_
  have hp := far_parts (b := false) (pd := a) (sg := i) (by omega) (by omega) rfl
  have hr := pakI_range (2, 0, 0, 0, 0, 0, false, a, i, 0)
  generalize pakI (2, 0, 0, 0, 0, 0, false, a, i, 0) = t at hp hr
  simp only [List.nil_append]
  refine Has.pos (by omega) ?_
  have hS : Segs (l ++ [[t]]) := h.app (by omega) (Words.of (by simp) (fun x hx => by rw [List.mem_singleton.1 hx]; omega))
  have hM : Sm (l ++ [[t]]) := by
    intro j
    unfold rd_L5
    rw [List.getD_eq_getElem?_getD]
    by_cases hj : j.toNat < (l ++ [[t]]).length
    · rw [List.getElem?_eq_getElem hj]
      have := List.getElem_mem hj
      simp only [Option.getD_some]
      rcases List.mem_append.1 this with hm | hm
      · have := hf.2 _ hm
        omega
      · rw [List.mem_singleton.1 hm]
        simp
    · rw [List.getElem?_eq_none (by omega)]
      simp
  refine Has.bind (Object_has hS hM i a) (Has.bind (Object_has hS hM (l.length : Int) 0) ?_)
  have w1 : wd (l ++ [[t]]) i a = wd l i a := by
    unfold wd
    rw [rd_app_left hi.1 hi.2]
  have w2 : wd (l ++ [[t]]) (l.length : Int) 0 = t := by
    unfold wd
    rw [rd_app_last rfl]
    rfl
  have b1 : inB (l ++ [[t]]) i a 1 := by
    unfold inB
    rw [rd_app_left hi.1 hi.2]
    simp
    omega
  have b2 : inB (l ++ [[t]]) (l.length : Int) 0 1 := by
    unfold inB
    rw [rd_app_last rfl]
    simp
    omega
  have e1 : fol (l ++ [[t]]) i a = (wd l i a, i, a + 1, 0) := by
    unfold fol
    rw [if_pos b1, w1, if_neg h2]
  have e2 : fol (l ++ [[t]]) (l.length : Int) 0 = (wd l i a, i, a + 1, 0) := by
    unfold fol
    rw [if_pos b2, w2, if_pos hp.1, hp.2.1]
    simp only [Bool.false_eq_true, if_false, show ¬ ((0 : Int) = 1) by decide]
    unfold sgl
    rw [hp.2.2.1, hp.2.2.2, if_pos b1, w1, if_neg h2]
  rw [obj_fol (e1.trans e2.symm)]
  generalize obj (l ++ [[t]]) (l.length : Int) 0 = o
  exact Has.pos (by simp) ((Has.some_ _).eq (by simp))
end Go.Proofs.YtcjhejopcghgnaaDoor.P

namespace Go.Proofs.YtcjhejopcghgnaaDoor.resolveThroughFar
open Go.ChangeShapes Go.WideShapes Go.ChangeAt Go.RowKit Go.Proofs.YtcjhejopcghgnaaDoor.P Go.Proofs.YtcjhejopcghgnaaDoorW.PrintWords
open Go.ChangeMaps (open_string shut_string)
open Go.Proofs.YtcjhejopcghgnaaDoor.P
set_option linter.unusedVariables false
theorem own : ownKnob Tryd.prog.godebug = none := by kernel_rfl
theorem laidOut : laidOutB Tryd.prog = true := by kernel_rfl
theorem door_met (os : Os) (args : Array Value) : laidMetH Tryd.prog Rows.resolveThroughFarRow.laid ((World.doorLaid Tryd.prog 600 os).forCall (fun _ _ => 0) ⟨#[], args, []⟩).memory :=
  laidMetH_of_parts3 (fuel := 8) (laidMet_of_run' 8 (by kernel_rfl) (by kernel_rfl)) (by kernel_rfl) (by kernel_rfl)
set_option maxRecDepth 100000 in
set_option maxHeartbeats 1000000 in
theorem reads (os : Os) {H : Type} (enc : TypeId × Value → H) : DataW.whole enc Tryd.prog ((World.doorLaid Tryd.prog 600 os).forCall (fun _ _ => 0) ⟨#[], #[.slice none 0 0, .int .u8 0, .int .u16 0], []⟩).memory Tryd.f10.params.toList Rows.resolveThroughFarSpec.vars false (#[.slice none 0 0, .int .u8 0, .int .u16 0] : Array Value).toList 8 = some ([.nil, .lit (.int .u8 0), .lit (.int .u16 0)], [], []) := by kernel_rfl
set_option maxRecDepth 100000 in
set_option maxHeartbeats 1000000 in
theorem lifted (os : Os) (started : os.Started) (H : Type) (enc : TypeId × Value → H) (F : Stop.Interp) :
    ReturnsInHanded {} Tryd.checked os 10 .any ((OpenSpec.ofChange Rows.resolveThroughFarSpec).preRow enc Tryd.prog Tryd.f10 Rows.resolveThroughFarRow.domain false Rows.resolveThroughFarRow.laid) (((OpenSpec.ofChange Rows.resolveThroughFarSpec).at F).post enc Tryd.prog Tryd.f10 false true false false) := by
  refine returnsInHanded_of_row (C := Tryd.checked) (s := (OpenSpec.ofChange Rows.resolveThroughFarSpec)) own started (by kernel_rfl) Tryd.func10
    (witness_row_atRef (enc := enc) (C := Tryd.checked) false (World.doorLaid Tryd.prog 600 os) #[.slice none 0 0, .int .u8 0, .int .u16 0] rfl (by kernel_rfl) (by kernel_rfl) (by kernel_rfl)
      (OpenSpec.preRow_of_cond 8 (reads os enc) (by kernel_rfl) (fun k hk => by cases hk) (by kernel_rfl) (door_met os _))) ?_
  intro W base args ds gs before hval0 hW _ hcond _ hL _ _
  have hval : ∀ (j : Nat) t v, Tryd.f10.params[j]? = some t → args[j]? = some v → Value.okWide Tryd.prog W .any base t v := hval0
  have hW' := hW
  obtain ⟨p, q, hA0, hV, rfl, hfz, hnd⟩ := hW
  have hA : DataW.TrodAll enc Tryd.prog W 0 (fun _ => true) true Tryd.f10.params.toList args.toList ds p := hA0
  rw [Tryd.params10] at hA hval
  obtain ⟨v0, vs0, d0, ds0, p0, q0, hargs, rfl, rfl, h0, r0⟩ := trodAll_cons hA
  obtain ⟨v1, vs1, d1, ds1, p1, q1, rfl, rfl, rfl, h1, r1⟩ := trodAll_cons r0
  obtain ⟨v2, vs2, d2, ds2, p2, q2, rfl, rfl, rfl, h2, r2⟩ := trodAll_cons r1
  obtain ⟨rfl, rfl, rfl⟩ := trodAll_nil r2
  obtain rfl : args = #[v0, v1, v2] := by cases args; simp_all
  obtain ⟨rfl, rfl⟩ := trodVars_none hV
  have k0 := h0
  have lt0 : ∀ x ∈ p0, x.block < W.heap.size := by obtain ⟨m, hm⟩ := k0; exact DataW.trod_lt m _ _ _ hm
  obtain ⟨x0, y0, z0, rfl⟩ := okWide_slice Tryd.underlying22 (hval 0 22 v0 rfl rfl)
  obtain ⟨fuel0, hf0⟩ := h0
  obtain ⟨l0, ⟨A0, c0, hcs0, hl0, hr0⟩, s0⟩ := (Opens.slice Tryd.underlying22 (by kernel_rfl) (fun _ => (Opens.slice Tryd.underlying40 (by kernel_rfl) (fun _ => (OpensAt.int Tryd.underlying23)) _)) _ _ _ hf0 : ∃ a, (Kd.slice 40 _).K W a _ ∧ _)
  simp only [Value.cells, List.cons.injEq, Value.slice.injEq, and_true] at hcs0
  obtain ⟨rfl, rfl, rfl⟩ := hcs0
  have k1 := h1
  have lt1 : ∀ x ∈ p1, x.block < W.heap.size := by obtain ⟨m, hm⟩ := k1; exact DataW.trod_lt m _ _ _ hm
  obtain ⟨a1, rfl, _, _, w1⟩ := open_int Tryd.underlying5 (hval 1 5 v1 rfl rfl) h1
  have k2 := h2
  have lt2 : ∀ x ∈ p2, x.block < W.heap.size := by obtain ⟨m, hm⟩ := k2; exact DataW.trod_lt m _ _ _ hm
  obtain ⟨a2, rfl, _, _, w2⟩ := open_int Tryd.underlying35 (hval 2 35 v2 rfl rfl) h2
  have hG : Glob true W := ⟨dec_of_laid hL (by first | exact List.mem_cons_self | (exact List.mem_cons_of_mem _ List.mem_cons_self)), fun _ => bits_of_laid hL rfl⟩
  obtain ⟨k, hp⟩ := ResolveThroughFar_pure l0 (plain_slice hr0 s0 (fun _ _ _ s k => by obtain ⟨_, _, rfl, _, hC⟩ := k; exact plain_slice hC s (fun _ _ _ s _ => bounds_u64 s.2))) a1 (bounds_u8 w1) a2 (bounds_u16 w2)
  refine (capnplaw08_ResolveThroughFar.calls k (fun k_ => k_ < W.heap.size) _ _ l0 a1 a2 true W hG (V_came (Kd.heap_slice _ (Kd.heap_int _)) hr0 hl0) hp).mono fun e W' ⟨he, bel⟩ => ?_
  subst he
  exact ⟨_, rfl, _, _, _, [], _, [], hW', trodAll_mk1 (shut_bool Tryd.underlying4 _), (trodAll_cons_mk (Below.trod laidOut (by kernel_rfl) (of_decide_eq_true (by kernel_rfl)) k0 bel lt0) (trodAll_cons_mk (Below.trod laidOut (by kernel_rfl) (of_decide_eq_true (by kernel_rfl)) k1 bel lt1) (trodAll_cons_mk (Below.trod laidOut (by kernel_rfl) (of_decide_eq_true (by kernel_rfl)) k2 bel lt2) trodAll_mk0))), rfl, bel.frame _, fun h => by cases h⟩
theorem over : Rows.resolveThroughFarRow.holds Tryd.pinned (OpenSpec.ofChange Rows.resolveThroughFarSpec) :=
  OpenClaim.holds_of_cond 10 Tryd.f10 rfl rfl rfl rfl rfl rfl rfl ⟨rfl, rfl, rfl, rfl, rfl⟩ rfl rfl rfl rfl rfl (by kernel_rfl) Tryd.func10 (by kernel_rfl)
    (of_decide_eq_true (by kernel_rfl)) (by unfold Func.isWrapper; first | (rw [if_pos (by decide +kernel)]; kernel_rfl) | (rw [if_neg (by decide +kernel)]; exact ⟨rfl, rfl⟩))
    (fun os started H enc _ F => by rw [OpenClaim.pre_eq_preRow]; exact lifted os started H enc F)
theorem card_holds : Rows.ResolveThroughFarCardSaid :=
  Claim7.holds_tied_plain_at .later [] [.funcs, .data] true (true, "0407ccd01fd84b1ba019f912a12938fec7519b4bc3503758b1d06eee7da07cad") false
    over (fun _ h => by cases h) (by kernel_rfl) (fun _ h => by cases h) resolveThroughFar_row_tie rfl ⟨rfl, rfl⟩ (by kernel_rfl) rfl
    (fun f fn hf hfn => by
      obtain rfl : f = 10 := Option.some.inj ((show Tryd.prog.funcNamed "capnp/capnplaw08.ResolveThroughFar" = some 10 by kernel_rfl).symm.trans hf) |>.symm
      obtain rfl : fn = Tryd.f10 := (Option.some.inj (Tryd.func10.symm.trans hfn)).symm
      exact ⟨by kernel_rfl, fun j t ht => by
        rw [Tryd.params10] at ht
        have hm : t ∈ [22, 5, 35] := by simpa using Array.mem_of_getElem? ht
        have hall : ([22, 5, 35].all fun u => !Tryd.prog.wantsStandIn u) = true := by kernel_rfl
        exact (show Tryd.prog.wantsStandIn t = false by simpa using List.all_eq_true.1 hall t hm)⟩)
    (by kernel_rfl)
#print axioms card_holds
end Go.Proofs.YtcjhejopcghgnaaDoor.resolveThroughFar
namespace Go.Proofs.YtcjhejopcghgnaaDoor
theorem resolveThroughFar_holds : Go.Proofs.YtcjhejopcghgnaaDoor.Rows.ResolveThroughFarCardSaid := resolveThroughFar.card_holds
end Go.Proofs.YtcjhejopcghgnaaDoor
