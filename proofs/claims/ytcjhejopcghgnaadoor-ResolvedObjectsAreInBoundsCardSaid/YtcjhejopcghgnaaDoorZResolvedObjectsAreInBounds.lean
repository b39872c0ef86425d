/- This text proves that the law ResolvedObjectsAreInBounds of the given program returns true on every input that its statement covers, as the statement says it. Its conditions are the statement's own. -/
import Derived.Test.YtcjhejopcghgnaaDoorBR81
import Derived.Test.YtcjhejopcghgnaaDoorBR82
import Derived.Test.YtcjhejopcghgnaaDoorBR83
import Derived.Test.YtcjhejopcghgnaaDoorRows
import Derived.Test.YtcjhejopcghgnaaDoorCards
import Derived.Test.YtcjhejopcghgnaaDoorTie
import Derived.WalkKit
import Derived.ProofKit
import Derived.OpenShut
import Derived.ChangeOld
import Derived.SizedLaws
import Derived.SevenTiedAt
import Derived.Deep.DeepHandedRow
import Derived.Deep.DeepWitnessRowRef
namespace Go.Proofs.YtcjhejopcghgnaaDoor.P
open Go.RowKit Go.Proofs.YtcjhejopcghgnaaDoorW.PrintWords Go.Proofs.YtcjhejopcghgnaaDoorW.PrintLast Go.Proofs.YtcjhejopcghgnaaDoorW.PrintMore
attribute [local go_sem] max2_int min2_int max_two min_two max_three min_three max_four min_four   -- for this text's walks alone
set_option linter.unusedVariables false
set_option linter.unusedSimpArgs false

variable {gb : Bool}
theorem eqA46 (d : Nat) (w : World) (x0 y0 : Int) (x1 y1 : Int) (x2 y2 : Int) (x3 y3 : Int) (x4 y4 : Int) (x5 y5 : Int) (x6 y6 : Int) (x7 y7 : Int) :
    (Op.equalIn (d + 2) 46 (.agg #[.int .i64 x0, .int .i64 x1, .int .i64 x2, .int .i64 x3, .int .i64 x4, .int .i64 x5, .int .i64 x6, .int .i64 x7]) (.agg #[.int .i64 y0, .int .i64 y1, .int .i64 y2, .int .i64 y3, .int .i64 y4, .int .i64 y5, .int .i64 y6, .int .i64 y7])).run Tryd.prog w = .ok (x0 == y0 && (x1 == y1 && (x2 == y2 && (x3 == y3 && (x4 == y4 && (x5 == y5 && (x6 == y6 && (x7 == y7)))))))) w := by
  refine eqA_of Tryd.underlying46 (by kernel_rfl) ?_
  refine eqf_cons (by rfl) (by go_simp; rfl) (by go_simp; rfl) (by go_simp) ?_
  refine eqf_cons (by rfl) (by go_simp; rfl) (by go_simp; rfl) (by go_simp) ?_
  refine eqf_cons (by rfl) (by go_simp; rfl) (by go_simp; rfl) (by go_simp) ?_
  refine eqf_cons (by rfl) (by go_simp; rfl) (by go_simp; rfl) (by go_simp) ?_
  refine eqf_cons (by rfl) (by go_simp; rfl) (by go_simp; rfl) (by go_simp) ?_
  refine eqf_cons (by rfl) (by go_simp; rfl) (by go_simp; rfl) (by go_simp) ?_
  refine eqf_cons (by rfl) (by go_simp; rfl) (by go_simp; rfl) (by go_simp) ?_
  exact eqf_last (by rfl) (by go_simp; rfl) (by go_simp; rfl) (by go_simp)
end Go.Proofs.YtcjhejopcghgnaaDoor.P

namespace Go.Proofs.YtcjhejopcghgnaaDoor.P
open Go.RowKit Go.Proofs.YtcjhejopcghgnaaDoorW.PrintWords Go.Proofs.YtcjhejopcghgnaaDoorW.PrintLast Go.Proofs.YtcjhejopcghgnaaDoorW.PrintMore
attribute [local go_sem] max2_int min2_int max_two min_two max_three min_three max_four min_four   -- for this text's walks alone
set_option linter.unusedVariables false
set_option linter.unusedSimpArgs false

variable {gb : Bool}
attribute [local go_sem high] eqA46
/-! ### capnplaw08_ResolvedObjectsAreInBounds: function 8 -/
mutual
def capnplaw08_ResolvedObjectsAreInBounds.j0 : Nat → List (List Int) → Int → Int → Int → Bool → Option (Bool)
  | 0, _, _, _, _, _ => none
  | k + 1, x0, x1, x2, x3, x22 => if x22 = true then ((capnplaw08_awake.f).bind fun t497 => (some t497)) else ((resolve_Object.f k x0 x1 x2).bind fun bt498 => (if bt498.2.2.2.2.2.2.2.2 = 0 then (if bt498.1 = 0 then (some (bt498.1 == 0 && (bt498.2.1 == 0 && (bt498.2.2.1 == 0 && (bt498.2.2.2.1 == 0 && (bt498.2.2.2.2.1 == 0 && (bt498.2.2.2.2.2.1 == 0 && (bt498.2.2.2.2.2.2.1 == 0 && (bt498.2.2.2.2.2.2.2.1 == 0))))))))) else ((resolve_Pointers.f k bt498.1 bt498.2.1 bt498.2.2.1 bt498.2.2.2.1 bt498.2.2.2.2.1 bt498.2.2.2.2.2.1 bt498.2.2.2.2.2.2.1 bt498.2.2.2.2.2.2.2.1).bind fun bt508 => (if bt498.2.2.2.2.2.2.2.1 < 0 then (capnplaw08_ResolvedObjectsAreInBounds.j1 k x0 x3 true bt498.1 bt498.2.1 bt498.2.2.1 bt498.2.2.2.1 bt498.2.2.2.2.1 bt498.2.2.2.2.2.1 bt498.2.2.2.2.2.2.1 bt498.2.2.2.2.2.2.2.1) else (if bt508.2 > 0 then ((capnpref05_InBounds.f x0 bt498.2.1 bt508.1 bt508.2).bind fun t510 => (capnplaw08_ResolvedObjectsAreInBounds.j1 k x0 x3 (!t510) bt498.1 bt498.2.1 bt498.2.2.1 bt498.2.2.2.1 bt498.2.2.2.2.1 bt498.2.2.2.2.2.1 bt498.2.2.2.2.2.2.1 bt498.2.2.2.2.2.2.2.1)) else (capnplaw08_ResolvedObjectsAreInBounds.j1 k x0 x3 false bt498.1 bt498.2.1 bt498.2.2.1 bt498.2.2.2.1 bt498.2.2.2.2.1 bt498.2.2.2.2.2.1 bt498.2.2.2.2.2.2.1 bt498.2.2.2.2.2.2.2.1))))) else (some (bt498.1 == 0 && (bt498.2.1 == 0 && (bt498.2.2.1 == 0 && (bt498.2.2.2.1 == 0 && (bt498.2.2.2.2.1 == 0 && (bt498.2.2.2.2.2.1 == 0 && (bt498.2.2.2.2.2.2.1 == 0 && (bt498.2.2.2.2.2.2.2.1 == 0)))))))))))
def capnplaw08_ResolvedObjectsAreInBounds.j1 : Nat → List (List Int) → Int → Bool → Int → Int → Int → Int → Int → Int → Int → Int → Option (Bool)
  | 0, _, _, _, _, _, _, _, _, _, _, _ => none
  | k + 1, x0, x3, x62, x508000, x508001, x508002, x508003, x508004, x508005, x508006, x508007 => if x62 = true then (some false) else (if x508000 = 1 then ((capnpref05_InBounds.f x0 x508001 x508002 (wrap64 (x508003 + x508004))).bind fun t511 => (if t511 = true then (some (x508007 == (wrap64 (x508003 + x508004)))) else (some false))) else (if x508005 = 7 then (if x508006 < 0 then (capnplaw08_ResolvedObjectsAreInBounds.j2 k x0 x3 true x508000 x508001 x508002 x508003 x508004 x508005 x508006 x508007) else (if (wrap64 ((wrap64 (x508006 * (wrap64 (x508003 + x508004)))) + 1)) > x508007 then (capnplaw08_ResolvedObjectsAreInBounds.j2 k x0 x3 true x508000 x508001 x508002 x508003 x508004 x508005 x508006 x508007) else ((capnpref05_InBounds.f x0 x508001 x508002 (wrap64 (x508006 * (wrap64 (x508003 + x508004))))).bind fun t513 => (capnplaw08_ResolvedObjectsAreInBounds.j2 k x0 x3 (!t513) x508000 x508001 x508002 x508003 x508004 x508005 x508006 x508007)))) else ((capnpref05_InBounds.f x0 x508001 x508002 x508007).bind fun t512 => (if t512 = true then (if x508003 = 0 then (some (x508004 == 0)) else (some false)) else (some false)))))
def capnplaw08_ResolvedObjectsAreInBounds.j2 : Nat → List (List Int) → Int → Bool → Int → Int → Int → Int → Int → Int → Int → Int → Option (Bool)
  | 0, _, _, _, _, _, _, _, _, _, _, _ => none
  | k + 1, x0, x3, x141, x508000, x508001, x508002, x508003, x508004, x508005, x508006, x508007 => if x141 = true then (some false) else (if x508006 = 0 then (some true) else ((resolve_Element.f x508000 x508001 x508002 x508003 x508004 x508005 x508006 x508007 (Int.tmod (wrap64 (x3)) x508006)).bind fun bt514 => ((resolve_Pointers.f k bt514.1 bt514.2.1 bt514.2.2.1 bt514.2.2.2.1 bt514.2.2.2.2.1 bt514.2.2.2.2.2.1 bt514.2.2.2.2.2.2.1 bt514.2.2.2.2.2.2.2).bind fun bt523 => ((capnpref05_InBounds.f x0 bt514.2.1 bt514.2.2.1 (wrap64 (bt514.2.2.2.1 + bt514.2.2.2.2.1))).bind fun t525 => (if t525 = true then (if bt523.2 = 0 then (some true) else ((capnpref05_InBounds.f x0 bt514.2.1 bt523.1 bt523.2).bind fun t526 => (some t526))) else (some false))))))
end
def capnplaw08_ResolvedObjectsAreInBounds.f (k : Nat) (l0 : List (List Int)) (a1 a2 a3 : Int) : Option (Bool) := (capnplaw08_awake.f).bind fun t495 => (if t495 = true then ((capnpref04_Few.f k l0).bind fun t496 => (capnplaw08_ResolvedObjectsAreInBounds.j0 k l0 a1 a2 a3 (!t496))) else (capnplaw08_ResolvedObjectsAreInBounds.j0 k l0 a1 a2 a3 true))
theorem capnplaw08_ResolvedObjectsAreInBounds.mono_l : ∀ k, (∀ y0 y1 y2 y3 y4, LeO (capnplaw08_ResolvedObjectsAreInBounds.j0 k y0 y1 y2 y3 y4) (capnplaw08_ResolvedObjectsAreInBounds.j0 (k + 1) y0 y1 y2 y3 y4)) ∧ (∀ y0 y1 y2 y3 y4 y5 y6 y7 y8 y9 y10, LeO (capnplaw08_ResolvedObjectsAreInBounds.j1 k y0 y1 y2 y3 y4 y5 y6 y7 y8 y9 y10) (capnplaw08_ResolvedObjectsAreInBounds.j1 (k + 1) y0 y1 y2 y3 y4 y5 y6 y7 y8 y9 y10)) ∧ (∀ y0 y1 y2 y3 y4 y5 y6 y7 y8 y9 y10, LeO (capnplaw08_ResolvedObjectsAreInBounds.j2 k y0 y1 y2 y3 y4 y5 y6 y7 y8 y9 y10) (capnplaw08_ResolvedObjectsAreInBounds.j2 (k + 1) y0 y1 y2 y3 y4 y5 y6 y7 y8 y9 y10))
  | 0 => ⟨fun _ _ _ _ _ r h => by simp [capnplaw08_ResolvedObjectsAreInBounds.j0] at h, fun _ _ _ _ _ _ _ _ _ _ _ r h => by simp [capnplaw08_ResolvedObjectsAreInBounds.j1] at h, fun _ _ _ _ _ _ _ _ _ _ _ r h => by simp [capnplaw08_ResolvedObjectsAreInBounds.j2] at h⟩
  | k + 1 => by
    obtain ⟨ih0, ih1, ih2⟩ := capnplaw08_ResolvedObjectsAreInBounds.mono_l k
    refine ⟨?_, ?_, ?_⟩
    · intro y0 y1 y2 y3 y4
      unfold capnplaw08_ResolvedObjectsAreInBounds.j0
      repeat' first
      | (with_reducible apply ih1)
      | (with_reducible apply resolve_Object.mono)
      | (with_reducible apply resolve_Pointers.mono)
      | (with_reducible exact LeO.refl _)
      | (with_reducible refine LeO.ite ?_ ?_)
      | (with_reducible refine LeO.bind ?_ (fun _ => ?_))
    · intro y0 y1 y2 y3 y4 y5 y6 y7 y8 y9 y10
      unfold capnplaw08_ResolvedObjectsAreInBounds.j1
      repeat' first
      | (with_reducible apply ih2)
      | (with_reducible exact LeO.refl _)
      | (with_reducible refine LeO.ite ?_ ?_)
      | (with_reducible refine LeO.bind ?_ (fun _ => ?_))
    · intro y0 y1 y2 y3 y4 y5 y6 y7 y8 y9 y10
      unfold capnplaw08_ResolvedObjectsAreInBounds.j2
      repeat' first
      | (with_reducible apply resolve_Pointers.mono)
      | (with_reducible exact LeO.refl _)
      | (with_reducible refine LeO.ite ?_ ?_)
      | (with_reducible refine LeO.bind ?_ (fun _ => ?_))
theorem capnplaw08_ResolvedObjectsAreInBounds.mono : ∀ a0 a1 a2 a3 k, LeO (capnplaw08_ResolvedObjectsAreInBounds.f k a0 a1 a2 a3) (capnplaw08_ResolvedObjectsAreInBounds.f (k + 1) a0 a1 a2 a3) := by
  intro a0 a1 a2 a3 k
  obtain ⟨ih0, ih1, ih2⟩ := capnplaw08_ResolvedObjectsAreInBounds.mono_l k
  unfold capnplaw08_ResolvedObjectsAreInBounds.f
  repeat' first
      | (with_reducible apply ih0)
      | (with_reducible apply capnpref04_Few.mono)
      | (with_reducible exact LeO.refl _)
      | (with_reducible refine LeO.ite ?_ ?_)
      | (with_reducible refine LeO.bind ?_ (fun _ => ?_))
def capnplaw08_ResolvedObjectsAreInBounds.T19 : Bool × List (List Nat × List Nat) := (true, [([], []), ([], []), ([1], [1]), ([], []), ([3], [3]), ([2, 4], [2, 4]), ([0, 5], [0, 5]), ([], []), ([7, 6, 6, 0, 1, 2, 3, 4, 5, 6, 7], [6, 7])])
def capnplaw08_ResolvedObjectsAreInBounds.B19 : List Nat := [0, 0, 2, 0, 8, 30, 63, 0, 255]
theorem capnplaw08_ResolvedObjectsAreInBounds.tab19 : rtab .any (opsOf Tryd.f8 19) = capnplaw08_ResolvedObjectsAreInBounds.T19 := by kernel_rfl
theorem capnplaw08_ResolvedObjectsAreInBounds.bits19 : waitsOk capnplaw08_ResolvedObjectsAreInBounds.T19.2 capnplaw08_ResolvedObjectsAreInBounds.B19 = true := by kernel_rfl
set_option maxHeartbeats 8000000 in
set_option maxRecDepth 100000 in
theorem capnplaw08_ResolvedObjectsAreInBounds.calls (k : Nat) (A0 : Option Addr) (c0 : Nat) (l0 : List (List Int)) (a1 a2 a3 : Int) (r : Bool) (w : World) (hG : Glob true w) (hr0 : Kd.C (Kd.slice 23 (Kd.int .u64)) w A0 l0.length l0) (hc0 : l0.length ≤ c0) (h : capnplaw08_ResolvedObjectsAreInBounds.f k l0 a1 a2 a3 = some r) :
    Calls Tryd.prog 8 #[.slice A0 l0.length c0, .int .i64 a1, .int .i64 a2, .int .u16 a3] w fun e w' => e = .returned (.bool r) ∧ Below w.heap.size w w' := by
  have HG := Aside0.mk hG
  clear hG
  have HR0 := Aside0.mk hr0
  have HC0 := Aside0.mk hc0
  clear hr0 hc0
  have HB := Aside0.mk (Below.refl w.heap.size w)
  have H : ((capnplaw08_awake.f).bind fun t495 => (if t495 = true then ((capnpref04_Few.f k l0).bind fun t496 => (capnplaw08_ResolvedObjectsAreInBounds.j0 k l0 a1 a2 a3 (!t496))) else (capnplaw08_ResolvedObjectsAreInBounds.j0 k l0 a1 a2 a3 true))) = some r := h
  clear h
  have HC5 := Aside0.mk H
  clear H
  go_enter Tryd.func8, Tryd.ntmps8
  go_upto_region 1 with (fail)
  go_cut [22] (fun v22 wc => ∃ (kq : Nat) (x22_4 : Bool), v22 = .bool x22_4 ∧ Aside0 (capnplaw08_ResolvedObjectsAreInBounds.j0 kq l0 a1 a2 a3 x22_4 = some r) ∧ Aside0 (kq ≤ k) ∧ Aside0 (Below w.heap.size w wc))
  case first =>
    have H := HC5.out
    clear HC5
    replace H := Option.bind_eq_some_iff.mp H
    obtain ⟨t495, A60, H⟩ := H
    have A6 := Aside0.mk A60
    clear A60
    by_cases c7 : t495 = true
    · subst c7
      have H1 : ((capnpref04_Few.f k l0).bind fun t496 => (capnplaw08_ResolvedObjectsAreInBounds.j0 k l0 a1 a2 a3 (!t496))) = some r := by rw [if_pos rfl] at H; exact H
      clear H
      have H := H1
      clear H1
      replace H := Option.bind_eq_some_iff.mp H
      obtain ⟨t496, A80, H⟩ := H
      replace H : (capnplaw08_ResolvedObjectsAreInBounds.j0 k l0 a1 a2 a3 (!t496)) = some r := H
      have A8 := Aside0.mk A80
      clear A80
      have H' := Aside0.mk H
      clear H
      go_wp2_with (first | ((with_reducible refine gate_callee (f := 23) rfl ?_); refine goesL_ (some 16) rfl rfl Tryd.func23 (by kernel_rfl) rfl #[] rfl (by (try simp only [List.map_toArray, List.map_cons, List.map_nil]); done) ?_; (with_reducible refine (capnplaw08_awake.calls  true _ ?side1 A6.out).mono ?_); (case side1 => exact Glob.below HG.out HB.out); rintro e w9 ⟨rfl, hb⟩; refine ⟨_, rfl, ?_⟩; replace HB := Aside0.mk (below_step HB.out hb); (try clear hb)) | (go_at_call 13; (with_reducible refine (capnpref04_Few.calls k _ _ l0 t496 _ ?side1 ?side2 A8.out).mono ?_); (case side1 => repeat ((exact (Kd.C_below HR0.out HB.out)))); (case side2 => exact HC0.out); rintro e w' ⟨rfl, ⟨nd, rfl⟩⟩))
      go_meet
      case rel => exact ⟨_, (!t496), (by rfl), H', ⟨by omega⟩, ⟨by repeat ((with_reducible first | exact HB.out | apply pw_below_drewN))⟩⟩
    · replace c7 := Bool.eq_false_iff.mpr c7
      subst c7
      have H1 : (capnplaw08_ResolvedObjectsAreInBounds.j0 k l0 a1 a2 a3 true) = some r := by rw [if_neg (show ¬ (false = true) by decide)] at H; exact H
      clear H
      have H := H1
      clear H1
      have H' := Aside0.mk H
      clear H
      go_wp2_with (((with_reducible refine gate_callee (f := 23) rfl ?_); refine goesL_ (some 16) rfl rfl Tryd.func23 (by kernel_rfl) rfl #[] rfl (by (try simp only [List.map_toArray, List.map_cons, List.map_nil]); done) ?_; (with_reducible refine (capnplaw08_awake.calls  false _ ?side1 A6.out).mono ?_); (case side1 => exact Glob.below HG.out HB.out); rintro e w10 ⟨rfl, hb⟩; refine ⟨_, rfl, ?_⟩; replace HB := Aside0.mk (below_step HB.out hb); (try clear hb)))
      go_meet
      case rel => exact ⟨_, (true), (by rfl), H', ⟨by omega⟩, ⟨by repeat ((with_reducible exact HB.out))⟩⟩
  case rest =>
    clear HC5
    skip
    skip
    skip
    skip
    obtain ⟨kq, x22_4, rfl, HA, HJ4, HB⟩ := hcut
    cases kq with
    | zero => exact absurd HA.out (by simp [capnplaw08_ResolvedObjectsAreInBounds.j0])
    | succ kj4 =>
      have H := HA.out
      clear HA
      simp only [capnplaw08_ResolvedObjectsAreInBounds.j0] at H
      by_cases c11 : x22_4 = true
      · subst c11
        have H1 : ((capnplaw08_awake.f).bind fun t497 => (some t497)) = some r := by rw [if_pos rfl] at H; exact H
        clear H
        have H := H1
        clear H1
        replace H := Option.bind_eq_some_iff.mp H
        obtain ⟨t497, A120, H⟩ := H
        replace H : (some t497) = some r := H
        have A12 := Aside0.mk A120
        clear A120
        obtain rfl := Option.some.inj H
        go_wp2_with (((with_reducible refine gate_callee (f := 23) rfl ?_); refine goesL_ (some 23) rfl rfl Tryd.func23 (by kernel_rfl) rfl #[] rfl (by (try simp only [List.map_toArray, List.map_cons, List.map_nil]); done) ?_; (with_reducible refine (capnplaw08_awake.calls  t497 _ ?side1 A12.out).mono ?_); (case side1 => exact Glob.below HG.out HB.out); rintro e w13 ⟨rfl, hb⟩; refine ⟨_, rfl, ?_⟩; replace HB := Aside0.mk (below_step HB.out hb); (try clear hb)))
        go_ret
        exact ⟨by rfl, by repeat ((with_reducible exact HB.out))⟩
      · replace c11 := Bool.eq_false_iff.mpr c11
        subst c11
        have H1 : ((resolve_Object.f kj4 l0 a1 a2).bind fun bt498 => (if bt498.2.2.2.2.2.2.2.2 = 0 then (if bt498.1 = 0 then (some (bt498.1 == 0 && (bt498.2.1 == 0 && (bt498.2.2.1 == 0 && (bt498.2.2.2.1 == 0 && (bt498.2.2.2.2.1 == 0 && (bt498.2.2.2.2.2.1 == 0 && (bt498.2.2.2.2.2.2.1 == 0 && (bt498.2.2.2.2.2.2.2.1 == 0))))))))) else ((resolve_Pointers.f kj4 bt498.1 bt498.2.1 bt498.2.2.1 bt498.2.2.2.1 bt498.2.2.2.2.1 bt498.2.2.2.2.2.1 bt498.2.2.2.2.2.2.1 bt498.2.2.2.2.2.2.2.1).bind fun bt508 => (if bt498.2.2.2.2.2.2.2.1 < 0 then (capnplaw08_ResolvedObjectsAreInBounds.j1 kj4 l0 a3 true bt498.1 bt498.2.1 bt498.2.2.1 bt498.2.2.2.1 bt498.2.2.2.2.1 bt498.2.2.2.2.2.1 bt498.2.2.2.2.2.2.1 bt498.2.2.2.2.2.2.2.1) else (if bt508.2 > 0 then ((capnpref05_InBounds.f l0 bt498.2.1 bt508.1 bt508.2).bind fun t510 => (capnplaw08_ResolvedObjectsAreInBounds.j1 kj4 l0 a3 (!t510) bt498.1 bt498.2.1 bt498.2.2.1 bt498.2.2.2.1 bt498.2.2.2.2.1 bt498.2.2.2.2.2.1 bt498.2.2.2.2.2.2.1 bt498.2.2.2.2.2.2.2.1)) else (capnplaw08_ResolvedObjectsAreInBounds.j1 kj4 l0 a3 false bt498.1 bt498.2.1 bt498.2.2.1 bt498.2.2.2.1 bt498.2.2.2.2.1 bt498.2.2.2.2.2.1 bt498.2.2.2.2.2.2.1 bt498.2.2.2.2.2.2.2.1))))) else (some (bt498.1 == 0 && (bt498.2.1 == 0 && (bt498.2.2.1 == 0 && (bt498.2.2.2.1 == 0 && (bt498.2.2.2.2.1 == 0 && (bt498.2.2.2.2.2.1 == 0 && (bt498.2.2.2.2.2.2.1 == 0 && (bt498.2.2.2.2.2.2.2.1 == 0))))))))))) = some r := by rw [if_neg (show ¬ (false = true) by decide)] at H; exact H
        clear H
        have H := H1
        clear H1
        replace H := Option.bind_eq_some_iff.mp H
        obtain ⟨⟨t498, t499, t500, t501, t502, t503, t504, t505, t506⟩, A140, H⟩ := H
        dsimp only at H
        have A14 := Aside0.mk A140
        clear A140
        by_cases c15 : t506 = 0
        · rw [if_pos c15] at H
          have c15b1 : (t506 != 0) = false := bne_eq_false_iff_eq.mpr c15
          clear c15
          by_cases c16 : t498 = 0
          · rw [if_pos c16] at H
            have c16b0 : (t498 == 0) = true := beq_iff_eq.mpr c16
            clear c16
            obtain rfl := Option.some.inj H
            go_wp2_with (first | ((with_reducible refine gate_callee (f := 24) rfl ?_); refine goesL_ (some 28) rfl rfl Tryd.func24 (by kernel_rfl) rfl #[.slice A0 l0.length c0, .int .i64 a1, .int .i64 a2] rfl (by (try simp only [List.map_toArray, List.map_cons, List.map_nil]); rfl) ?_; (with_reducible refine (resolve_Object.calls kj4 _ _ l0 a1 a2 t498 t499 t500 t501 t502 t503 t504 t505 t506 _ ?side1 ?side2 ?side3 A14.out).mono ?_); (case side1 => exact Glob.below HG.out HB.out); (case side2 => repeat ((exact (Kd.C_below HR0.out HB.out)))); (case side3 => exact HC0.out); rintro e w17 ⟨rfl, hb⟩; refine ⟨_, rfl, ?_⟩; replace HB := Aside0.mk (below_step HB.out hb); (try clear hb)) | ((with_reducible refine gate_dst (N := 9) rfl ?_); refine box_event ?hg (N := 9) ?hd (cs := #[.int .i64 0, .int .i64 0, .int .i64 0, .int .i64 0, .int .i64 0, .int .i64 0, .int .i64 0, .int .i64 0]) (t := 46) ?hr ?_; (case hd => rfl); (case hg => rfl); (case hr => (go_simp; done)); intro gb507 hg w18 hbox hb; replace BK507 := Aside0.mk (hbox); replace GE507 := Aside0.mk (ge_of HB.out hg); replace HB := Aside0.mk (below_step HB.out hb); clear hb hbox hg; obtain ⟨hcz19_0, hcz19_1, hcz19_2, hcz19_3, hcz19_4, hcz19_5, hcz19_6, hcz19_7⟩ := cells8 BK507.out; obtain ⟨hfz19_0, hfz19_1, hfz19_2, hfz19_3, hfz19_4, hfz19_5, hfz19_6, hfz19_7⟩ := frz8 BK507.out))
            go_ret
            exact ⟨by rfl, by repeat ((with_reducible first | exact HB.out | refine below_set ?_ GE507.out))⟩
          · rw [if_neg c16] at H
            have c16b0 : (t498 == 0) = false := beq_eq_false_iff_ne.mpr c16
            replace H := Option.bind_eq_some_iff.mp H
            obtain ⟨⟨t508, t509⟩, A200, H⟩ := H
            dsimp only at H
            have A20 := Aside0.mk A200
            clear A200
            have HC21 := Aside0.mk H
            clear H
            go_upto_region 9 with (first | ((with_reducible refine gate_callee (f := 24) rfl ?_); refine goesL_ (some 28) rfl rfl Tryd.func24 (by kernel_rfl) rfl #[.slice A0 l0.length c0, .int .i64 a1, .int .i64 a2] rfl (by (try simp only [List.map_toArray, List.map_cons, List.map_nil]); rfl) ?_; (with_reducible refine (resolve_Object.calls kj4 _ _ l0 a1 a2 t498 t499 t500 t501 t502 t503 t504 t505 t506 _ ?side1 ?side2 ?side3 A14.out).mono ?_); (case side1 => exact Glob.below HG.out HB.out); (case side2 => repeat ((exact (Kd.C_below HR0.out HB.out)))); (case side3 => exact HC0.out); rintro e w22 ⟨rfl, hb⟩; refine ⟨_, rfl, ?_⟩; replace HB := Aside0.mk (below_step HB.out hb); (try clear hb)) | ((with_reducible refine gate_dst (N := 9) rfl ?_); refine box_event ?hg (N := 9) ?hd (cs := #[.int .i64 0, .int .i64 0, .int .i64 0, .int .i64 0, .int .i64 0, .int .i64 0, .int .i64 0, .int .i64 0]) (t := 46) ?hr ?_; (case hd => rfl); (case hg => rfl); (case hr => (go_simp; done)); intro gb507 hg w23 hbox hb; replace BK507 := Aside0.mk (hbox); replace GE507 := Aside0.mk (ge_of HB.out hg); replace HB := Aside0.mk (below_step HB.out hb); clear hb hbox hg; obtain ⟨hcz24_0, hcz24_1, hcz24_2, hcz24_3, hcz24_4, hcz24_5, hcz24_6, hcz24_7⟩ := cells8 BK507.out; obtain ⟨hfz24_0, hfz24_1, hfz24_2, hfz24_3, hfz24_4, hfz24_5, hfz24_6, hfz24_7⟩ := frz8 BK507.out) | ((with_reducible refine gate_callee (f := 26) rfl ?_); refine goesL_ (some 44) rfl rfl Tryd.func26 (by kernel_rfl) rfl #[.agg #[.int .i64 t498, .int .i64 t499, .int .i64 t500, .int .i64 t501, .int .i64 t502, .int .i64 t503, .int .i64 t504, .int .i64 t505]] rfl (by (try simp only [List.map_toArray, List.map_cons, List.map_nil]); rfl) ?_; (with_reducible refine (resolve_Pointers.calls kj4 t498 t499 t500 t501 t502 t503 t504 t505 t508 t509 _ A20.out).mono ?_); rintro e w25 ⟨rfl, hb⟩; refine ⟨_, rfl, ?_⟩; replace BK507 := Aside0.mk (blk_below (g := gb507) (o := .cells #[.int .i64 t498, .int .i64 t499, .int .i64 t500, .int .i64 t501, .int .i64 t502, .int .i64 t503, .int .i64 t504, .int .i64 t505] 46 (0, 0)) (by exact put8 BK507.out) hb); replace HB := Aside0.mk (below_step (by repeat ((with_reducible first | exact HB.out | refine below_set ?_ GE507.out))) hb); (try clear hb)))
            (skip)
            go_cut [62] (fun v62 wc => ∃ (kq : Nat) (x62_20 : Bool), v62 = .bool x62_20 ∧ Aside0 (capnplaw08_ResolvedObjectsAreInBounds.j1 kq l0 a3 x62_20 t498 t499 t500 t501 t502 t503 t504 t505 = some r) ∧ Aside0 (kq ≤ kj4) ∧ Aside0 (wc.heap[gb507]? = some (.cells #[.int .i64 t498, .int .i64 t499, .int .i64 t500, .int .i64 t501, .int .i64 t502, .int .i64 t503, .int .i64 t504, .int .i64 t505] 46 (0, 0))) ∧ Aside0 (Below w.heap.size w wc))
            case first =>
              have H := HC21.out
              clear HC21
              by_cases c26 : t505 < 0
              · rw [if_pos c26] at H
                have c26b0 : decide (t505 < 0) = true := decide_eq_true c26
                clear c26
                (skip)
                have H' := Aside0.mk H
                clear H
                have hcz27_7 : w25.cell? ⟨gb507, 7, none⟩ = some (.int .i64 t505) := (blk_cell BK507.out 7).trans rfl
                go_wp2
                go_meet
                case rel => exact ⟨_, (true), (by rfl), H', ⟨by omega⟩, ⟨by exact BK507.out⟩, ⟨by repeat ((with_reducible exact HB.out))⟩⟩
              · rw [if_neg c26] at H
                have c26b0 : decide (t505 < 0) = false := decide_eq_false c26
                clear c26
                (skip)
                by_cases c28 : t509 > 0
                · rw [if_pos c28] at H
                  have c28b0 : decide (0 < t509) = true := decide_eq_true c28
                  clear c28
                  replace H := Option.bind_eq_some_iff.mp H
                  obtain ⟨t510, A290, H⟩ := H
                  replace H : (capnplaw08_ResolvedObjectsAreInBounds.j1 kj4 l0 a3 (!t510) t498 t499 t500 t501 t502 t503 t504 t505) = some r := H
                  have A29 := Aside0.mk A290
                  clear A290
                  have H' := Aside0.mk H
                  clear H
                  obtain ⟨-, hcz30_1, -, -, -, -, -, hcz30_7⟩ := cells8 BK507.out
                  go_wp2_with ((go_at_call 30; (with_reducible refine (capnpref05_InBounds.calls _ _ l0 t499 t508 t509 t510 _ ?side1 ?side2 A29.out).mono ?_); (case side1 => repeat ((exact (Kd.C_below HR0.out HB.out)))); (case side2 => exact HC0.out); rintro e w' ⟨rfl, ⟨nd, rfl⟩⟩))
                  go_meet
                  case rel => exact ⟨_, (!t510), (by rfl), H', ⟨by omega⟩, ⟨by (with_reducible repeat ((refine blk_drewN ?_ _))); exact BK507.out⟩, ⟨by repeat ((with_reducible first | exact HB.out | apply pw_below_drewN))⟩⟩
                · rw [if_neg c28] at H
                  have c28b0 : decide (0 < t509) = false := decide_eq_false c28
                  clear c28
                  have H' := Aside0.mk H
                  clear H
                  have hcz31_7 : w25.cell? ⟨gb507, 7, none⟩ = some (.int .i64 t505) := (blk_cell BK507.out 7).trans rfl
                  go_wp2
                  go_meet
                  case rel => exact ⟨_, (false), (by rfl), H', ⟨by omega⟩, ⟨by exact BK507.out⟩, ⟨by repeat ((with_reducible exact HB.out))⟩⟩
            case rest =>
              clear HC21
              skip
              skip
              skip
              skip
              skip
              skip
              skip
              try clear c15b0
              try clear c15b1
              try clear c16
              try clear c16b0
              try clear c16b1
              skip
              skip
              skip
              skip
              skip
              skip
              skip
              skip
              skip
              skip
              skip
              skip
              skip
              skip
              try clear hcz24_0
              try clear hcz24_1
              try clear hcz24_2
              try clear hcz24_3
              try clear hcz24_4
              try clear hcz24_5
              try clear hcz24_6
              try clear hcz24_7
              skip
              skip
              skip
              skip
              skip
              skip
              skip
              skip
              skip
              skip
              skip
              skip
              skip
              skip
              skip
              skip
              skip
              skip
              skip
              skip
              skip
              skip
              skip
              skip
              skip
              skip
              skip
              skip
              skip
              skip
              skip
              skip
              try clear hfz24_0
              try clear hfz24_1
              try clear hfz24_2
              try clear hfz24_3
              try clear hfz24_4
              try clear hfz24_5
              try clear hfz24_6
              try clear hfz24_7
              skip
              skip
              skip
              skip
              skip
              skip
              skip
              skip
              skip
              skip
              skip
              skip
              skip
              skip
              skip
              skip
              skip
              skip
              skip
              skip
              skip
              skip
              skip
              skip
              skip
              obtain ⟨kq, x62_20, rfl, HA, HJ20, BK507, HB⟩ := hcut
              cases kq with
              | zero => exact absurd HA.out (by simp [capnplaw08_ResolvedObjectsAreInBounds.j1])
              | succ kj20 =>
                have H := HA.out
                clear HA
                simp only [capnplaw08_ResolvedObjectsAreInBounds.j1] at H
                by_cases c32 : x62_20 = true
                · subst c32
                  have H1 : (some false) = some r := by rw [if_pos rfl] at H; exact H
                  clear H
                  have H := H1
                  clear H1
                  obtain rfl := Option.some.inj H
                  go_wp2
                  go_ret
                  exact ⟨by rfl, by repeat ((with_reducible exact HB.out))⟩
                · replace c32 := Bool.eq_false_iff.mpr c32
                  subst c32
                  have H1 : (if t498 = 1 then ((capnpref05_InBounds.f l0 t499 t500 (wrap64 (t501 + t502))).bind fun t511 => (if t511 = true then (some (t505 == (wrap64 (t501 + t502)))) else (some false))) else (if t503 = 7 then (if t504 < 0 then (capnplaw08_ResolvedObjectsAreInBounds.j2 kj20 l0 a3 true t498 t499 t500 t501 t502 t503 t504 t505) else (if (wrap64 ((wrap64 (t504 * (wrap64 (t501 + t502)))) + 1)) > t505 then (capnplaw08_ResolvedObjectsAreInBounds.j2 kj20 l0 a3 true t498 t499 t500 t501 t502 t503 t504 t505) else ((capnpref05_InBounds.f l0 t499 t500 (wrap64 (t504 * (wrap64 (t501 + t502))))).bind fun t513 => (capnplaw08_ResolvedObjectsAreInBounds.j2 kj20 l0 a3 (!t513) t498 t499 t500 t501 t502 t503 t504 t505)))) else ((capnpref05_InBounds.f l0 t499 t500 t505).bind fun t512 => (if t512 = true then (if t501 = 0 then (some (t502 == 0)) else (some false)) else (some false))))) = some r := by rw [if_neg (show ¬ (false = true) by decide)] at H; exact H
                  clear H
                  have H := H1
                  clear H1
                  by_cases c33 : t498 = 1
                  · rw [if_pos c33] at H
                    have c33b0 : (t498 == 1) = true := beq_iff_eq.mpr c33
                    clear c33
                    replace H := Option.bind_eq_some_iff.mp H
                    obtain ⟨t511, A340, H⟩ := H
                    replace H : (if t511 = true then (some (t505 == (wrap64 (t501 + t502)))) else (some false)) = some r := H
                    have A34 := Aside0.mk A340
                    clear A340
                    by_cases c35 : t511 = true
                    · subst c35
                      have H1 : (some (t505 == (wrap64 (t501 + t502)))) = some r := by rw [if_pos rfl] at H; exact H
                      clear H
                      have H := H1
                      clear H1
                      obtain rfl := Option.some.inj H
                      obtain ⟨hcz36_0, hcz36_1, hcz36_2, hcz36_3, hcz36_4, -, -, hcz36_7⟩ := cells8 BK507.out
                      go_wp2_with (((with_reducible refine gate_callee (f := 30) rfl ?_); refine goesL_ (some 76) rfl rfl Tryd.func30 (by kernel_rfl) rfl #[.slice A0 l0.length c0, .int .i64 t499, .int .i64 t500, .int .i64 (wrap64 (t501 + t502))] rfl (by (try simp only [List.map_toArray, List.map_cons, List.map_nil]); rfl) ?_; (with_reducible refine (capnpref05_InBounds.calls _ _ l0 t499 t500 (wrap64 (t501 + t502)) true _ ?side1 ?side2 A34.out).mono ?_); (case side1 => repeat ((exact (Kd.C_below HR0.out HB.out)))); (case side2 => exact HC0.out); rintro e w' ⟨rfl, ⟨nd, rfl⟩⟩; refine ⟨_, rfl, ?_⟩))
                      go_ret
                      exact ⟨by rfl, by repeat ((with_reducible first | exact HB.out | apply pw_below_drewN))⟩
                    · replace c35 := Bool.eq_false_iff.mpr c35
                      subst c35
                      have H1 : (some false) = some r := by rw [if_neg (show ¬ (false = true) by decide)] at H; exact H
                      clear H
                      have H := H1
                      clear H1
                      obtain rfl := Option.some.inj H
                      obtain ⟨hcz37_0, hcz37_1, hcz37_2, hcz37_3, hcz37_4, -, -, -⟩ := cells8 BK507.out
                      go_wp2_with (((with_reducible refine gate_callee (f := 30) rfl ?_); refine goesL_ (some 76) rfl rfl Tryd.func30 (by kernel_rfl) rfl #[.slice A0 l0.length c0, .int .i64 t499, .int .i64 t500, .int .i64 (wrap64 (t501 + t502))] rfl (by (try simp only [List.map_toArray, List.map_cons, List.map_nil]); rfl) ?_; (with_reducible refine (capnpref05_InBounds.calls _ _ l0 t499 t500 (wrap64 (t501 + t502)) false _ ?side1 ?side2 A34.out).mono ?_); (case side1 => repeat ((exact (Kd.C_below HR0.out HB.out)))); (case side2 => exact HC0.out); rintro e w' ⟨rfl, ⟨nd, rfl⟩⟩; refine ⟨_, rfl, ?_⟩))
                      go_ret
                      exact ⟨by rfl, by repeat ((with_reducible first | exact HB.out | apply pw_below_drewN))⟩
                  · rw [if_neg c33] at H
                    have c33b0 : (t498 == 1) = false := beq_eq_false_iff_ne.mpr c33
                    by_cases c38 : t503 = 7
                    · rw [if_pos c38] at H
                      have c38b1 : (t503 != 7) = false := bne_eq_false_iff_eq.mpr c38
                      clear c38
                      have HC39 := Aside0.mk H
                      clear H
                      obtain ⟨hcz40_0, hcz40_1, hcz40_2, hcz40_3, hcz40_4, hcz40_5, hcz40_6, hcz40_7⟩ := cells8 BK507.out
                      go_upto_region 15 with (fail)
                      go_cut [141] (fun v141 wc => ∃ (kq : Nat) (x141_38 : Bool), v141 = .bool x141_38 ∧ Aside0 (capnplaw08_ResolvedObjectsAreInBounds.j2 kq l0 a3 x141_38 t498 t499 t500 t501 t502 t503 t504 t505 = some r) ∧ Aside0 (kq ≤ kj20) ∧ Aside0 (wc.heap[gb507]? = some (.cells #[.int .i64 t498, .int .i64 t499, .int .i64 t500, .int .i64 t501, .int .i64 t502, .int .i64 t503, .int .i64 t504, .int .i64 t505] 46 (0, 0))) ∧ Aside0 (Below w.heap.size w wc))
                      case first =>
                        have H := HC39.out
                        clear HC39
                        by_cases c41 : t504 < 0
                        · rw [if_pos c41] at H
                          have c41b0 : decide (t504 < 0) = true := decide_eq_true c41
                          clear c41
                          (skip)
                          have H' := Aside0.mk H
                          clear H
                          go_wp2
                          go_meet
                          case rel => exact ⟨_, (true), (by rfl), H', ⟨by omega⟩, ⟨by exact BK507.out⟩, ⟨by repeat ((with_reducible exact HB.out))⟩⟩
                        · rw [if_neg c41] at H
                          have c41b0 : decide (t504 < 0) = false := decide_eq_false c41
                          clear c41
                          (skip)
                          by_cases c43 : (wrap64 ((wrap64 (t504 * (wrap64 (t501 + t502)))) + 1)) > t505
                          · rw [if_pos c43] at H
                            have c43b0 : decide (t505 < (wrap64 ((wrap64 (t504 * (wrap64 (t501 + t502)))) + 1))) = true := decide_eq_true c43
                            clear c43
                            have H' := Aside0.mk H
                            clear H
                            go_wp2
                            go_meet
                            case rel => exact ⟨_, (true), (by rfl), H', ⟨by omega⟩, ⟨by exact BK507.out⟩, ⟨by repeat ((with_reducible exact HB.out))⟩⟩
                          · rw [if_neg c43] at H
                            have c43b0 : decide (t505 < (wrap64 ((wrap64 (t504 * (wrap64 (t501 + t502)))) + 1))) = false := decide_eq_false c43
                            clear c43
                            replace H := Option.bind_eq_some_iff.mp H
                            obtain ⟨t513, A450, H⟩ := H
                            replace H : (capnplaw08_ResolvedObjectsAreInBounds.j2 kj20 l0 a3 (!t513) t498 t499 t500 t501 t502 t503 t504 t505) = some r := H
                            have A45 := Aside0.mk A450
                            clear A450
                            have H' := Aside0.mk H
                            clear H
                            go_wp2_with ((go_at_call 30; (with_reducible refine (capnpref05_InBounds.calls _ _ l0 t499 t500 (wrap64 (t504 * (wrap64 (t501 + t502)))) t513 _ ?side1 ?side2 A45.out).mono ?_); (case side1 => repeat ((exact (Kd.C_below HR0.out HB.out)))); (case side2 => exact HC0.out); rintro e w' ⟨rfl, ⟨nd, rfl⟩⟩))
                            go_meet
                            case rel => exact ⟨_, (!t513), (by rfl), H', ⟨by omega⟩, ⟨by (with_reducible repeat ((refine blk_drewN ?_ _))); exact BK507.out⟩, ⟨by repeat ((with_reducible first | exact HB.out | apply pw_below_drewN))⟩⟩
                      case rest =>
                        clear HC39
                        skip
                        skip
                        skip
                        skip
                        skip
                        skip
                        skip
                        skip
                        skip
                        skip
                        skip
                        skip
                        skip
                        skip
                        skip
                        skip
                        skip
                        skip
                        skip
                        skip
                        skip
                        skip
                        skip
                        try clear c33
                        try clear c33b0
                        try clear c33b1
                        skip
                        skip
                        try clear c38b0
                        try clear c38b1
                        skip
                        skip
                        skip
                        skip
                        skip
                        skip
                        skip
                        skip
                        skip
                        skip
                        skip
                        skip
                        skip
                        skip
                        skip
                        skip
                        skip
                        skip
                        skip
                        skip
                        skip
                        skip
                        skip
                        skip
                        skip
                        skip
                        skip
                        skip
                        skip
                        skip
                        skip
                        skip
                        skip
                        skip
                        skip
                        skip
                        skip
                        skip
                        skip
                        skip
                        skip
                        skip
                        skip
                        skip
                        skip
                        skip
                        skip
                        skip
                        skip
                        skip
                        skip
                        skip
                        skip
                        skip
                        skip
                        skip
                        skip
                        skip
                        skip
                        skip
                        try clear hcz40_0
                        try clear hcz40_1
                        try clear hcz40_2
                        try clear hcz40_3
                        try clear hcz40_4
                        try clear hcz40_5
                        try clear hcz40_6
                        try clear hcz40_7
                        skip
                        skip
                        skip
                        skip
                        skip
                        skip
                        skip
                        skip
                        skip
                        skip
                        skip
                        skip
                        skip
                        skip
                        skip
                        skip
                        skip
                        skip
                        skip
                        skip
                        skip
                        skip
                        skip
                        skip
                        skip
                        skip
                        skip
                        skip
                        skip
                        skip
                        skip
                        skip
                        skip
                        skip
                        skip
                        skip
                        skip
                        skip
                        skip
                        skip
                        skip
                        skip
                        skip
                        skip
                        skip
                        skip
                        skip
                        skip
                        skip
                        skip
                        skip
                        skip
                        skip
                        skip
                        skip
                        skip
                        skip
                        skip
                        skip
                        skip
                        skip
                        skip
                        skip
                        skip
                        skip
                        skip
                        skip
                        skip
                        skip
                        skip
                        skip
                        skip
                        skip
                        skip
                        skip
                        skip
                        skip
                        skip
                        skip
                        skip
                        try clear hfz40_0
                        try clear hfz40_1
                        try clear hfz40_2
                        try clear hfz40_3
                        try clear hfz40_4
                        try clear hfz40_5
                        try clear hfz40_6
                        try clear hfz40_7
                        skip
                        skip
                        skip
                        skip
                        skip
                        skip
                        skip
                        skip
                        skip
                        skip
                        skip
                        skip
                        skip
                        skip
                        skip
                        skip
                        skip
                        skip
                        skip
                        skip
                        skip
                        skip
                        skip
                        skip
                        skip
                        obtain ⟨kq, x141_38, rfl, HA, HJ38, BK507, HB⟩ := hcut
                        cases kq with
                        | zero => exact absurd HA.out (by simp [capnplaw08_ResolvedObjectsAreInBounds.j2])
                        | succ kj38 =>
                          have H := HA.out
                          clear HA
                          simp only [capnplaw08_ResolvedObjectsAreInBounds.j2] at H
                          by_cases c47 : x141_38 = true
                          · subst c47
                            have H1 : (some false) = some r := by rw [if_pos rfl] at H; exact H
                            clear H
                            have H := H1
                            clear H1
                            obtain rfl := Option.some.inj H
                            go_wp2
                            go_ret
                            exact ⟨by rfl, by repeat ((with_reducible exact HB.out))⟩
                          · replace c47 := Bool.eq_false_iff.mpr c47
                            subst c47
                            have H1 : (if t504 = 0 then (some true) else ((resolve_Element.f t498 t499 t500 t501 t502 t503 t504 t505 (Int.tmod (wrap64 (a3)) t504)).bind fun bt514 => ((resolve_Pointers.f kj38 bt514.1 bt514.2.1 bt514.2.2.1 bt514.2.2.2.1 bt514.2.2.2.2.1 bt514.2.2.2.2.2.1 bt514.2.2.2.2.2.2.1 bt514.2.2.2.2.2.2.2).bind fun bt523 => ((capnpref05_InBounds.f l0 bt514.2.1 bt514.2.2.1 (wrap64 (bt514.2.2.2.1 + bt514.2.2.2.2.1))).bind fun t525 => (if t525 = true then (if bt523.2 = 0 then (some true) else ((capnpref05_InBounds.f l0 bt514.2.1 bt523.1 bt523.2).bind fun t526 => (some t526))) else (some false)))))) = some r := by rw [if_neg (show ¬ (false = true) by decide)] at H; exact H
                            clear H
                            have H := H1
                            clear H1
                            by_cases c48 : t504 = 0
                            · rw [if_pos c48] at H
                              have c48b0 : (t504 == 0) = true := beq_iff_eq.mpr c48
                              clear c48
                              obtain rfl := Option.some.inj H
                              have hcz49_6 : wc.cell? ⟨gb507, 6, none⟩ = some (.int .i64 t504) := (blk_cell BK507.out 6).trans rfl
                              go_wp2
                              go_ret
                              exact ⟨by rfl, by repeat ((with_reducible exact HB.out))⟩
                            · rw [if_neg c48] at H
                              have c48b0 : (t504 == 0) = false := beq_eq_false_iff_ne.mpr c48
                              replace H := Option.bind_eq_some_iff.mp H
                              obtain ⟨⟨t514, t515, t516, t517, t518, t519, t520, t521⟩, A500, H⟩ := H
                              dsimp only at H
                              have A50 := Aside0.mk A500
                              clear A500
                              replace H := Option.bind_eq_some_iff.mp H
                              obtain ⟨⟨t523, t524⟩, A510, H⟩ := H
                              dsimp only at H
                              have A51 := Aside0.mk A510
                              clear A510
                              replace H := Option.bind_eq_some_iff.mp H
                              obtain ⟨t525, A520, H⟩ := H
                              have A52 := Aside0.mk A520
                              clear A520
                              by_cases c53 : t525 = true
                              · subst c53
                                have H1 : (if t524 = 0 then (some true) else ((capnpref05_InBounds.f l0 t515 t523 t524).bind fun t526 => (some t526))) = some r := by rw [if_pos rfl] at H; exact H
                                clear H
                                have H := H1
                                clear H1
                                by_cases c54 : t524 = 0
                                · rw [if_pos c54] at H
                                  have c54b0 : (t524 == 0) = true := beq_iff_eq.mpr c54
                                  clear c54
                                  obtain rfl := Option.some.inj H
                                  have hcz55_6 : wc.cell? ⟨gb507, 6, none⟩ = some (.int .i64 t504) := (blk_cell BK507.out 6).trans rfl
                                  try go_wp2
                                  have n0_ := Aside0.mk (blk_drew BK507.out)
                                  have n1_ := Aside0.mk (below_drew1 HB.out)
                                  (try clear BK507)
                                  (try clear HB)
                                  have BK507 := n0_
                                  have HB := n1_
                                  (try clear n0_; try clear n1_)
                                  refine start_ (n := 9) (S := fun w' => True) (ds := []) #[false, false, false, false, false, false, false, false, false] (by kernel_rfl) rfl rfl trivial (fun hHeld => ?_); refine with_tabW capnplaw08_ResolvedObjectsAreInBounds.tab19 capnplaw08_ResolvedObjectsAreInBounds.bits19 (fun HT_ HW_ => ?_)
                                  generalize wc.drew = w56 at BK507 HB hHeld ⊢
                                  refine pure_ (i := 1) (N := some 146) (v := ?_) (a' := ?_) #[false, true, false, false, false, false, false, false, false] rfl rfl (any_of HT_.out (by kernel_rfl)) (fun _ _ _ h => h) (Or.inl ⟨by rfl, ?_⟩) ?_ ?_
                                  rotate_left
                                  · intro w'
                                    go_simp
                                    with_reducible rfl
                                  rotate_left
                                  · simp only [Act.put, List.setIfInBounds_toArray, List.set_cons_zero, List.set_cons_succ, i64_w, i32_w]
                                    rfl
                                  refine pure_ (i := 3) (N := some 148) (v := ?_) (a' := ?_) #[false, true, false, true, false, false, false, false, false] rfl rfl (any_of HT_.out (by kernel_rfl)) (fun _ _ _ h => h) (Or.inl ⟨by rfl, ?_⟩) ?_ ?_
                                  rotate_left
                                  · intro w'
                                    go_simp
                                    with_reducible rfl
                                  rotate_left
                                  · simp only [Act.put, List.setIfInBounds_toArray, List.set_cons_zero, List.set_cons_succ, i64_w, i32_w]
                                    rfl
                                  refine inv_at [0, 2, 4, 5, 6, 7, 8] (fun a0_ b a w' => ∃ (gb522 : Nat) (m7_ : Value), a = putSel a0_ b [(0, 145, .agg #[.int .i64 t498, .int .i64 t499, .int .i64 t500, .int .i64 t501, .int .i64 t502, .int .i64 t503, .int .i64 t504, .int .i64 t505]), (2, 147, .int .i64 (wrap64 (a3))), (4, 149, .int .i64 t504), (5, 150, .int .i64 (Int.tmod (wrap64 (a3)) t504)), (6, 151, .agg #[.int .i64 t514, .int .i64 t515, .int .i64 t516, .int .i64 t517, .int .i64 t518, .int .i64 t519, .int .i64 t520, .int .i64 t521]), (7, 13, m7_)] ∧ (w'.heap[gb507]? = some (.cells #[.int .i64 t498, .int .i64 t499, .int .i64 t500, .int .i64 t501, .int .i64 t502, .int .i64 t503, .int .i64 t504, .int .i64 t505] 46 (0, 0))) ∧ (Below w.heap.size w w') ∧ (b 7 = true → b 8 = false → w'.heap[gb522]? = some (.cells #[.int .i64 0, .int .i64 0, .int .i64 0, .int .i64 0, .int .i64 0, .int .i64 0, .int .i64 0, .int .i64 0] 46 (0, 0))) ∧ (b 7 = true → w.heap.size ≤ gb522) ∧ (b 7 = true → w.heap.size ≤ gb522) ∧ (b 7 = true → gb507 ≠ gb522) ∧ (b 7 = true → gb522 ≠ gb507) ∧ (b 8 = true → w'.heap[gb522]? = some (.cells #[.int .i64 t514, .int .i64 t515, .int .i64 t516, .int .i64 t517, .int .i64 t518, .int .i64 t519, .int .i64 t520, .int .i64 t521] 46 (0, 0))) ∧ (b 7 = true → (m7_ : Value) = .pointer (some ⟨gb522, 0, none⟩))) HT_.out HW_.out (by kernel_rfl) (by kernel_rfl) ?_ ?_ ?_
                                  · exact ⟨0, .bool false, by simp only [putSel, Bool.false_eq_true, if_false], BK507.out, HB.out, fun h_ => absurd h_ (by decide), fun h_ => absurd h_ (by decide), fun h_ => absurd h_ (by decide), fun h_ => absurd h_ (by decide), fun h_ => absurd h_ (by decide), fun h_ => absurd h_ (by decide), fun h_ => absurd h_ (by decide)⟩
                                  · skip
                                    (try clear BK507; try clear HB)
                                    refine steps_cons ?_ ?_
                                    · rintro b a w' ⟨gb522, m7_, ha, Q_BK507, Q_HB, Q_BK522, Q_GW522, Q_GE522, Q_NB507_522, Q_NB522_507, Q_BK522_e8, Q_X7_⟩ hb_ hon hoff
                                      refine ⟨_, rfl, fun K hK => ?_⟩
                                      have e9 : a.tmps[9]? = some (.pointer (some ⟨gb507, 0, none⟩)) := by rw [ha]; exact (putSel_off rfl).trans rfl
                                      replace ha := Aside0.mk ha
                                      have BK507 := Aside0.mk Q_BK507
                                      have hc0_ : w'.cell? ⟨gb507, 0, none⟩ = some (.int .i64 t498) := (blk_cell BK507.out 0).trans rfl
                                      have hc1_ : w'.cell? ⟨gb507, 1, none⟩ = some (.int .i64 t499) := (blk_cell BK507.out 1).trans rfl
                                      have hc2_ : w'.cell? ⟨gb507, 2, none⟩ = some (.int .i64 t500) := (blk_cell BK507.out 2).trans rfl
                                      have hc3_ : w'.cell? ⟨gb507, 3, none⟩ = some (.int .i64 t501) := (blk_cell BK507.out 3).trans rfl
                                      have hc4_ : w'.cell? ⟨gb507, 4, none⟩ = some (.int .i64 t502) := (blk_cell BK507.out 4).trans rfl
                                      have hc5_ : w'.cell? ⟨gb507, 5, none⟩ = some (.int .i64 t503) := (blk_cell BK507.out 5).trans rfl
                                      have hc6_ : w'.cell? ⟨gb507, 6, none⟩ = some (.int .i64 t504) := (blk_cell BK507.out 6).trans rfl
                                      have hc7_ : w'.cell? ⟨gb507, 7, none⟩ = some (.int .i64 t505) := (blk_cell BK507.out 7).trans rfl
                                      refine value_ (w1 := w') (v := .agg #[.int .i64 t498, .int .i64 t499, .int .i64 t500, .int .i64 t501, .int .i64 t502, .int .i64 t503, .int .i64 t504, .int .i64 t505]) (by rfl) rfl ?_ ?_
                                      · go_simp
                                        (skip)
                                        skip
                                      refine hK.out _ _ ⟨gb522, m7_, (by rw [ha.out]; exact putSel_upk 0 hb_ rfl rfl rfl), Q_BK507, Q_HB, Q_BK522, Q_GW522, Q_GE522, Q_NB507_522, Q_NB522_507, fun h0_ => absurd ((hoff 8 (by kernel_rfl)).symm.trans h0_) (by decide), Q_X7_⟩
                                    refine steps_cons ?_ ?_
                                    · rintro b a w' ⟨gb522, m7_, ha, Q_BK507, Q_HB, Q_BK522, Q_GW522, Q_GE522, Q_NB507_522, Q_NB522_507, Q_BK522_e8, Q_X7_⟩ hb_ hon hoff
                                      refine ⟨_, rfl, fun K hK => ?_⟩
                                      have e146 : a.tmps[146]? = some (.int .u16 a3) := by rw [ha]; exact (putSel_off rfl).trans rfl
                                      replace ha := Aside0.mk ha
                                      refine value_ (w1 := w') (v := .int .i64 (wrap64 (a3))) (by rfl) rfl ?_ ?_
                                      · go_simp
                                        (try simp only [i64_w])
                                        skip
                                      refine hK.out _ _ ⟨gb522, m7_, (by rw [ha.out]; exact putSel_upk 1 hb_ rfl rfl rfl), Q_BK507, Q_HB, Q_BK522, Q_GW522, Q_GE522, Q_NB507_522, Q_NB522_507, fun h0_ => absurd ((hoff 8 (by kernel_rfl)).symm.trans h0_) (by decide), Q_X7_⟩
                                    refine steps_cons ?_ ?_
                                    · rintro b a w' ⟨gb522, m7_, ha, Q_BK507, Q_HB, Q_BK522, Q_GW522, Q_GE522, Q_NB507_522, Q_NB522_507, Q_BK522_e8, Q_X7_⟩ hb_ hon hoff
                                      refine ⟨_, rfl, fun K hK => ?_⟩
                                      have e148 : a.tmps[148]? = some (.pointer (some ⟨gb507, 6, none⟩)) := by rw [ha]; exact (putSel_off rfl).trans rfl
                                      replace ha := Aside0.mk ha
                                      have BK507 := Aside0.mk Q_BK507
                                      have hc6_ : w'.cell? ⟨gb507, 6, none⟩ = some (.int .i64 t504) := (blk_cell BK507.out 6).trans rfl
                                      refine value_ (w1 := w') (v := .int .i64 t504) (by rfl) rfl ?_ ?_
                                      · go_simp
                                        (skip)
                                        skip
                                      refine hK.out _ _ ⟨gb522, m7_, (by rw [ha.out]; exact putSel_upk 2 hb_ rfl rfl rfl), Q_BK507, Q_HB, Q_BK522, Q_GW522, Q_GE522, Q_NB507_522, Q_NB522_507, fun h0_ => absurd ((hoff 8 (by kernel_rfl)).symm.trans h0_) (by decide), Q_X7_⟩
                                    refine steps_cons ?_ ?_
                                    · rintro b a w' ⟨gb522, m7_, ha, Q_BK507, Q_HB, Q_BK522, Q_GW522, Q_GE522, Q_NB507_522, Q_NB522_507, Q_BK522_e8, Q_X7_⟩ hb_ hon hoff
                                      refine ⟨_, rfl, fun K hK => ?_⟩
                                      have e147 : a.tmps[147]? = some (.int .i64 (wrap64 (a3))) := by rw [ha]; exact putSel_on (e := (2, 147, .int .i64 (wrap64 (a3)))) 1 rfl rfl (hon 2 (by kernel_rfl)) rfl
                                      have e149 : a.tmps[149]? = some (.int .i64 t504) := by rw [ha]; exact putSel_on (e := (4, 149, .int .i64 t504)) 2 rfl rfl (hon 4 (by kernel_rfl)) rfl
                                      replace ha := Aside0.mk ha
                                      refine value_ (w1 := w') (v := .int .i64 (Int.tmod (wrap64 (a3)) t504)) (by rfl) rfl ?_ ?_
                                      · go_simp
                                        (skip)
                                        skip
                                      refine hK.out _ _ ⟨gb522, m7_, (by rw [ha.out]; exact putSel_upk 3 hb_ rfl rfl rfl), Q_BK507, Q_HB, Q_BK522, Q_GW522, Q_GE522, Q_NB507_522, Q_NB522_507, fun h0_ => absurd ((hoff 8 (by kernel_rfl)).symm.trans h0_) (by decide), Q_X7_⟩
                                    refine steps_cons ?_ ?_
                                    · rintro b a w' ⟨gb522, m7_, ha, Q_BK507, Q_HB, Q_BK522, Q_GW522, Q_GE522, Q_NB507_522, Q_NB522_507, Q_BK522_e8, Q_X7_⟩ hb_ hon hoff
                                      refine ⟨_, rfl, fun K hK => ?_⟩
                                      have e145 : a.tmps[145]? = some (.agg #[.int .i64 t498, .int .i64 t499, .int .i64 t500, .int .i64 t501, .int .i64 t502, .int .i64 t503, .int .i64 t504, .int .i64 t505]) := by rw [ha]; exact putSel_on (e := (0, 145, .agg #[.int .i64 t498, .int .i64 t499, .int .i64 t500, .int .i64 t501, .int .i64 t502, .int .i64 t503, .int .i64 t504, .int .i64 t505])) 0 rfl rfl (hon 0 (by kernel_rfl)) rfl
                                      have e150 : a.tmps[150]? = some (.int .i64 (Int.tmod (wrap64 (a3)) t504)) := by rw [ha]; exact putSel_on (e := (5, 150, .int .i64 (Int.tmod (wrap64 (a3)) t504))) 3 rfl rfl (hon 5 (by kernel_rfl)) rfl
                                      replace ha := Aside0.mk ha
                                      have BK507 := Aside0.mk Q_BK507
                                      have HB := Aside0.mk Q_HB
                                      refine goes_ Tryd.func28 (by kernel_rfl) rfl #[.agg #[.int .i64 t498, .int .i64 t499, .int .i64 t500, .int .i64 t501, .int .i64 t502, .int .i64 t503, .int .i64 t504, .int .i64 t505], .int .i64 (Int.tmod (wrap64 (a3)) t504)] (by rfl) rfl rfl (by (simp only [List.map_toArray, List.map_cons, List.map_nil, Act.eval, Array.getD_eq_getD_getElem?, Option.getD_some, e145, e150]; done)) ?_
                                      with_reducible refine (resolve_Element.calls t498 t499 t500 t501 t502 t503 t504 t505 (Int.tmod (wrap64 (a3)) t504) t514 t515 t516 t517 t518 t519 t520 t521 _ A50.out).mono ?_
                                      rintro e w57 ⟨rfl, hb⟩
                                      refine ⟨_, rfl, ?_⟩
                                      have n0_ := Aside0.mk (blk_below BK507.out hb)
                                      have n1_ := Aside0.mk (below_step HB.out hb)
                                      have z_BK522 := fun (h0_ : b 7 = true) (h1_ : b 8 = false) => (show w57.heap[gb522]? = some (.cells #[.int .i64 0, .int .i64 0, .int .i64 0, .int .i64 0, .int .i64 0, .int .i64 0, .int .i64 0, .int .i64 0] 46 (0, 0)) from by (exact (blk_below (g := gb522) (o := .cells #[.int .i64 0, .int .i64 0, .int .i64 0, .int .i64 0, .int .i64 0, .int .i64 0, .int .i64 0, .int .i64 0] 46 (0, 0)) (by exact (Q_BK522 h0_ h1_)) hb)))
                                      (try clear BK507)
                                      (try clear HB)
                                      have BK507 := n0_
                                      have HB := n1_
                                      (try clear n0_; try clear n1_)
                                      (try clear hb)
                                      (skip)
                                      (skip)
                                      (skip)
                                      refine hK.out _ _ ⟨gb522, m7_, (by rw [ha.out]; exact putSel_upk 4 hb_ rfl rfl rfl), BK507.out, HB.out, z_BK522, Q_GW522, Q_GE522, Q_NB507_522, Q_NB522_507, fun h0_ => absurd ((hoff 8 (by kernel_rfl)).symm.trans h0_) (by decide), Q_X7_⟩
                                    refine steps_cons ?_ ?_
                                    · rintro b a w' ⟨gb522, m7_, ha, Q_BK507, Q_HB, Q_BK522, Q_GW522, Q_GE522, Q_NB507_522, Q_NB522_507, Q_BK522_e8, Q_X7_⟩ hb_ hon hoff
                                      refine ⟨_, rfl, fun K hK => ?_⟩
                                      replace ha := Aside0.mk ha
                                      have BK507 := Aside0.mk Q_BK507
                                      have HB := Aside0.mk Q_HB
                                      refine box_step ?hg (N := 13) ?hd (cs := #[.int .i64 0, .int .i64 0, .int .i64 0, .int .i64 0, .int .i64 0, .int .i64 0, .int .i64 0, .int .i64 0]) (t := 46) ?hr ?_; (case hd => rfl); (case hg => rfl); (case hr => (go_simp; done))
                                      intro gb522 hg w57 hbox hb
                                      have n0_ := Aside0.mk (blk_below BK507.out hb)
                                      have n1_ := Aside0.mk (below_step HB.out hb)
                                      have n2_ := Aside0.mk (hbox)
                                      have n3_ := Aside0.mk (ge_of HB.out hg)
                                      have n4_ := Aside0.mk (ge_of HB.out hg)
                                      have n5_ := Aside0.mk (ne_l BK507.out hg)
                                      have n6_ := Aside0.mk (ne_r BK507.out hg)
                                      (try clear BK507)
                                      (try clear HB)
                                      have BK507 := n0_
                                      have HB := n1_
                                      have BK522 := n2_
                                      have GW522 := n3_
                                      have GE522 := n4_
                                      have NB507_522 := n5_
                                      have NB522_507 := n6_
                                      (try clear n0_; try clear n1_; try clear n2_; try clear n3_; try clear n4_; try clear n5_; try clear n6_)
                                      clear hb hbox hg
                                      refine hK.out _ _ ⟨gb522, (.pointer (some ⟨gb522, 0, none⟩)), (by rw [ha.out]; exact putSel_upk 5 hb_ rfl rfl rfl), BK507.out, HB.out, fun _ _ => BK522.out, fun _ => GW522.out, fun _ => GE522.out, fun _ => NB507_522.out, fun _ => NB522_507.out, fun h0_ => absurd ((hoff 8 (by kernel_rfl)).symm.trans h0_) (by decide), fun _ => rfl⟩
                                    refine steps_cons ?_ ?_
                                    · rintro b a w' ⟨gb522, m7_, ha, Q_BK507, Q_HB, Q_BK522, Q_GW522, Q_GE522, Q_NB507_522, Q_NB522_507, Q_BK522_e8, Q_X7_⟩ hb_ hon hoff
                                      refine ⟨_, rfl, fun K hK => ?_⟩
                                      have e13 : a.tmps[13]? = some (m7_) := by rw [ha]; exact putSel_on (e := (7, 13, m7_)) 5 rfl rfl (hon 7 (by kernel_rfl)) rfl
                                      rw [Q_X7_ (hon 7 (by kernel_rfl))] at e13
                                      have e151 : a.tmps[151]? = some (.agg #[.int .i64 t514, .int .i64 t515, .int .i64 t516, .int .i64 t517, .int .i64 t518, .int .i64 t519, .int .i64 t520, .int .i64 t521]) := by rw [ha]; exact putSel_on (e := (6, 151, .agg #[.int .i64 t514, .int .i64 t515, .int .i64 t516, .int .i64 t517, .int .i64 t518, .int .i64 t519, .int .i64 t520, .int .i64 t521])) 4 rfl rfl (hon 6 (by kernel_rfl)) rfl
                                      replace ha := Aside0.mk ha
                                      have BK507 := Aside0.mk Q_BK507
                                      have HB := Aside0.mk Q_HB
                                      have BK522 := Aside0.mk (Q_BK522 (hon 7 (by kernel_rfl)) hb_)
                                      have GW522 := Aside0.mk (Q_GW522 (hon 7 (by kernel_rfl)))
                                      have GE522 := Aside0.mk (Q_GE522 (hon 7 (by kernel_rfl)))
                                      have NB507_522 := Aside0.mk (Q_NB507_522 (hon 7 (by kernel_rfl)))
                                      have NB522_507 := Aside0.mk (Q_NB522_507 (hon 7 (by kernel_rfl)))
                                      have hs60 : w'.cell? ⟨gb522, 0, none⟩ = some (.int .i64 0) := (blk_cell BK522.out 0).trans rfl
                                      have hfs60 := blk_frozen BK522.out 0
                                      have hs61 : w'.cell? ⟨gb522, 1, none⟩ = some (.int .i64 0) := (blk_cell BK522.out 1).trans rfl
                                      have hfs61 := blk_frozen BK522.out 1
                                      have hs62 : w'.cell? ⟨gb522, 2, none⟩ = some (.int .i64 0) := (blk_cell BK522.out 2).trans rfl
                                      have hfs62 := blk_frozen BK522.out 2
                                      have hs63 : w'.cell? ⟨gb522, 3, none⟩ = some (.int .i64 0) := (blk_cell BK522.out 3).trans rfl
                                      have hfs63 := blk_frozen BK522.out 3
                                      have hs64 : w'.cell? ⟨gb522, 4, none⟩ = some (.int .i64 0) := (blk_cell BK522.out 4).trans rfl
                                      have hfs64 := blk_frozen BK522.out 4
                                      have hs65 : w'.cell? ⟨gb522, 5, none⟩ = some (.int .i64 0) := (blk_cell BK522.out 5).trans rfl
                                      have hfs65 := blk_frozen BK522.out 5
                                      have hs66 : w'.cell? ⟨gb522, 6, none⟩ = some (.int .i64 0) := (blk_cell BK522.out 6).trans rfl
                                      have hfs66 := blk_frozen BK522.out 6
                                      have hs67 : w'.cell? ⟨gb522, 7, none⟩ = some (.int .i64 0) := (blk_cell BK522.out 7).trans rfl
                                      have hfs67 := blk_frozen BK522.out 7
                                      refine skip_ (w1 := ?_) (by rfl) rfl ?_ ?_
                                      rotate_left
                                      · go_simp
                                        rfl
                                      refine hK.out _ _ ⟨gb522, m7_, (by rw [ha.out]; exact putSel_none (v := undef) rfl), (by (iterate 8 refine blk_far ?_ NB507_522.out _); exact BK507.out), (by repeat ((with_reducible first | exact HB.out | refine below_set ?_ GE522.out))), fun _ h1_ => absurd ((up_self b 8).symm.trans h1_) (by decide), fun _ => GW522.out, fun _ => GE522.out, fun _ => NB507_522.out, fun _ => NB522_507.out, fun _ => (by exact put8 BK522.out), Q_X7_⟩
                                    exact steps_nil
                                  rintro b a w67 hall ⟨gb522, m7_, ha, Q_BK507, Q_HB, Q_BK522, Q_GW522, Q_GE522, Q_NB507_522, Q_NB522_507, Q_BK522_e8, Q_X7_⟩
                                  (try clear BK507; try clear HB)
                                  have hb0_ := hall 0 (by kernel_rfl)
                                  have hb2_ := hall 2 (by kernel_rfl)
                                  have hb4_ := hall 4 (by kernel_rfl)
                                  have hb5_ := hall 5 (by kernel_rfl)
                                  have hb6_ := hall 6 (by kernel_rfl)
                                  have hb7_ := hall 7 (by kernel_rfl)
                                  have hb8_ := hall 8 (by kernel_rfl)
                                  subst ha
                                  obtain rfl := Q_X7_ hb7_
                                  simp only [putSel, hb0_, hb2_, hb4_, hb5_, hb6_, hb7_, hb8_, if_true, Act.put, List.setIfInBounds_toArray, List.set_cons_zero, List.set_cons_succ]
                                  clear Q_BK507
                                  have HB := Aside0.mk Q_HB
                                  clear Q_HB
                                  clear Q_BK522
                                  clear Q_GW522
                                  clear Q_GE522
                                  clear Q_NB507_522
                                  clear Q_NB522_507
                                  have BK522 := Aside0.mk (Q_BK522_e8 hb8_)
                                  clear Q_BK522_e8
                                  clear hall hb0_ hb2_ hb4_ hb5_ hb6_ hb7_ hb8_
                                  have hcz69_0 : w67.cell? ⟨gb522, 0, none⟩ = some (.int .i64 t514) := (blk_cell BK522.out 0).trans rfl
                                  have hcz69_1 : w67.cell? ⟨gb522, 1, none⟩ = some (.int .i64 t515) := (blk_cell BK522.out 1).trans rfl
                                  have hcz69_2 : w67.cell? ⟨gb522, 2, none⟩ = some (.int .i64 t516) := (blk_cell BK522.out 2).trans rfl
                                  have hcz69_3 : w67.cell? ⟨gb522, 3, none⟩ = some (.int .i64 t517) := (blk_cell BK522.out 3).trans rfl
                                  have hcz69_4 : w67.cell? ⟨gb522, 4, none⟩ = some (.int .i64 t518) := (blk_cell BK522.out 4).trans rfl
                                  have hcz69_5 : w67.cell? ⟨gb522, 5, none⟩ = some (.int .i64 t519) := (blk_cell BK522.out 5).trans rfl
                                  have hcz69_6 : w67.cell? ⟨gb522, 6, none⟩ = some (.int .i64 t520) := (blk_cell BK522.out 6).trans rfl
                                  have hcz69_7 : w67.cell? ⟨gb522, 7, none⟩ = some (.int .i64 t521) := (blk_cell BK522.out 7).trans rfl
                                  try go_wp2_with (first | ((with_reducible refine gate_callee (f := 26) rfl ?_); refine goesL_ (some 154) rfl rfl Tryd.func26 (by kernel_rfl) rfl #[.agg #[.int .i64 t514, .int .i64 t515, .int .i64 t516, .int .i64 t517, .int .i64 t518, .int .i64 t519, .int .i64 t520, .int .i64 t521]] rfl (by (try simp only [List.map_toArray, List.map_cons, List.map_nil]); rfl) ?_; (with_reducible refine (resolve_Pointers.calls kj38 t514 t515 t516 t517 t518 t519 t520 t521 t523 t524 _ A51.out).mono ?_); rintro e w70 ⟨rfl, hb⟩; refine ⟨_, rfl, ?_⟩; replace BK522 := Aside0.mk (blk_below BK522.out hb); replace HB := Aside0.mk (below_step HB.out hb); (try clear BK507); (try clear hb); have hcz71_1 : w70.cell? ⟨gb522, 1, none⟩ = some (.int .i64 t515) := (blk_cell BK522.out 1).trans rfl; have hcz71_2 : w70.cell? ⟨gb522, 2, none⟩ = some (.int .i64 t516) := (blk_cell BK522.out 2).trans rfl; have hcz71_3 : w70.cell? ⟨gb522, 3, none⟩ = some (.int .i64 t517) := (blk_cell BK522.out 3).trans rfl; have hcz71_4 : w70.cell? ⟨gb522, 4, none⟩ = some (.int .i64 t518) := (blk_cell BK522.out 4).trans rfl) | ((with_reducible refine gate_callee (f := 30) rfl ?_); refine goesL_ (some 167) rfl rfl Tryd.func30 (by kernel_rfl) rfl #[.slice A0 l0.length c0, .int .i64 t515, .int .i64 t516, .int .i64 (wrap64 (t517 + t518))] rfl (by (try simp only [List.map_toArray, List.map_cons, List.map_nil]); rfl) ?_; (with_reducible refine (capnpref05_InBounds.calls _ _ l0 t515 t516 (wrap64 (t517 + t518)) true _ ?side1 ?side2 A52.out).mono ?_); (case side1 => repeat ((exact (Kd.C_below HR0.out HB.out)))); (case side2 => exact HC0.out); rintro e w' ⟨rfl, ⟨nd, rfl⟩⟩; refine ⟨_, rfl, ?_⟩))
                                  go_ret
                                  exact ⟨by rfl, by repeat ((with_reducible first | exact HB.out | apply pw_below_drewN))⟩
                                · rw [if_neg c54] at H
                                  have c54b0 : (t524 == 0) = false := beq_eq_false_iff_ne.mpr c54
                                  replace H := Option.bind_eq_some_iff.mp H
                                  obtain ⟨t526, A720, H⟩ := H
                                  replace H : (some t526) = some r := H
                                  have A72 := Aside0.mk A720
                                  clear A720
                                  obtain rfl := Option.some.inj H
                                  have hcz73_6 : wc.cell? ⟨gb507, 6, none⟩ = some (.int .i64 t504) := (blk_cell BK507.out 6).trans rfl
                                  try go_wp2
                                  have n0_ := Aside0.mk (blk_drew BK507.out)
                                  have n1_ := Aside0.mk (below_drew1 HB.out)
                                  (try clear BK507)
                                  (try clear HB)
                                  have BK507 := n0_
                                  have HB := n1_
                                  (try clear n0_; try clear n1_)
                                  refine start_ (n := 9) (S := fun w' => True) (ds := []) #[false, false, false, false, false, false, false, false, false] (by kernel_rfl) rfl rfl trivial (fun hHeld => ?_); refine with_tabW capnplaw08_ResolvedObjectsAreInBounds.tab19 capnplaw08_ResolvedObjectsAreInBounds.bits19 (fun HT_ HW_ => ?_)
                                  generalize wc.drew = w74 at BK507 HB hHeld ⊢
                                  refine pure_ (i := 1) (N := some 146) (v := ?_) (a' := ?_) #[false, true, false, false, false, false, false, false, false] rfl rfl (any_of HT_.out (by kernel_rfl)) (fun _ _ _ h => h) (Or.inl ⟨by rfl, ?_⟩) ?_ ?_
                                  rotate_left
                                  · intro w'
                                    go_simp
                                    with_reducible rfl
                                  rotate_left
                                  · simp only [Act.put, List.setIfInBounds_toArray, List.set_cons_zero, List.set_cons_succ, i64_w, i32_w]
                                    rfl
                                  refine pure_ (i := 3) (N := some 148) (v := ?_) (a' := ?_) #[false, true, false, true, false, false, false, false, false] rfl rfl (any_of HT_.out (by kernel_rfl)) (fun _ _ _ h => h) (Or.inl ⟨by rfl, ?_⟩) ?_ ?_
                                  rotate_left
                                  · intro w'
                                    go_simp
                                    with_reducible rfl
                                  rotate_left
                                  · simp only [Act.put, List.setIfInBounds_toArray, List.set_cons_zero, List.set_cons_succ, i64_w, i32_w]
                                    rfl
                                  refine inv_at [0, 2, 4, 5, 6, 7, 8] (fun a0_ b a w' => ∃ (gb522 : Nat) (m7_ : Value), a = putSel a0_ b [(0, 145, .agg #[.int .i64 t498, .int .i64 t499, .int .i64 t500, .int .i64 t501, .int .i64 t502, .int .i64 t503, .int .i64 t504, .int .i64 t505]), (2, 147, .int .i64 (wrap64 (a3))), (4, 149, .int .i64 t504), (5, 150, .int .i64 (Int.tmod (wrap64 (a3)) t504)), (6, 151, .agg #[.int .i64 t514, .int .i64 t515, .int .i64 t516, .int .i64 t517, .int .i64 t518, .int .i64 t519, .int .i64 t520, .int .i64 t521]), (7, 13, m7_)] ∧ (w'.heap[gb507]? = some (.cells #[.int .i64 t498, .int .i64 t499, .int .i64 t500, .int .i64 t501, .int .i64 t502, .int .i64 t503, .int .i64 t504, .int .i64 t505] 46 (0, 0))) ∧ (Below w.heap.size w w') ∧ (b 7 = true → b 8 = false → w'.heap[gb522]? = some (.cells #[.int .i64 0, .int .i64 0, .int .i64 0, .int .i64 0, .int .i64 0, .int .i64 0, .int .i64 0, .int .i64 0] 46 (0, 0))) ∧ (b 7 = true → w.heap.size ≤ gb522) ∧ (b 7 = true → w.heap.size ≤ gb522) ∧ (b 7 = true → gb507 ≠ gb522) ∧ (b 7 = true → gb522 ≠ gb507) ∧ (b 8 = true → w'.heap[gb522]? = some (.cells #[.int .i64 t514, .int .i64 t515, .int .i64 t516, .int .i64 t517, .int .i64 t518, .int .i64 t519, .int .i64 t520, .int .i64 t521] 46 (0, 0))) ∧ (b 7 = true → (m7_ : Value) = .pointer (some ⟨gb522, 0, none⟩))) HT_.out HW_.out (by kernel_rfl) (by kernel_rfl) ?_ ?_ ?_
                                  · exact ⟨0, .bool false, by simp only [putSel, Bool.false_eq_true, if_false], BK507.out, HB.out, fun h_ => absurd h_ (by decide), fun h_ => absurd h_ (by decide), fun h_ => absurd h_ (by decide), fun h_ => absurd h_ (by decide), fun h_ => absurd h_ (by decide), fun h_ => absurd h_ (by decide), fun h_ => absurd h_ (by decide)⟩
                                  · skip
                                    (try clear BK507; try clear HB)
                                    refine steps_cons ?_ ?_
                                    · rintro b a w' ⟨gb522, m7_, ha, Q_BK507, Q_HB, Q_BK522, Q_GW522, Q_GE522, Q_NB507_522, Q_NB522_507, Q_BK522_e8, Q_X7_⟩ hb_ hon hoff
                                      refine ⟨_, rfl, fun K hK => ?_⟩
                                      have e9 : a.tmps[9]? = some (.pointer (some ⟨gb507, 0, none⟩)) := by rw [ha]; exact (putSel_off rfl).trans rfl
                                      replace ha := Aside0.mk ha
                                      have BK507 := Aside0.mk Q_BK507
                                      have hc0_ : w'.cell? ⟨gb507, 0, none⟩ = some (.int .i64 t498) := (blk_cell BK507.out 0).trans rfl
                                      have hc1_ : w'.cell? ⟨gb507, 1, none⟩ = some (.int .i64 t499) := (blk_cell BK507.out 1).trans rfl
                                      have hc2_ : w'.cell? ⟨gb507, 2, none⟩ = some (.int .i64 t500) := (blk_cell BK507.out 2).trans rfl
                                      have hc3_ : w'.cell? ⟨gb507, 3, none⟩ = some (.int .i64 t501) := (blk_cell BK507.out 3).trans rfl
                                      have hc4_ : w'.cell? ⟨gb507, 4, none⟩ = some (.int .i64 t502) := (blk_cell BK507.out 4).trans rfl
                                      have hc5_ : w'.cell? ⟨gb507, 5, none⟩ = some (.int .i64 t503) := (blk_cell BK507.out 5).trans rfl
                                      have hc6_ : w'.cell? ⟨gb507, 6, none⟩ = some (.int .i64 t504) := (blk_cell BK507.out 6).trans rfl
                                      have hc7_ : w'.cell? ⟨gb507, 7, none⟩ = some (.int .i64 t505) := (blk_cell BK507.out 7).trans rfl
                                      refine value_ (w1 := w') (v := .agg #[.int .i64 t498, .int .i64 t499, .int .i64 t500, .int .i64 t501, .int .i64 t502, .int .i64 t503, .int .i64 t504, .int .i64 t505]) (by rfl) rfl ?_ ?_
                                      · go_simp
                                        (skip)
                                        skip
                                      refine hK.out _ _ ⟨gb522, m7_, (by rw [ha.out]; exact putSel_upk 0 hb_ rfl rfl rfl), Q_BK507, Q_HB, Q_BK522, Q_GW522, Q_GE522, Q_NB507_522, Q_NB522_507, fun h0_ => absurd ((hoff 8 (by kernel_rfl)).symm.trans h0_) (by decide), Q_X7_⟩
                                    refine steps_cons ?_ ?_
                                    · rintro b a w' ⟨gb522, m7_, ha, Q_BK507, Q_HB, Q_BK522, Q_GW522, Q_GE522, Q_NB507_522, Q_NB522_507, Q_BK522_e8, Q_X7_⟩ hb_ hon hoff
                                      refine ⟨_, rfl, fun K hK => ?_⟩
                                      have e146 : a.tmps[146]? = some (.int .u16 a3) := by rw [ha]; exact (putSel_off rfl).trans rfl
                                      replace ha := Aside0.mk ha
                                      refine value_ (w1 := w') (v := .int .i64 (wrap64 (a3))) (by rfl) rfl ?_ ?_
                                      · go_simp
                                        (try simp only [i64_w])
                                        skip
                                      refine hK.out _ _ ⟨gb522, m7_, (by rw [ha.out]; exact putSel_upk 1 hb_ rfl rfl rfl), Q_BK507, Q_HB, Q_BK522, Q_GW522, Q_GE522, Q_NB507_522, Q_NB522_507, fun h0_ => absurd ((hoff 8 (by kernel_rfl)).symm.trans h0_) (by decide), Q_X7_⟩
                                    refine steps_cons ?_ ?_
                                    · rintro b a w' ⟨gb522, m7_, ha, Q_BK507, Q_HB, Q_BK522, Q_GW522, Q_GE522, Q_NB507_522, Q_NB522_507, Q_BK522_e8, Q_X7_⟩ hb_ hon hoff
                                      refine ⟨_, rfl, fun K hK => ?_⟩
                                      have e148 : a.tmps[148]? = some (.pointer (some ⟨gb507, 6, none⟩)) := by rw [ha]; exact (putSel_off rfl).trans rfl
                                      replace ha := Aside0.mk ha
                                      have BK507 := Aside0.mk Q_BK507
                                      have hc6_ : w'.cell? ⟨gb507, 6, none⟩ = some (.int .i64 t504) := (blk_cell BK507.out 6).trans rfl
                                      refine value_ (w1 := w') (v := .int .i64 t504) (by rfl) rfl ?_ ?_
                                      · go_simp
                                        (skip)
                                        skip
                                      refine hK.out _ _ ⟨gb522, m7_, (by rw [ha.out]; exact putSel_upk 2 hb_ rfl rfl rfl), Q_BK507, Q_HB, Q_BK522, Q_GW522, Q_GE522, Q_NB507_522, Q_NB522_507, fun h0_ => absurd ((hoff 8 (by kernel_rfl)).symm.trans h0_) (by decide), Q_X7_⟩
                                    refine steps_cons ?_ ?_
                                    · rintro b a w' ⟨gb522, m7_, ha, Q_BK507, Q_HB, Q_BK522, Q_GW522, Q_GE522, Q_NB507_522, Q_NB522_507, Q_BK522_e8, Q_X7_⟩ hb_ hon hoff
                                      refine ⟨_, rfl, fun K hK => ?_⟩
                                      have e147 : a.tmps[147]? = some (.int .i64 (wrap64 (a3))) := by rw [ha]; exact putSel_on (e := (2, 147, .int .i64 (wrap64 (a3)))) 1 rfl rfl (hon 2 (by kernel_rfl)) rfl
                                      have e149 : a.tmps[149]? = some (.int .i64 t504) := by rw [ha]; exact putSel_on (e := (4, 149, .int .i64 t504)) 2 rfl rfl (hon 4 (by kernel_rfl)) rfl
                                      replace ha := Aside0.mk ha
                                      refine value_ (w1 := w') (v := .int .i64 (Int.tmod (wrap64 (a3)) t504)) (by rfl) rfl ?_ ?_
                                      · go_simp
                                        (skip)
                                        skip
                                      refine hK.out _ _ ⟨gb522, m7_, (by rw [ha.out]; exact putSel_upk 3 hb_ rfl rfl rfl), Q_BK507, Q_HB, Q_BK522, Q_GW522, Q_GE522, Q_NB507_522, Q_NB522_507, fun h0_ => absurd ((hoff 8 (by kernel_rfl)).symm.trans h0_) (by decide), Q_X7_⟩
                                    refine steps_cons ?_ ?_
                                    · rintro b a w' ⟨gb522, m7_, ha, Q_BK507, Q_HB, Q_BK522, Q_GW522, Q_GE522, Q_NB507_522, Q_NB522_507, Q_BK522_e8, Q_X7_⟩ hb_ hon hoff
                                      refine ⟨_, rfl, fun K hK => ?_⟩
                                      have e145 : a.tmps[145]? = some (.agg #[.int .i64 t498, .int .i64 t499, .int .i64 t500, .int .i64 t501, .int .i64 t502, .int .i64 t503, .int .i64 t504, .int .i64 t505]) := by rw [ha]; exact putSel_on (e := (0, 145, .agg #[.int .i64 t498, .int .i64 t499, .int .i64 t500, .int .i64 t501, .int .i64 t502, .int .i64 t503, .int .i64 t504, .int .i64 t505])) 0 rfl rfl (hon 0 (by kernel_rfl)) rfl
                                      have e150 : a.tmps[150]? = some (.int .i64 (Int.tmod (wrap64 (a3)) t504)) := by rw [ha]; exact putSel_on (e := (5, 150, .int .i64 (Int.tmod (wrap64 (a3)) t504))) 3 rfl rfl (hon 5 (by kernel_rfl)) rfl
                                      replace ha := Aside0.mk ha
                                      have BK507 := Aside0.mk Q_BK507
                                      have HB := Aside0.mk Q_HB
                                      refine goes_ Tryd.func28 (by kernel_rfl) rfl #[.agg #[.int .i64 t498, .int .i64 t499, .int .i64 t500, .int .i64 t501, .int .i64 t502, .int .i64 t503, .int .i64 t504, .int .i64 t505], .int .i64 (Int.tmod (wrap64 (a3)) t504)] (by rfl) rfl rfl (by (simp only [List.map_toArray, List.map_cons, List.map_nil, Act.eval, Array.getD_eq_getD_getElem?, Option.getD_some, e145, e150]; done)) ?_
                                      with_reducible refine (resolve_Element.calls t498 t499 t500 t501 t502 t503 t504 t505 (Int.tmod (wrap64 (a3)) t504) t514 t515 t516 t517 t518 t519 t520 t521 _ A50.out).mono ?_
                                      rintro e w75 ⟨rfl, hb⟩
                                      refine ⟨_, rfl, ?_⟩
                                      have n0_ := Aside0.mk (blk_below BK507.out hb)
                                      have n1_ := Aside0.mk (below_step HB.out hb)
                                      have z_BK522 := fun (h0_ : b 7 = true) (h1_ : b 8 = false) => (show w75.heap[gb522]? = some (.cells #[.int .i64 0, .int .i64 0, .int .i64 0, .int .i64 0, .int .i64 0, .int .i64 0, .int .i64 0, .int .i64 0] 46 (0, 0)) from by (exact (blk_below (g := gb522) (o := .cells #[.int .i64 0, .int .i64 0, .int .i64 0, .int .i64 0, .int .i64 0, .int .i64 0, .int .i64 0, .int .i64 0] 46 (0, 0)) (by exact (Q_BK522 h0_ h1_)) hb)))
                                      (try clear BK507)
                                      (try clear HB)
                                      have BK507 := n0_
                                      have HB := n1_
                                      (try clear n0_; try clear n1_)
                                      (try clear hb)
                                      (skip)
                                      (skip)
                                      (skip)
                                      refine hK.out _ _ ⟨gb522, m7_, (by rw [ha.out]; exact putSel_upk 4 hb_ rfl rfl rfl), BK507.out, HB.out, z_BK522, Q_GW522, Q_GE522, Q_NB507_522, Q_NB522_507, fun h0_ => absurd ((hoff 8 (by kernel_rfl)).symm.trans h0_) (by decide), Q_X7_⟩
                                    refine steps_cons ?_ ?_
                                    · rintro b a w' ⟨gb522, m7_, ha, Q_BK507, Q_HB, Q_BK522, Q_GW522, Q_GE522, Q_NB507_522, Q_NB522_507, Q_BK522_e8, Q_X7_⟩ hb_ hon hoff
                                      refine ⟨_, rfl, fun K hK => ?_⟩
                                      replace ha := Aside0.mk ha
                                      have BK507 := Aside0.mk Q_BK507
                                      have HB := Aside0.mk Q_HB
                                      refine box_step ?hg (N := 13) ?hd (cs := #[.int .i64 0, .int .i64 0, .int .i64 0, .int .i64 0, .int .i64 0, .int .i64 0, .int .i64 0, .int .i64 0]) (t := 46) ?hr ?_; (case hd => rfl); (case hg => rfl); (case hr => (go_simp; done))
                                      intro gb522 hg w75 hbox hb
                                      have n0_ := Aside0.mk (blk_below BK507.out hb)
                                      have n1_ := Aside0.mk (below_step HB.out hb)
                                      have n2_ := Aside0.mk (hbox)
                                      have n3_ := Aside0.mk (ge_of HB.out hg)
                                      have n4_ := Aside0.mk (ge_of HB.out hg)
                                      have n5_ := Aside0.mk (ne_l BK507.out hg)
                                      have n6_ := Aside0.mk (ne_r BK507.out hg)
                                      (try clear BK507)
                                      (try clear HB)
                                      have BK507 := n0_
                                      have HB := n1_
                                      have BK522 := n2_
                                      have GW522 := n3_
                                      have GE522 := n4_
                                      have NB507_522 := n5_
                                      have NB522_507 := n6_
                                      (try clear n0_; try clear n1_; try clear n2_; try clear n3_; try clear n4_; try clear n5_; try clear n6_)
                                      clear hb hbox hg
                                      refine hK.out _ _ ⟨gb522, (.pointer (some ⟨gb522, 0, none⟩)), (by rw [ha.out]; exact putSel_upk 5 hb_ rfl rfl rfl), BK507.out, HB.out, fun _ _ => BK522.out, fun _ => GW522.out, fun _ => GE522.out, fun _ => NB507_522.out, fun _ => NB522_507.out, fun h0_ => absurd ((hoff 8 (by kernel_rfl)).symm.trans h0_) (by decide), fun _ => rfl⟩
                                    refine steps_cons ?_ ?_
                                    · rintro b a w' ⟨gb522, m7_, ha, Q_BK507, Q_HB, Q_BK522, Q_GW522, Q_GE522, Q_NB507_522, Q_NB522_507, Q_BK522_e8, Q_X7_⟩ hb_ hon hoff
                                      refine ⟨_, rfl, fun K hK => ?_⟩
                                      have e13 : a.tmps[13]? = some (m7_) := by rw [ha]; exact putSel_on (e := (7, 13, m7_)) 5 rfl rfl (hon 7 (by kernel_rfl)) rfl
                                      rw [Q_X7_ (hon 7 (by kernel_rfl))] at e13
                                      have e151 : a.tmps[151]? = some (.agg #[.int .i64 t514, .int .i64 t515, .int .i64 t516, .int .i64 t517, .int .i64 t518, .int .i64 t519, .int .i64 t520, .int .i64 t521]) := by rw [ha]; exact putSel_on (e := (6, 151, .agg #[.int .i64 t514, .int .i64 t515, .int .i64 t516, .int .i64 t517, .int .i64 t518, .int .i64 t519, .int .i64 t520, .int .i64 t521])) 4 rfl rfl (hon 6 (by kernel_rfl)) rfl
                                      replace ha := Aside0.mk ha
                                      have BK507 := Aside0.mk Q_BK507
                                      have HB := Aside0.mk Q_HB
                                      have BK522 := Aside0.mk (Q_BK522 (hon 7 (by kernel_rfl)) hb_)
                                      have GW522 := Aside0.mk (Q_GW522 (hon 7 (by kernel_rfl)))
                                      have GE522 := Aside0.mk (Q_GE522 (hon 7 (by kernel_rfl)))
                                      have NB507_522 := Aside0.mk (Q_NB507_522 (hon 7 (by kernel_rfl)))
                                      have NB522_507 := Aside0.mk (Q_NB522_507 (hon 7 (by kernel_rfl)))
                                      have hs78 : w'.cell? ⟨gb522, 0, none⟩ = some (.int .i64 0) := (blk_cell BK522.out 0).trans rfl
                                      have hfs78 := blk_frozen BK522.out 0
                                      have hs79 : w'.cell? ⟨gb522, 1, none⟩ = some (.int .i64 0) := (blk_cell BK522.out 1).trans rfl
                                      have hfs79 := blk_frozen BK522.out 1
                                      have hs80 : w'.cell? ⟨gb522, 2, none⟩ = some (.int .i64 0) := (blk_cell BK522.out 2).trans rfl
                                      have hfs80 := blk_frozen BK522.out 2
                                      have hs81 : w'.cell? ⟨gb522, 3, none⟩ = some (.int .i64 0) := (blk_cell BK522.out 3).trans rfl
                                      have hfs81 := blk_frozen BK522.out 3
                                      have hs82 : w'.cell? ⟨gb522, 4, none⟩ = some (.int .i64 0) := (blk_cell BK522.out 4).trans rfl
                                      have hfs82 := blk_frozen BK522.out 4
                                      have hs83 : w'.cell? ⟨gb522, 5, none⟩ = some (.int .i64 0) := (blk_cell BK522.out 5).trans rfl
                                      have hfs83 := blk_frozen BK522.out 5
                                      have hs84 : w'.cell? ⟨gb522, 6, none⟩ = some (.int .i64 0) := (blk_cell BK522.out 6).trans rfl
                                      have hfs84 := blk_frozen BK522.out 6
                                      have hs85 : w'.cell? ⟨gb522, 7, none⟩ = some (.int .i64 0) := (blk_cell BK522.out 7).trans rfl
                                      have hfs85 := blk_frozen BK522.out 7
                                      refine skip_ (w1 := ?_) (by rfl) rfl ?_ ?_
                                      rotate_left
                                      · go_simp
                                        rfl
                                      refine hK.out _ _ ⟨gb522, m7_, (by rw [ha.out]; exact putSel_none (v := undef) rfl), (by (iterate 8 refine blk_far ?_ NB507_522.out _); exact BK507.out), (by repeat ((with_reducible first | exact HB.out | refine below_set ?_ GE522.out))), fun _ h1_ => absurd ((up_self b 8).symm.trans h1_) (by decide), fun _ => GW522.out, fun _ => GE522.out, fun _ => NB507_522.out, fun _ => NB522_507.out, fun _ => (by exact put8 BK522.out), Q_X7_⟩
                                    exact steps_nil
                                  rintro b a w85 hall ⟨gb522, m7_, ha, Q_BK507, Q_HB, Q_BK522, Q_GW522, Q_GE522, Q_NB507_522, Q_NB522_507, Q_BK522_e8, Q_X7_⟩
                                  (try clear BK507; try clear HB)
                                  have hb0_ := hall 0 (by kernel_rfl)
                                  have hb2_ := hall 2 (by kernel_rfl)
                                  have hb4_ := hall 4 (by kernel_rfl)
                                  have hb5_ := hall 5 (by kernel_rfl)
                                  have hb6_ := hall 6 (by kernel_rfl)
                                  have hb7_ := hall 7 (by kernel_rfl)
                                  have hb8_ := hall 8 (by kernel_rfl)
                                  subst ha
                                  obtain rfl := Q_X7_ hb7_
                                  simp only [putSel, hb0_, hb2_, hb4_, hb5_, hb6_, hb7_, hb8_, if_true, Act.put, List.setIfInBounds_toArray, List.set_cons_zero, List.set_cons_succ]
                                  clear Q_BK507
                                  have HB := Aside0.mk Q_HB
                                  clear Q_HB
                                  clear Q_BK522
                                  clear Q_GW522
                                  clear Q_GE522
                                  clear Q_NB507_522
                                  clear Q_NB522_507
                                  have BK522 := Aside0.mk (Q_BK522_e8 hb8_)
                                  clear Q_BK522_e8
                                  clear hall hb0_ hb2_ hb4_ hb5_ hb6_ hb7_ hb8_
                                  have hcz87_0 : w85.cell? ⟨gb522, 0, none⟩ = some (.int .i64 t514) := (blk_cell BK522.out 0).trans rfl
                                  have hcz87_1 : w85.cell? ⟨gb522, 1, none⟩ = some (.int .i64 t515) := (blk_cell BK522.out 1).trans rfl
                                  have hcz87_2 : w85.cell? ⟨gb522, 2, none⟩ = some (.int .i64 t516) := (blk_cell BK522.out 2).trans rfl
                                  have hcz87_3 : w85.cell? ⟨gb522, 3, none⟩ = some (.int .i64 t517) := (blk_cell BK522.out 3).trans rfl
                                  have hcz87_4 : w85.cell? ⟨gb522, 4, none⟩ = some (.int .i64 t518) := (blk_cell BK522.out 4).trans rfl
                                  have hcz87_5 : w85.cell? ⟨gb522, 5, none⟩ = some (.int .i64 t519) := (blk_cell BK522.out 5).trans rfl
                                  have hcz87_6 : w85.cell? ⟨gb522, 6, none⟩ = some (.int .i64 t520) := (blk_cell BK522.out 6).trans rfl
                                  have hcz87_7 : w85.cell? ⟨gb522, 7, none⟩ = some (.int .i64 t521) := (blk_cell BK522.out 7).trans rfl
                                  try go_wp2_with (first | ((with_reducible refine gate_callee (f := 26) rfl ?_); refine goesL_ (some 154) rfl rfl Tryd.func26 (by kernel_rfl) rfl #[.agg #[.int .i64 t514, .int .i64 t515, .int .i64 t516, .int .i64 t517, .int .i64 t518, .int .i64 t519, .int .i64 t520, .int .i64 t521]] rfl (by (try simp only [List.map_toArray, List.map_cons, List.map_nil]); rfl) ?_; (with_reducible refine (resolve_Pointers.calls kj38 t514 t515 t516 t517 t518 t519 t520 t521 t523 t524 _ A51.out).mono ?_); rintro e w88 ⟨rfl, hb⟩; refine ⟨_, rfl, ?_⟩; replace BK522 := Aside0.mk (blk_below BK522.out hb); replace HB := Aside0.mk (below_step HB.out hb); (try clear BK507); (try clear hb); have hcz89_1 : w88.cell? ⟨gb522, 1, none⟩ = some (.int .i64 t515) := (blk_cell BK522.out 1).trans rfl; have hcz89_2 : w88.cell? ⟨gb522, 2, none⟩ = some (.int .i64 t516) := (blk_cell BK522.out 2).trans rfl; have hcz89_3 : w88.cell? ⟨gb522, 3, none⟩ = some (.int .i64 t517) := (blk_cell BK522.out 3).trans rfl; have hcz89_4 : w88.cell? ⟨gb522, 4, none⟩ = some (.int .i64 t518) := (blk_cell BK522.out 4).trans rfl) | ((with_reducible refine gate_callee (f := 30) rfl ?_); refine goesL_ (some 167) rfl rfl Tryd.func30 (by kernel_rfl) rfl #[.slice A0 l0.length c0, .int .i64 t515, .int .i64 t516, .int .i64 (wrap64 (t517 + t518))] rfl (by (try simp only [List.map_toArray, List.map_cons, List.map_nil]); rfl) ?_; (with_reducible refine (capnpref05_InBounds.calls _ _ l0 t515 t516 (wrap64 (t517 + t518)) true _ ?side1 ?side2 A52.out).mono ?_); (case side1 => repeat ((exact (Kd.C_below HR0.out HB.out)))); (case side2 => exact HC0.out); rintro e w' ⟨rfl, ⟨nd, rfl⟩⟩; refine ⟨_, rfl, ?_⟩) | (go_at_call 30; (with_reducible refine (capnpref05_InBounds.calls _ _ l0 t515 t523 t524 t526 _ ?side1 ?side2 A72.out).mono ?_); (case side1 => repeat ((exact (Kd.C_below HR0.out (by repeat ((with_reducible first | exact HB.out | apply pw_below_drewN))))))); (case side2 => exact HC0.out); rintro e w' ⟨rfl, ⟨nd, rfl⟩⟩))
                                  go_ret
                                  exact ⟨by rfl, by repeat ((with_reducible first | exact HB.out | apply pw_below_drewN))⟩
                              · replace c53 := Bool.eq_false_iff.mpr c53
                                subst c53
                                have H1 : (some false) = some r := by rw [if_neg (show ¬ (false = true) by decide)] at H; exact H
                                clear H
                                have H := H1
                                clear H1
                                obtain rfl := Option.some.inj H
                                have hcz90_6 : wc.cell? ⟨gb507, 6, none⟩ = some (.int .i64 t504) := (blk_cell BK507.out 6).trans rfl
                                try go_wp2
                                have n0_ := Aside0.mk (blk_drew BK507.out)
                                have n1_ := Aside0.mk (below_drew1 HB.out)
                                (try clear BK507)
                                (try clear HB)
                                have BK507 := n0_
                                have HB := n1_
                                (try clear n0_; try clear n1_)
                                refine start_ (n := 9) (S := fun w' => True) (ds := []) #[false, false, false, false, false, false, false, false, false] (by kernel_rfl) rfl rfl trivial (fun hHeld => ?_); refine with_tabW capnplaw08_ResolvedObjectsAreInBounds.tab19 capnplaw08_ResolvedObjectsAreInBounds.bits19 (fun HT_ HW_ => ?_)
                                generalize wc.drew = w91 at BK507 HB hHeld ⊢
                                refine pure_ (i := 1) (N := some 146) (v := ?_) (a' := ?_) #[false, true, false, false, false, false, false, false, false] rfl rfl (any_of HT_.out (by kernel_rfl)) (fun _ _ _ h => h) (Or.inl ⟨by rfl, ?_⟩) ?_ ?_
                                rotate_left
                                · intro w'
                                  go_simp
                                  with_reducible rfl
                                rotate_left
                                · simp only [Act.put, List.setIfInBounds_toArray, List.set_cons_zero, List.set_cons_succ, i64_w, i32_w]
                                  rfl
                                refine pure_ (i := 3) (N := some 148) (v := ?_) (a' := ?_) #[false, true, false, true, false, false, false, false, false] rfl rfl (any_of HT_.out (by kernel_rfl)) (fun _ _ _ h => h) (Or.inl ⟨by rfl, ?_⟩) ?_ ?_
                                rotate_left
                                · intro w'
                                  go_simp
                                  with_reducible rfl
                                rotate_left
                                · simp only [Act.put, List.setIfInBounds_toArray, List.set_cons_zero, List.set_cons_succ, i64_w, i32_w]
                                  rfl
                                refine inv_at [0, 2, 4, 5, 6, 7, 8] (fun a0_ b a w' => ∃ (gb522 : Nat) (m7_ : Value), a = putSel a0_ b [(0, 145, .agg #[.int .i64 t498, .int .i64 t499, .int .i64 t500, .int .i64 t501, .int .i64 t502, .int .i64 t503, .int .i64 t504, .int .i64 t505]), (2, 147, .int .i64 (wrap64 (a3))), (4, 149, .int .i64 t504), (5, 150, .int .i64 (Int.tmod (wrap64 (a3)) t504)), (6, 151, .agg #[.int .i64 t514, .int .i64 t515, .int .i64 t516, .int .i64 t517, .int .i64 t518, .int .i64 t519, .int .i64 t520, .int .i64 t521]), (7, 13, m7_)] ∧ (w'.heap[gb507]? = some (.cells #[.int .i64 t498, .int .i64 t499, .int .i64 t500, .int .i64 t501, .int .i64 t502, .int .i64 t503, .int .i64 t504, .int .i64 t505] 46 (0, 0))) ∧ (Below w.heap.size w w') ∧ (b 7 = true → b 8 = false → w'.heap[gb522]? = some (.cells #[.int .i64 0, .int .i64 0, .int .i64 0, .int .i64 0, .int .i64 0, .int .i64 0, .int .i64 0, .int .i64 0] 46 (0, 0))) ∧ (b 7 = true → w.heap.size ≤ gb522) ∧ (b 7 = true → w.heap.size ≤ gb522) ∧ (b 7 = true → gb507 ≠ gb522) ∧ (b 7 = true → gb522 ≠ gb507) ∧ (b 8 = true → w'.heap[gb522]? = some (.cells #[.int .i64 t514, .int .i64 t515, .int .i64 t516, .int .i64 t517, .int .i64 t518, .int .i64 t519, .int .i64 t520, .int .i64 t521] 46 (0, 0))) ∧ (b 7 = true → (m7_ : Value) = .pointer (some ⟨gb522, 0, none⟩))) HT_.out HW_.out (by kernel_rfl) (by kernel_rfl) ?_ ?_ ?_
                                · exact ⟨0, .bool false, by simp only [putSel, Bool.false_eq_true, if_false], BK507.out, HB.out, fun h_ => absurd h_ (by decide), fun h_ => absurd h_ (by decide), fun h_ => absurd h_ (by decide), fun h_ => absurd h_ (by decide), fun h_ => absurd h_ (by decide), fun h_ => absurd h_ (by decide), fun h_ => absurd h_ (by decide)⟩
                                · skip
                                  (try clear BK507; try clear HB)
                                  refine steps_cons ?_ ?_
                                  · rintro b a w' ⟨gb522, m7_, ha, Q_BK507, Q_HB, Q_BK522, Q_GW522, Q_GE522, Q_NB507_522, Q_NB522_507, Q_BK522_e8, Q_X7_⟩ hb_ hon hoff
                                    refine ⟨_, rfl, fun K hK => ?_⟩
                                    have e9 : a.tmps[9]? = some (.pointer (some ⟨gb507, 0, none⟩)) := by rw [ha]; exact (putSel_off rfl).trans rfl
                                    replace ha := Aside0.mk ha
                                    have BK507 := Aside0.mk Q_BK507
                                    have hc0_ : w'.cell? ⟨gb507, 0, none⟩ = some (.int .i64 t498) := (blk_cell BK507.out 0).trans rfl
                                    have hc1_ : w'.cell? ⟨gb507, 1, none⟩ = some (.int .i64 t499) := (blk_cell BK507.out 1).trans rfl
                                    have hc2_ : w'.cell? ⟨gb507, 2, none⟩ = some (.int .i64 t500) := (blk_cell BK507.out 2).trans rfl
                                    have hc3_ : w'.cell? ⟨gb507, 3, none⟩ = some (.int .i64 t501) := (blk_cell BK507.out 3).trans rfl
                                    have hc4_ : w'.cell? ⟨gb507, 4, none⟩ = some (.int .i64 t502) := (blk_cell BK507.out 4).trans rfl
                                    have hc5_ : w'.cell? ⟨gb507, 5, none⟩ = some (.int .i64 t503) := (blk_cell BK507.out 5).trans rfl
                                    have hc6_ : w'.cell? ⟨gb507, 6, none⟩ = some (.int .i64 t504) := (blk_cell BK507.out 6).trans rfl
                                    have hc7_ : w'.cell? ⟨gb507, 7, none⟩ = some (.int .i64 t505) := (blk_cell BK507.out 7).trans rfl
                                    refine value_ (w1 := w') (v := .agg #[.int .i64 t498, .int .i64 t499, .int .i64 t500, .int .i64 t501, .int .i64 t502, .int .i64 t503, .int .i64 t504, .int .i64 t505]) (by rfl) rfl ?_ ?_
                                    · go_simp
                                      (skip)
                                      skip
                                    refine hK.out _ _ ⟨gb522, m7_, (by rw [ha.out]; exact putSel_upk 0 hb_ rfl rfl rfl), Q_BK507, Q_HB, Q_BK522, Q_GW522, Q_GE522, Q_NB507_522, Q_NB522_507, fun h0_ => absurd ((hoff 8 (by kernel_rfl)).symm.trans h0_) (by decide), Q_X7_⟩
                                  refine steps_cons ?_ ?_
                                  · rintro b a w' ⟨gb522, m7_, ha, Q_BK507, Q_HB, Q_BK522, Q_GW522, Q_GE522, Q_NB507_522, Q_NB522_507, Q_BK522_e8, Q_X7_⟩ hb_ hon hoff
                                    refine ⟨_, rfl, fun K hK => ?_⟩
                                    have e146 : a.tmps[146]? = some (.int .u16 a3) := by rw [ha]; exact (putSel_off rfl).trans rfl
                                    replace ha := Aside0.mk ha
                                    refine value_ (w1 := w') (v := .int .i64 (wrap64 (a3))) (by rfl) rfl ?_ ?_
                                    · go_simp
                                      (try simp only [i64_w])
                                      skip
                                    refine hK.out _ _ ⟨gb522, m7_, (by rw [ha.out]; exact putSel_upk 1 hb_ rfl rfl rfl), Q_BK507, Q_HB, Q_BK522, Q_GW522, Q_GE522, Q_NB507_522, Q_NB522_507, fun h0_ => absurd ((hoff 8 (by kernel_rfl)).symm.trans h0_) (by decide), Q_X7_⟩
                                  refine steps_cons ?_ ?_
                                  · rintro b a w' ⟨gb522, m7_, ha, Q_BK507, Q_HB, Q_BK522, Q_GW522, Q_GE522, Q_NB507_522, Q_NB522_507, Q_BK522_e8, Q_X7_⟩ hb_ hon hoff
                                    refine ⟨_, rfl, fun K hK => ?_⟩
                                    have e148 : a.tmps[148]? = some (.pointer (some ⟨gb507, 6, none⟩)) := by rw [ha]; exact (putSel_off rfl).trans rfl
                                    replace ha := Aside0.mk ha
                                    have BK507 := Aside0.mk Q_BK507
                                    have hc6_ : w'.cell? ⟨gb507, 6, none⟩ = some (.int .i64 t504) := (blk_cell BK507.out 6).trans rfl
                                    refine value_ (w1 := w') (v := .int .i64 t504) (by rfl) rfl ?_ ?_
                                    · go_simp
                                      (skip)
                                      skip
                                    refine hK.out _ _ ⟨gb522, m7_, (by rw [ha.out]; exact putSel_upk 2 hb_ rfl rfl rfl), Q_BK507, Q_HB, Q_BK522, Q_GW522, Q_GE522, Q_NB507_522, Q_NB522_507, fun h0_ => absurd ((hoff 8 (by kernel_rfl)).symm.trans h0_) (by decide), Q_X7_⟩
                                  refine steps_cons ?_ ?_
                                  · rintro b a w' ⟨gb522, m7_, ha, Q_BK507, Q_HB, Q_BK522, Q_GW522, Q_GE522, Q_NB507_522, Q_NB522_507, Q_BK522_e8, Q_X7_⟩ hb_ hon hoff
                                    refine ⟨_, rfl, fun K hK => ?_⟩
                                    have e147 : a.tmps[147]? = some (.int .i64 (wrap64 (a3))) := by rw [ha]; exact putSel_on (e := (2, 147, .int .i64 (wrap64 (a3)))) 1 rfl rfl (hon 2 (by kernel_rfl)) rfl
                                    have e149 : a.tmps[149]? = some (.int .i64 t504) := by rw [ha]; exact putSel_on (e := (4, 149, .int .i64 t504)) 2 rfl rfl (hon 4 (by kernel_rfl)) rfl
                                    replace ha := Aside0.mk ha
                                    refine value_ (w1 := w') (v := .int .i64 (Int.tmod (wrap64 (a3)) t504)) (by rfl) rfl ?_ ?_
                                    · go_simp
                                      (skip)
                                      skip
                                    refine hK.out _ _ ⟨gb522, m7_, (by rw [ha.out]; exact putSel_upk 3 hb_ rfl rfl rfl), Q_BK507, Q_HB, Q_BK522, Q_GW522, Q_GE522, Q_NB507_522, Q_NB522_507, fun h0_ => absurd ((hoff 8 (by kernel_rfl)).symm.trans h0_) (by decide), Q_X7_⟩
                                  refine steps_cons ?_ ?_
                                  · rintro b a w' ⟨gb522, m7_, ha, Q_BK507, Q_HB, Q_BK522, Q_GW522, Q_GE522, Q_NB507_522, Q_NB522_507, Q_BK522_e8, Q_X7_⟩ hb_ hon hoff
                                    refine ⟨_, rfl, fun K hK => ?_⟩
                                    have e145 : a.tmps[145]? = some (.agg #[.int .i64 t498, .int .i64 t499, .int .i64 t500, .int .i64 t501, .int .i64 t502, .int .i64 t503, .int .i64 t504, .int .i64 t505]) := by rw [ha]; exact putSel_on (e := (0, 145, .agg #[.int .i64 t498, .int .i64 t499, .int .i64 t500, .int .i64 t501, .int .i64 t502, .int .i64 t503, .int .i64 t504, .int .i64 t505])) 0 rfl rfl (hon 0 (by kernel_rfl)) rfl
                                    have e150 : a.tmps[150]? = some (.int .i64 (Int.tmod (wrap64 (a3)) t504)) := by rw [ha]; exact putSel_on (e := (5, 150, .int .i64 (Int.tmod (wrap64 (a3)) t504))) 3 rfl rfl (hon 5 (by kernel_rfl)) rfl
                                    replace ha := Aside0.mk ha
                                    have BK507 := Aside0.mk Q_BK507
                                    have HB := Aside0.mk Q_HB
                                    refine goes_ Tryd.func28 (by kernel_rfl) rfl #[.agg #[.int .i64 t498, .int .i64 t499, .int .i64 t500, .int .i64 t501, .int .i64 t502, .int .i64 t503, .int .i64 t504, .int .i64 t505], .int .i64 (Int.tmod (wrap64 (a3)) t504)] (by rfl) rfl rfl (by (simp only [List.map_toArray, List.map_cons, List.map_nil, Act.eval, Array.getD_eq_getD_getElem?, Option.getD_some, e145, e150]; done)) ?_
                                    with_reducible refine (resolve_Element.calls t498 t499 t500 t501 t502 t503 t504 t505 (Int.tmod (wrap64 (a3)) t504) t514 t515 t516 t517 t518 t519 t520 t521 _ A50.out).mono ?_
                                    rintro e w92 ⟨rfl, hb⟩
                                    refine ⟨_, rfl, ?_⟩
                                    have n0_ := Aside0.mk (blk_below BK507.out hb)
                                    have n1_ := Aside0.mk (below_step HB.out hb)
                                    have z_BK522 := fun (h0_ : b 7 = true) (h1_ : b 8 = false) => (show w92.heap[gb522]? = some (.cells #[.int .i64 0, .int .i64 0, .int .i64 0, .int .i64 0, .int .i64 0, .int .i64 0, .int .i64 0, .int .i64 0] 46 (0, 0)) from by (exact (blk_below (g := gb522) (o := .cells #[.int .i64 0, .int .i64 0, .int .i64 0, .int .i64 0, .int .i64 0, .int .i64 0, .int .i64 0, .int .i64 0] 46 (0, 0)) (by exact (Q_BK522 h0_ h1_)) hb)))
                                    (try clear BK507)
                                    (try clear HB)
                                    have BK507 := n0_
                                    have HB := n1_
                                    (try clear n0_; try clear n1_)
                                    (try clear hb)
                                    (skip)
                                    (skip)
                                    (skip)
                                    refine hK.out _ _ ⟨gb522, m7_, (by rw [ha.out]; exact putSel_upk 4 hb_ rfl rfl rfl), BK507.out, HB.out, z_BK522, Q_GW522, Q_GE522, Q_NB507_522, Q_NB522_507, fun h0_ => absurd ((hoff 8 (by kernel_rfl)).symm.trans h0_) (by decide), Q_X7_⟩
                                  refine steps_cons ?_ ?_
                                  · rintro b a w' ⟨gb522, m7_, ha, Q_BK507, Q_HB, Q_BK522, Q_GW522, Q_GE522, Q_NB507_522, Q_NB522_507, Q_BK522_e8, Q_X7_⟩ hb_ hon hoff
                                    refine ⟨_, rfl, fun K hK => ?_⟩
                                    replace ha := Aside0.mk ha
                                    have BK507 := Aside0.mk Q_BK507
                                    have HB := Aside0.mk Q_HB
                                    refine box_step ?hg (N := 13) ?hd (cs := #[.int .i64 0, .int .i64 0, .int .i64 0, .int .i64 0, .int .i64 0, .int .i64 0, .int .i64 0, .int .i64 0]) (t := 46) ?hr ?_; (case hd => rfl); (case hg => rfl); (case hr => (go_simp; done))
                                    intro gb522 hg w92 hbox hb
                                    have n0_ := Aside0.mk (blk_below BK507.out hb)
                                    have n1_ := Aside0.mk (below_step HB.out hb)
                                    have n2_ := Aside0.mk (hbox)
                                    have n3_ := Aside0.mk (ge_of HB.out hg)
                                    have n4_ := Aside0.mk (ge_of HB.out hg)
                                    have n5_ := Aside0.mk (ne_l BK507.out hg)
                                    have n6_ := Aside0.mk (ne_r BK507.out hg)
                                    (try clear BK507)
                                    (try clear HB)
                                    have BK507 := n0_
                                    have HB := n1_
                                    have BK522 := n2_
                                    have GW522 := n3_
                                    have GE522 := n4_
                                    have NB507_522 := n5_
                                    have NB522_507 := n6_
                                    (try clear n0_; try clear n1_; try clear n2_; try clear n3_; try clear n4_; try clear n5_; try clear n6_)
                                    clear hb hbox hg
                                    refine hK.out _ _ ⟨gb522, (.pointer (some ⟨gb522, 0, none⟩)), (by rw [ha.out]; exact putSel_upk 5 hb_ rfl rfl rfl), BK507.out, HB.out, fun _ _ => BK522.out, fun _ => GW522.out, fun _ => GE522.out, fun _ => NB507_522.out, fun _ => NB522_507.out, fun h0_ => absurd ((hoff 8 (by kernel_rfl)).symm.trans h0_) (by decide), fun _ => rfl⟩
                                  refine steps_cons ?_ ?_
                                  · rintro b a w' ⟨gb522, m7_, ha, Q_BK507, Q_HB, Q_BK522, Q_GW522, Q_GE522, Q_NB507_522, Q_NB522_507, Q_BK522_e8, Q_X7_⟩ hb_ hon hoff
                                    refine ⟨_, rfl, fun K hK => ?_⟩
                                    have e13 : a.tmps[13]? = some (m7_) := by rw [ha]; exact putSel_on (e := (7, 13, m7_)) 5 rfl rfl (hon 7 (by kernel_rfl)) rfl
                                    rw [Q_X7_ (hon 7 (by kernel_rfl))] at e13
                                    have e151 : a.tmps[151]? = some (.agg #[.int .i64 t514, .int .i64 t515, .int .i64 t516, .int .i64 t517, .int .i64 t518, .int .i64 t519, .int .i64 t520, .int .i64 t521]) := by rw [ha]; exact putSel_on (e := (6, 151, .agg #[.int .i64 t514, .int .i64 t515, .int .i64 t516, .int .i64 t517, .int .i64 t518, .int .i64 t519, .int .i64 t520, .int .i64 t521])) 4 rfl rfl (hon 6 (by kernel_rfl)) rfl
                                    replace ha := Aside0.mk ha
                                    have BK507 := Aside0.mk Q_BK507
                                    have HB := Aside0.mk Q_HB
                                    have BK522 := Aside0.mk (Q_BK522 (hon 7 (by kernel_rfl)) hb_)
                                    have GW522 := Aside0.mk (Q_GW522 (hon 7 (by kernel_rfl)))
                                    have GE522 := Aside0.mk (Q_GE522 (hon 7 (by kernel_rfl)))
                                    have NB507_522 := Aside0.mk (Q_NB507_522 (hon 7 (by kernel_rfl)))
                                    have NB522_507 := Aside0.mk (Q_NB522_507 (hon 7 (by kernel_rfl)))
                                    have hs95 : w'.cell? ⟨gb522, 0, none⟩ = some (.int .i64 0) := (blk_cell BK522.out 0).trans rfl
                                    have hfs95 := blk_frozen BK522.out 0
                                    have hs96 : w'.cell? ⟨gb522, 1, none⟩ = some (.int .i64 0) := (blk_cell BK522.out 1).trans rfl
                                    have hfs96 := blk_frozen BK522.out 1
                                    have hs97 : w'.cell? ⟨gb522, 2, none⟩ = some (.int .i64 0) := (blk_cell BK522.out 2).trans rfl
                                    have hfs97 := blk_frozen BK522.out 2
                                    have hs98 : w'.cell? ⟨gb522, 3, none⟩ = some (.int .i64 0) := (blk_cell BK522.out 3).trans rfl
                                    have hfs98 := blk_frozen BK522.out 3
                                    have hs99 : w'.cell? ⟨gb522, 4, none⟩ = some (.int .i64 0) := (blk_cell BK522.out 4).trans rfl
                                    have hfs99 := blk_frozen BK522.out 4
                                    have hs100 : w'.cell? ⟨gb522, 5, none⟩ = some (.int .i64 0) := (blk_cell BK522.out 5).trans rfl
                                    have hfs100 := blk_frozen BK522.out 5
                                    have hs101 : w'.cell? ⟨gb522, 6, none⟩ = some (.int .i64 0) := (blk_cell BK522.out 6).trans rfl
                                    have hfs101 := blk_frozen BK522.out 6
                                    have hs102 : w'.cell? ⟨gb522, 7, none⟩ = some (.int .i64 0) := (blk_cell BK522.out 7).trans rfl
                                    have hfs102 := blk_frozen BK522.out 7
                                    refine skip_ (w1 := ?_) (by rfl) rfl ?_ ?_
                                    rotate_left
                                    · go_simp
                                      rfl
                                    refine hK.out _ _ ⟨gb522, m7_, (by rw [ha.out]; exact putSel_none (v := undef) rfl), (by (iterate 8 refine blk_far ?_ NB507_522.out _); exact BK507.out), (by repeat ((with_reducible first | exact HB.out | refine below_set ?_ GE522.out))), fun _ h1_ => absurd ((up_self b 8).symm.trans h1_) (by decide), fun _ => GW522.out, fun _ => GE522.out, fun _ => NB507_522.out, fun _ => NB522_507.out, fun _ => (by exact put8 BK522.out), Q_X7_⟩
                                  exact steps_nil
                                rintro b a w102 hall ⟨gb522, m7_, ha, Q_BK507, Q_HB, Q_BK522, Q_GW522, Q_GE522, Q_NB507_522, Q_NB522_507, Q_BK522_e8, Q_X7_⟩
                                (try clear BK507; try clear HB)
                                have hb0_ := hall 0 (by kernel_rfl)
                                have hb2_ := hall 2 (by kernel_rfl)
                                have hb4_ := hall 4 (by kernel_rfl)
                                have hb5_ := hall 5 (by kernel_rfl)
                                have hb6_ := hall 6 (by kernel_rfl)
                                have hb7_ := hall 7 (by kernel_rfl)
                                have hb8_ := hall 8 (by kernel_rfl)
                                subst ha
                                obtain rfl := Q_X7_ hb7_
                                simp only [putSel, hb0_, hb2_, hb4_, hb5_, hb6_, hb7_, hb8_, if_true, Act.put, List.setIfInBounds_toArray, List.set_cons_zero, List.set_cons_succ]
                                clear Q_BK507
                                have HB := Aside0.mk Q_HB
                                clear Q_HB
                                clear Q_BK522
                                clear Q_GW522
                                clear Q_GE522
                                clear Q_NB507_522
                                clear Q_NB522_507
                                have BK522 := Aside0.mk (Q_BK522_e8 hb8_)
                                clear Q_BK522_e8
                                clear hall hb0_ hb2_ hb4_ hb5_ hb6_ hb7_ hb8_
                                have hcz104_0 : w102.cell? ⟨gb522, 0, none⟩ = some (.int .i64 t514) := (blk_cell BK522.out 0).trans rfl
                                have hcz104_1 : w102.cell? ⟨gb522, 1, none⟩ = some (.int .i64 t515) := (blk_cell BK522.out 1).trans rfl
                                have hcz104_2 : w102.cell? ⟨gb522, 2, none⟩ = some (.int .i64 t516) := (blk_cell BK522.out 2).trans rfl
                                have hcz104_3 : w102.cell? ⟨gb522, 3, none⟩ = some (.int .i64 t517) := (blk_cell BK522.out 3).trans rfl
                                have hcz104_4 : w102.cell? ⟨gb522, 4, none⟩ = some (.int .i64 t518) := (blk_cell BK522.out 4).trans rfl
                                have hcz104_5 : w102.cell? ⟨gb522, 5, none⟩ = some (.int .i64 t519) := (blk_cell BK522.out 5).trans rfl
                                have hcz104_6 : w102.cell? ⟨gb522, 6, none⟩ = some (.int .i64 t520) := (blk_cell BK522.out 6).trans rfl
                                have hcz104_7 : w102.cell? ⟨gb522, 7, none⟩ = some (.int .i64 t521) := (blk_cell BK522.out 7).trans rfl
                                try go_wp2_with (first | ((with_reducible refine gate_callee (f := 26) rfl ?_); refine goesL_ (some 154) rfl rfl Tryd.func26 (by kernel_rfl) rfl #[.agg #[.int .i64 t514, .int .i64 t515, .int .i64 t516, .int .i64 t517, .int .i64 t518, .int .i64 t519, .int .i64 t520, .int .i64 t521]] rfl (by (try simp only [List.map_toArray, List.map_cons, List.map_nil]); rfl) ?_; (with_reducible refine (resolve_Pointers.calls kj38 t514 t515 t516 t517 t518 t519 t520 t521 t523 t524 _ A51.out).mono ?_); rintro e w105 ⟨rfl, hb⟩; refine ⟨_, rfl, ?_⟩; replace BK522 := Aside0.mk (blk_below BK522.out hb); replace HB := Aside0.mk (below_step HB.out hb); (try clear BK507); (try clear hb); have hcz106_1 : w105.cell? ⟨gb522, 1, none⟩ = some (.int .i64 t515) := (blk_cell BK522.out 1).trans rfl; have hcz106_2 : w105.cell? ⟨gb522, 2, none⟩ = some (.int .i64 t516) := (blk_cell BK522.out 2).trans rfl; have hcz106_3 : w105.cell? ⟨gb522, 3, none⟩ = some (.int .i64 t517) := (blk_cell BK522.out 3).trans rfl; have hcz106_4 : w105.cell? ⟨gb522, 4, none⟩ = some (.int .i64 t518) := (blk_cell BK522.out 4).trans rfl) | ((with_reducible refine gate_callee (f := 30) rfl ?_); refine goesL_ (some 167) rfl rfl Tryd.func30 (by kernel_rfl) rfl #[.slice A0 l0.length c0, .int .i64 t515, .int .i64 t516, .int .i64 (wrap64 (t517 + t518))] rfl (by (try simp only [List.map_toArray, List.map_cons, List.map_nil]); rfl) ?_; (with_reducible refine (capnpref05_InBounds.calls _ _ l0 t515 t516 (wrap64 (t517 + t518)) false _ ?side1 ?side2 A52.out).mono ?_); (case side1 => repeat ((exact (Kd.C_below HR0.out HB.out)))); (case side2 => exact HC0.out); rintro e w' ⟨rfl, ⟨nd, rfl⟩⟩; refine ⟨_, rfl, ?_⟩))
                                go_ret
                                exact ⟨by rfl, by repeat ((with_reducible first | exact HB.out | apply pw_below_drewN))⟩
                    · rw [if_neg c38] at H
                      have c38b1 : (t503 != 7) = true := bne_iff_ne.mpr c38
                      replace H := Option.bind_eq_some_iff.mp H
                      obtain ⟨t512, A1070, H⟩ := H
                      replace H : (if t512 = true then (if t501 = 0 then (some (t502 == 0)) else (some false)) else (some false)) = some r := H
                      have A107 := Aside0.mk A1070
                      clear A1070
                      by_cases c108 : t512 = true
                      · subst c108
                        have H1 : (if t501 = 0 then (some (t502 == 0)) else (some false)) = some r := by rw [if_pos rfl] at H; exact H
                        clear H
                        have H := H1
                        clear H1
                        by_cases c109 : t501 = 0
                        · rw [if_pos c109] at H
                          have c109b0 : (t501 == 0) = true := beq_iff_eq.mpr c109
                          clear c109
                          obtain rfl := Option.some.inj H
                          obtain ⟨hcz110_0, hcz110_1, hcz110_2, hcz110_3, hcz110_4, hcz110_5, -, hcz110_7⟩ := cells8 BK507.out
                          go_wp2_with (((with_reducible refine gate_callee (f := 30) rfl ?_); refine goesL_ (some 97) rfl rfl Tryd.func30 (by kernel_rfl) rfl #[.slice A0 l0.length c0, .int .i64 t499, .int .i64 t500, .int .i64 t505] rfl (by (try simp only [List.map_toArray, List.map_cons, List.map_nil]); rfl) ?_; (with_reducible refine (capnpref05_InBounds.calls _ _ l0 t499 t500 t505 true _ ?side1 ?side2 A107.out).mono ?_); (case side1 => repeat ((exact (Kd.C_below HR0.out HB.out)))); (case side2 => exact HC0.out); rintro e w' ⟨rfl, ⟨nd, rfl⟩⟩; refine ⟨_, rfl, ?_⟩))
                          go_ret
                          exact ⟨by rfl, by repeat ((with_reducible first | exact HB.out | apply pw_below_drewN))⟩
                        · rw [if_neg c109] at H
                          have c109b0 : (t501 == 0) = false := beq_eq_false_iff_ne.mpr c109
                          obtain rfl := Option.some.inj H
                          obtain ⟨hcz111_0, hcz111_1, hcz111_2, hcz111_3, -, hcz111_5, -, hcz111_7⟩ := cells8 BK507.out
                          go_wp2_with (((with_reducible refine gate_callee (f := 30) rfl ?_); refine goesL_ (some 97) rfl rfl Tryd.func30 (by kernel_rfl) rfl #[.slice A0 l0.length c0, .int .i64 t499, .int .i64 t500, .int .i64 t505] rfl (by (try simp only [List.map_toArray, List.map_cons, List.map_nil]); rfl) ?_; (with_reducible refine (capnpref05_InBounds.calls _ _ l0 t499 t500 t505 true _ ?side1 ?side2 A107.out).mono ?_); (case side1 => repeat ((exact (Kd.C_below HR0.out HB.out)))); (case side2 => exact HC0.out); rintro e w' ⟨rfl, ⟨nd, rfl⟩⟩; refine ⟨_, rfl, ?_⟩))
                          go_ret
                          exact ⟨by rfl, by repeat ((with_reducible first | exact HB.out | apply pw_below_drewN))⟩
                      · replace c108 := Bool.eq_false_iff.mpr c108
                        subst c108
                        have H1 : (some false) = some r := by rw [if_neg (show ¬ (false = true) by decide)] at H; exact H
                        clear H
                        have H := H1
                        clear H1
                        obtain rfl := Option.some.inj H
                        obtain ⟨hcz112_0, hcz112_1, hcz112_2, -, -, hcz112_5, -, hcz112_7⟩ := cells8 BK507.out
                        go_wp2_with (((with_reducible refine gate_callee (f := 30) rfl ?_); refine goesL_ (some 97) rfl rfl Tryd.func30 (by kernel_rfl) rfl #[.slice A0 l0.length c0, .int .i64 t499, .int .i64 t500, .int .i64 t505] rfl (by (try simp only [List.map_toArray, List.map_cons, List.map_nil]); rfl) ?_; (with_reducible refine (capnpref05_InBounds.calls _ _ l0 t499 t500 t505 false _ ?side1 ?side2 A107.out).mono ?_); (case side1 => repeat ((exact (Kd.C_below HR0.out HB.out)))); (case side2 => exact HC0.out); rintro e w' ⟨rfl, ⟨nd, rfl⟩⟩; refine ⟨_, rfl, ?_⟩))
                        go_ret
                        exact ⟨by rfl, by repeat ((with_reducible first | exact HB.out | apply pw_below_drewN))⟩
        · rw [if_neg c15] at H
          have c15b1 : (t506 != 0) = true := bne_iff_ne.mpr c15
          obtain rfl := Option.some.inj H
          go_wp2_with (first | ((with_reducible refine gate_callee (f := 24) rfl ?_); refine goesL_ (some 28) rfl rfl Tryd.func24 (by kernel_rfl) rfl #[.slice A0 l0.length c0, .int .i64 a1, .int .i64 a2] rfl (by (try simp only [List.map_toArray, List.map_cons, List.map_nil]); rfl) ?_; (with_reducible refine (resolve_Object.calls kj4 _ _ l0 a1 a2 t498 t499 t500 t501 t502 t503 t504 t505 t506 _ ?side1 ?side2 ?side3 A14.out).mono ?_); (case side1 => exact Glob.below HG.out HB.out); (case side2 => repeat ((exact (Kd.C_below HR0.out HB.out)))); (case side3 => exact HC0.out); rintro e w113 ⟨rfl, hb⟩; refine ⟨_, rfl, ?_⟩; replace HB := Aside0.mk (below_step HB.out hb); (try clear hb)) | ((with_reducible refine gate_dst (N := 9) rfl ?_); refine box_event ?hg (N := 9) ?hd (cs := #[.int .i64 0, .int .i64 0, .int .i64 0, .int .i64 0, .int .i64 0, .int .i64 0, .int .i64 0, .int .i64 0]) (t := 46) ?hr ?_; (case hd => rfl); (case hg => rfl); (case hr => (go_simp; done)); intro gb507 hg w114 hbox hb; replace BK507 := Aside0.mk (hbox); replace GE507 := Aside0.mk (ge_of HB.out hg); replace HB := Aside0.mk (below_step HB.out hb); clear hb hbox hg; obtain ⟨hcz115_0, hcz115_1, hcz115_2, hcz115_3, hcz115_4, hcz115_5, hcz115_6, hcz115_7⟩ := cells8 BK507.out; obtain ⟨hfz115_0, hfz115_1, hfz115_2, hfz115_3, hfz115_4, hfz115_5, hfz115_6, hfz115_7⟩ := frz8 BK507.out))
          go_ret
          exact ⟨by rfl, by repeat ((with_reducible first | exact HB.out | refine below_set ?_ GE507.out))⟩

end Go.Proofs.YtcjhejopcghgnaaDoor.P

set_option linter.unusedVariables false
set_option linter.unusedSimpArgs false
namespace Go.Proofs.YtcjhejopcghgnaaDoor.P
open Go.RowKit Go.Proofs.YtcjhejopcghgnaaDoorW.PrintWords Go.Proofs.YtcjhejopcghgnaaDoorW.PrintLast Go.Proofs.YtcjhejopcghgnaaDoorW.PrintMore
theorem ResolvedObjectsAreInBounds_pure (l : List (List Int)) (h : Segs l) (s : Int) (hs : -9223372036854775808 ≤ s ∧ s ≤ 9223372036854775807) (a : Int) (ha : -9223372036854775808 ≤ a ∧ a ≤ 9223372036854775807) (x : Int) (hx : 0 ≤ x ∧ x ≤ 65535) :
    ∃ k, capnplaw08_ResolvedObjectsAreInBounds.f k l s a x = some true := by
  refine Has.ex (g := fun k => capnplaw08_ResolvedObjectsAreInBounds.f k l s a x) ?_
  simp only [capnplaw08_ResolvedObjectsAreInBounds.f]
  refine Has.bind awake8_has (Has.pos rfl (Has.bind (Few_has h) ?_))
  refine Has.step (fun k => by rw [capnplaw08_ResolvedObjectsAreInBounds.j0]) ?_
  by_cases hf : Few l
  case neg =>
    rw [decide_eq_false hf]
    exact Has.pos rfl (Has.bind awake8_has (Has.some_ _))
  rw [decide_eq_true hf]
  refine Has.neg (by simp) ?_
  refine Has.bind (Object_has h hf.sm s a) ?_
  rcases obj_ok h hf.sm s a with ho | ⟨s', st, d, q, ho, hi, h1, h2, h3⟩ | ⟨s', st, e, n, ho, hi, h1, h2, h3, h4⟩ | ⟨s', st, d, q, n, c, z, ho, hi, h1, h2, h3, h4, h5, h6, h7, h8, h9⟩
  · rw [ho]
    generalize (obj l s a).2.2.2.2.2.2.2.2 = r
    by_cases hr : r = 0
    · exact Has.pos hr (Has.pos rfl (Has.some_ _))
    · exact Has.neg hr (Has.some_ _)
  · rw [ho]
    have hst := inB_small hf.sm hi
    refine Has.pos rfl (Has.neg (by simp) (Has.bind (Pointers_has ..) (Has.neg (show ¬ d + q < 0 by omega) ?_)))
    have step : Has (fun k => capnplaw08_ResolvedObjectsAreInBounds.j1 k l x false 1 s' st d q 0 0 (d + q)) true := by
      refine Has.step (fun k => by rw [capnplaw08_ResolvedObjectsAreInBounds.j1]) ?_
      refine Has.neg (by simp) (Has.pos rfl (Has.const ?_))
      rw [w64 (x := d + q) (by omega), rInBounds_eq h, decide_eq_true hi]
      simp
    unfold ptrsO
    by_cases hq : q > 0
    · rw [if_pos (show (1 : Int) = 1 ∧ q > 0 from ⟨rfl, hq⟩), w64 (x := st + d) (by omega)]
      refine Has.pos hq ?_
      simp only
      rw [rInBounds_eq h, decide_eq_true (show inB l s' (st + d) q from inB_sub hi (by omega) (by omega) (by omega))]
      exact step
    · rw [if_neg (show ¬ ((1 : Int) = 1 ∧ q > 0) from fun h => hq h.2), if_neg (show ¬ ((1 : Int) = 2 ∧ (0 : Int) = 6 ∧ (0 : Int) > 0) from fun h => by omega)]
      exact Has.neg (by simp) step
  · rw [ho]
    have hst := inB_small hf.sm hi
    have hw := wordsOf_range (e := e) (c := n) ⟨h3, h4⟩
    refine Has.pos rfl (Has.neg (by simp) (Has.bind (Pointers_has ..) (Has.neg (show ¬ wordsOf e n < 0 by omega) ?_)))
    have step : Has (fun k => capnplaw08_ResolvedObjectsAreInBounds.j1 k l x false 2 s' st 0 0 e n (wordsOf e n)) true := by
      refine Has.step (fun k => by rw [capnplaw08_ResolvedObjectsAreInBounds.j1]) ?_
      refine Has.neg (by simp) (Has.neg (by simp) (Has.neg (by omega) (Has.const ?_)))
      rw [rInBounds_eq h, decide_eq_true hi]
      simp
    unfold ptrsO
    rw [if_neg (show ¬ ((2 : Int) = 1 ∧ (0 : Int) > 0) by omega)]
    by_cases hq : e = 6 ∧ n > 0
    · rw [if_pos (show (2 : Int) = 2 ∧ e = 6 ∧ n > 0 from ⟨rfl, hq⟩)]
      refine Has.pos hq.2 ?_
      have h6 : wordsOf e n = n := by
        rw [hq.1]
        unfold wordsOf
        rw [if_neg (by omega), show bitsOf (6 : Int).toNat = 64 from rfl]
        omega
      simp only
      rw [rInBounds_eq h, decide_eq_true (h6 ▸ hi)]
      exact step
    · rw [if_neg (show ¬ ((2 : Int) = 2 ∧ e = 6 ∧ n > 0) from fun h => hq h.2)]
      exact Has.neg (by simp) step
  · rw [ho]
    have hm := size_small (o := n) (n := d + q) ⟨h4, h5⟩ (by omega)
    have hst := inB_small hf.sm hi
    refine Has.pos rfl (Has.neg (by simp) (Has.bind (Pointers_has ..) (Has.neg (show ¬ c + 1 + z < 0 by omega) ?_)))
    unfold ptrsO
    rw [if_neg (show ¬ ((2 : Int) = 1 ∧ q > 0) by omega), if_neg (show ¬ ((2 : Int) = 2 ∧ (7 : Int) = 6 ∧ n > 0) by omega)]
    refine Has.neg (by simp) ?_
    refine Has.step (fun k => by rw [capnplaw08_ResolvedObjectsAreInBounds.j1]) ?_
    simp only
    rw [w64 (x := d + q) (by omega), w64 (x := n * (d + q)) (by omega), w64 (x := n * (d + q) + 1) (by omega), rInBounds_eq h s' st (n * (d + q)), decide_eq_true (show inB l s' st (n * (d + q)) from inB_sub hi (by omega) (by omega) (by omega))]
    refine Has.neg (by simp) (Has.neg (by simp) (Has.pos trivial (Has.neg (by omega) (Has.neg (by omega) ?_))))
    simp only [Option.bind_some]
    refine Has.step (fun k => by rw [capnplaw08_ResolvedObjectsAreInBounds.j2]) ?_
    refine Has.neg (by simp) ?_
    by_cases hn : n = 0
    case pos => exact Has.pos hn (Has.some_ _)
    refine Has.neg hn ?_
    have e1 : Int.tmod (wrap64 x) n = x % n := by rw [w64 (by omega), Int.tmod_eq_emod_of_nonneg hx.1]
    rw [e1]
    have hi' : 0 ≤ x % n ∧ x % n < n := ⟨Int.emod_nonneg _ hn, Int.emod_lt_of_pos _ (by omega)⟩
    generalize x % n = i at hi'
    have hp := elem_place hi' (m := d + q) (by omega) h6
    simp only [resolve_Element.f, Option.bind_some]
    rw [w64 (x := d + q) (by omega), w64 (x := i * (d + q)) (by omega), w64 (x := st + i * (d + q)) (by omega)]
    refine Has.bind (Pointers_has ..) ?_
    rw [rInBounds_eq h, decide_eq_true (show inB l s' (st + i * (d + q)) (d + q) from inB_sub hi (by omega) (by omega) (by omega))]
    unfold ptrsO
    by_cases hq : q > 0
    · rw [if_pos (show (1 : Int) = 1 ∧ q > 0 from ⟨rfl, hq⟩), w64 (x := st + i * (d + q) + d) (by omega)]
      simp only
      rw [rInBounds_eq h, decide_eq_true (show inB l s' (st + i * (d + q) + d) q from inB_sub hi (by omega) (by omega) (by omega))]
      exact Has.neg (by omega) (Has.some_ _)
    · rw [if_neg (show ¬ ((1 : Int) = 1 ∧ q > 0) from fun h => hq h.2), if_neg (show ¬ ((1 : Int) = 2 ∧ (0 : Int) = 6 ∧ (0 : Int) > 0) from fun h => by omega)]
      exact Has.some_ _
end Go.Proofs.YtcjhejopcghgnaaDoor.P

namespace Go.Proofs.YtcjhejopcghgnaaDoor.resolvedObjectsAreInBounds
open Go.ChangeShapes Go.WideShapes Go.ChangeAt Go.RowKit Go.Proofs.YtcjhejopcghgnaaDoor.P Go.Proofs.YtcjhejopcghgnaaDoorW.PrintWords
open Go.ChangeMaps (open_string shut_string)
open Go.Proofs.YtcjhejopcghgnaaDoor.P
set_option linter.unusedVariables false
theorem own : ownKnob Tryd.prog.godebug = none := by kernel_rfl
theorem laidOut : laidOutB Tryd.prog = true := by kernel_rfl
theorem door_met (os : Os) (args : Array Value) : laidMetH Tryd.prog Rows.resolvedObjectsAreInBoundsRow.laid ((World.doorLaid Tryd.prog 600 os).forCall (fun _ _ => 0) ⟨#[], args, []⟩).memory :=
  laidMetH_of_parts3 (fuel := 8) (laidMet_of_run' 8 (by kernel_rfl) (by kernel_rfl)) (by kernel_rfl) (by kernel_rfl)
set_option maxRecDepth 100000 in
set_option maxHeartbeats 1000000 in
theorem reads (os : Os) {H : Type} (enc : TypeId × Value → H) : DataW.whole enc Tryd.prog ((World.doorLaid Tryd.prog 600 os).forCall (fun _ _ => 0) ⟨#[], #[.slice none 0 0, .int .i64 0, .int .i64 0, .int .u16 0], []⟩).memory Tryd.f8.params.toList Rows.resolvedObjectsAreInBoundsSpec.vars false (#[.slice none 0 0, .int .i64 0, .int .i64 0, .int .u16 0] : Array Value).toList 8 = some ([.nil, .lit (.int .i64 0), .lit (.int .i64 0), .lit (.int .u16 0)], [], []) := by kernel_rfl
set_option maxRecDepth 100000 in
set_option maxHeartbeats 1000000 in
theorem lifted (os : Os) (started : os.Started) (H : Type) (enc : TypeId × Value → H) (F : Stop.Interp) :
    ReturnsInHanded {} Tryd.checked os 8 .any ((OpenSpec.ofChange Rows.resolvedObjectsAreInBoundsSpec).preRow enc Tryd.prog Tryd.f8 Rows.resolvedObjectsAreInBoundsRow.domain false Rows.resolvedObjectsAreInBoundsRow.laid) (((OpenSpec.ofChange Rows.resolvedObjectsAreInBoundsSpec).at F).post enc Tryd.prog Tryd.f8 false true false false) := by
  refine returnsInHanded_of_row (C := Tryd.checked) (s := (OpenSpec.ofChange Rows.resolvedObjectsAreInBoundsSpec)) own started (by kernel_rfl) Tryd.func8
    (witness_row_atRef (enc := enc) (C := Tryd.checked) false (World.doorLaid Tryd.prog 600 os) #[.slice none 0 0, .int .i64 0, .int .i64 0, .int .u16 0] rfl (by kernel_rfl) (by kernel_rfl) (by kernel_rfl)
      (OpenSpec.preRow_of_cond 8 (reads os enc) (by kernel_rfl) (fun k hk => by cases hk) (by kernel_rfl) (door_met os _))) ?_
  intro W base args ds gs before hval0 hW _ hcond _ hL _ _
  have hval : ∀ (j : Nat) t v, Tryd.f8.params[j]? = some t → args[j]? = some v → Value.okWide Tryd.prog W .any base t v := hval0
  have hW' := hW
  obtain ⟨p, q, hA0, hV, rfl, hfz, hnd⟩ := hW
  have hA : DataW.TrodAll enc Tryd.prog W 0 (fun _ => true) true Tryd.f8.params.toList args.toList ds p := hA0
  rw [Tryd.params8] at hA hval
  obtain ⟨v0, vs0, d0, ds0, p0, q0, hargs, rfl, rfl, h0, r0⟩ := trodAll_cons hA
  obtain ⟨v1, vs1, d1, ds1, p1, q1, rfl, rfl, rfl, h1, r1⟩ := trodAll_cons r0
  obtain ⟨v2, vs2, d2, ds2, p2, q2, rfl, rfl, rfl, h2, r2⟩ := trodAll_cons r1
  obtain ⟨v3, vs3, d3, ds3, p3, q3, rfl, rfl, rfl, h3, r3⟩ := trodAll_cons r2
  obtain ⟨rfl, rfl, rfl⟩ := trodAll_nil r3
  obtain rfl : args = #[v0, v1, v2, v3] := by cases args; simp_all
  obtain ⟨rfl, rfl⟩ := trodVars_none hV
  have k0 := h0
  have lt0 : ∀ x ∈ p0, x.block < W.heap.size := by obtain ⟨m, hm⟩ := k0; exact DataW.trod_lt m _ _ _ hm
  obtain ⟨x0, y0, z0, rfl⟩ := okWide_slice Tryd.underlying22 (hval 0 22 v0 rfl rfl)
  obtain ⟨fuel0, hf0⟩ := h0
  obtain ⟨l0, ⟨A0, c0, hcs0, hl0, hr0⟩, s0⟩ := (Opens.slice Tryd.underlying22 (by kernel_rfl) (fun _ => (Opens.slice Tryd.underlying40 (by kernel_rfl) (fun _ => (OpensAt.int Tryd.underlying23)) _)) _ _ _ hf0 : ∃ a, (Kd.slice 40 _).K W a _ ∧ _)
  simp only [Value.cells, List.cons.injEq, Value.slice.injEq, and_true] at hcs0
  obtain ⟨rfl, rfl, rfl⟩ := hcs0
  have k1 := h1
  have lt1 : ∀ x ∈ p1, x.block < W.heap.size := by obtain ⟨m, hm⟩ := k1; exact DataW.trod_lt m _ _ _ hm
  obtain ⟨a1, rfl, _, _, w1⟩ := open_int Tryd.underlying3 (hval 1 3 v1 rfl rfl) h1
  have k2 := h2
  have lt2 : ∀ x ∈ p2, x.block < W.heap.size := by obtain ⟨m, hm⟩ := k2; exact DataW.trod_lt m _ _ _ hm
  obtain ⟨a2, rfl, _, _, w2⟩ := open_int Tryd.underlying3 (hval 2 3 v2 rfl rfl) h2
  have k3 := h3
  have lt3 : ∀ x ∈ p3, x.block < W.heap.size := by obtain ⟨m, hm⟩ := k3; exact DataW.trod_lt m _ _ _ hm
  obtain ⟨a3, rfl, _, _, w3⟩ := open_int Tryd.underlying35 (hval 3 35 v3 rfl rfl) h3
  have hG : Glob true W := ⟨dec_of_laid hL (by first | exact List.mem_cons_self | (exact List.mem_cons_of_mem _ List.mem_cons_self)), fun _ => bits_of_laid hL rfl⟩
  obtain ⟨k, hp⟩ := ResolvedObjectsAreInBounds_pure l0 (plain_slice hr0 s0 (fun _ _ _ s k => by obtain ⟨_, _, rfl, _, hC⟩ := k; exact plain_slice hC s (fun _ _ _ s _ => bounds_u64 s.2))) a1 (bounds_i64 w1) a2 (bounds_i64 w2) a3 (bounds_u16 w3)
  refine (capnplaw08_ResolvedObjectsAreInBounds.calls k _ _ l0 a1 a2 a3 true W hG hr0 hl0 hp).mono fun e W' ⟨he, bel⟩ => ?_
  subst he
  exact ⟨_, rfl, _, _, _, [], _, [], hW', trodAll_mk1 (shut_bool Tryd.underlying4 _), (trodAll_cons_mk (Below.trod laidOut (by kernel_rfl) (of_decide_eq_true (by kernel_rfl)) k0 bel lt0) (trodAll_cons_mk (Below.trod laidOut (by kernel_rfl) (of_decide_eq_true (by kernel_rfl)) k1 bel lt1) (trodAll_cons_mk (Below.trod laidOut (by kernel_rfl) (of_decide_eq_true (by kernel_rfl)) k2 bel lt2) (trodAll_cons_mk (Below.trod laidOut (by kernel_rfl) (of_decide_eq_true (by kernel_rfl)) k3 bel lt3) trodAll_mk0)))), rfl, bel.frame _, fun h => by cases h⟩
theorem over : Rows.resolvedObjectsAreInBoundsRow.holds Tryd.pinned (OpenSpec.ofChange Rows.resolvedObjectsAreInBoundsSpec) :=
  OpenClaim.holds_of_cond 8 Tryd.f8 rfl rfl rfl rfl rfl rfl rfl ⟨rfl, rfl, rfl, rfl, rfl⟩ rfl rfl rfl rfl rfl (by kernel_rfl) Tryd.func8 (by kernel_rfl)
    (of_decide_eq_true (by kernel_rfl)) (by unfold Func.isWrapper; first | (rw [if_pos (by decide +kernel)]; kernel_rfl) | (rw [if_neg (by decide +kernel)]; exact ⟨rfl, rfl⟩))
    (fun os started H enc _ F => by rw [OpenClaim.pre_eq_preRow]; exact lifted os started H enc F)
theorem card_holds : Rows.ResolvedObjectsAreInBoundsCardSaid :=
  Claim7.holds_tied_plain_at .later [] [.funcs, .data] true (true, "0407ccd01fd84b1ba019f912a12938fec7519b4bc3503758b1d06eee7da07cad") false
    over (fun _ h => by cases h) (by kernel_rfl) (fun _ h => by cases h) resolvedObjectsAreInBounds_row_tie rfl ⟨rfl, rfl⟩ (by kernel_rfl) rfl
    (fun f fn hf hfn => by
      obtain rfl : f = 8 := Option.some.inj ((show Tryd.prog.funcNamed "capnp/capnplaw08.ResolvedObjectsAreInBounds" = some 8 by kernel_rfl).symm.trans hf) |>.symm
      obtain rfl : fn = Tryd.f8 := (Option.some.inj (Tryd.func8.symm.trans hfn)).symm
      exact ⟨by kernel_rfl, fun j t ht => by
        rw [Tryd.params8] at ht
        have hm : t ∈ [22, 3, 3, 35] := by simpa using Array.mem_of_getElem? ht
        have hall : ([22, 3, 3, 35].all fun u => !Tryd.prog.wantsStandIn u) = true := by kernel_rfl
        exact (show Tryd.prog.wantsStandIn t = false by simpa using List.all_eq_true.1 hall t hm)⟩)
    (by kernel_rfl)
#print axioms card_holds
end Go.Proofs.YtcjhejopcghgnaaDoor.resolvedObjectsAreInBounds
namespace Go.Proofs.YtcjhejopcghgnaaDoor
theorem resolvedObjectsAreInBounds_holds : Go.Proofs.YtcjhejopcghgnaaDoor.Rows.ResolvedObjectsAreInBoundsCardSaid := resolvedObjectsAreInBounds.card_holds
end Go.Proofs.YtcjhejopcghgnaaDoor
