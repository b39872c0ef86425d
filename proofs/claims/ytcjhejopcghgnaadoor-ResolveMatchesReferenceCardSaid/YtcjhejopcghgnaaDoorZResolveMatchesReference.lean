/- This text proves that the law ResolveMatchesReference of the given program returns true on every input that its statement covers, as the statement says it. Its conditions are the statement's own. -/
import Derived.Test.YtcjhejopcghgnaaDoorBR81
import Derived.Test.YtcjhejopcghgnaaDoorBR82
import Derived.Test.YtcjhejopcghgnaaDoorBR83
import Derived.Test.YtcjhejopcghgnaaDoorRows
import Derived.Test.YtcjhejopcghgnaaDoorCards
import Derived.Test.YtcjhejopcghgnaaDoorTie
import Derived.WalkKit
import Derived.ProofKit
import Derived.OpenShut
import Derived.ChangeOld
import Derived.SizedLaws
import Derived.SevenTiedAt
import Derived.Deep.DeepHandedRow
import Derived.Deep.DeepWitnessRowRef
namespace Go.Proofs.YtcjhejopcghgnaaDoor.P
open Go.RowKit Go.Proofs.YtcjhejopcghgnaaDoorW.PrintWords Go.Proofs.YtcjhejopcghgnaaDoorW.PrintLast Go.Proofs.YtcjhejopcghgnaaDoorW.PrintMore
attribute [local go_sem] max2_int min2_int max_two min_two max_three min_three max_four min_four   -- for this text's walks alone
set_option linter.unusedVariables false
set_option linter.unusedSimpArgs false

variable {gb : Bool}
theorem eqA46 (d : Nat) (w : World) (x0 y0 : Int) (x1 y1 : Int) (x2 y2 : Int) (x3 y3 : Int) (x4 y4 : Int) (x5 y5 : Int) (x6 y6 : Int) (x7 y7 : Int) :
    (Op.equalIn (d + 2) 46 (.agg #[.int .i64 x0, .int .i64 x1, .int .i64 x2, .int .i64 x3, .int .i64 x4, .int .i64 x5, .int .i64 x6, .int .i64 x7]) (.agg #[.int .i64 y0, .int .i64 y1, .int .i64 y2, .int .i64 y3, .int .i64 y4, .int .i64 y5, .int .i64 y6, .int .i64 y7])).run Tryd.prog w = .ok (x0 == y0 && (x1 == y1 && (x2 == y2 && (x3 == y3 && (x4 == y4 && (x5 == y5 && (x6 == y6 && (x7 == y7)))))))) w := by
  refine eqA_of Tryd.underlying46 (by kernel_rfl) ?_
  refine eqf_cons (by rfl) (by go_simp; rfl) (by go_simp; rfl) (by go_simp) ?_
  refine eqf_cons (by rfl) (by go_simp; rfl) (by go_simp; rfl) (by go_simp) ?_
  refine eqf_cons (by rfl) (by go_simp; rfl) (by go_simp; rfl) (by go_simp) ?_
  refine eqf_cons (by rfl) (by go_simp; rfl) (by go_simp; rfl) (by go_simp) ?_
  refine eqf_cons (by rfl) (by go_simp; rfl) (by go_simp; rfl) (by go_simp) ?_
  refine eqf_cons (by rfl) (by go_simp; rfl) (by go_simp; rfl) (by go_simp) ?_
  refine eqf_cons (by rfl) (by go_simp; rfl) (by go_simp; rfl) (by go_simp) ?_
  exact eqf_last (by rfl) (by go_simp; rfl) (by go_simp; rfl) (by go_simp)
end Go.Proofs.YtcjhejopcghgnaaDoor.P

namespace Go.Proofs.YtcjhejopcghgnaaDoor.P
open Go.RowKit Go.Proofs.YtcjhejopcghgnaaDoorW.PrintWords Go.Proofs.YtcjhejopcghgnaaDoorW.PrintLast Go.Proofs.YtcjhejopcghgnaaDoorW.PrintMore
attribute [local go_sem] max2_int min2_int max_two min_two max_three min_three max_four min_four   -- for this text's walks alone
set_option linter.unusedVariables false
set_option linter.unusedSimpArgs false

variable {gb : Bool}
attribute [local go_sem high] eqA46
/-! ### capnplaw08_ResolveMatchesReference: function 7 -/
mutual
def capnplaw08_ResolveMatchesReference.j0 : Nat → List (List Int) → Int → Int → Int → Bool → Option (Bool)
  | 0, _, _, _, _, _ => none
  | k + 1, x0, x1, x2, x3, x29 => if x29 = true then ((capnplaw08_awake.f).bind fun t474 => (some t474)) else ((resolve_Object.f k x0 x1 x2).bind fun bt475 => ((capnpref08_Object.f k x0 x1 x2).bind fun bt485 => (if (!(bt475.1 == bt485.1) || (!(bt475.2.1 == bt485.2.1) || (!(bt475.2.2.1 == bt485.2.2.1) || (!(bt475.2.2.2.1 == bt485.2.2.2.1) || (!(bt475.2.2.2.2.1 == bt485.2.2.2.2.1) || (!(bt475.2.2.2.2.2.1 == bt485.2.2.2.2.2.1) || (!(bt475.2.2.2.2.2.2.1 == bt485.2.2.2.2.2.2.1) || (!(bt475.2.2.2.2.2.2.2.1 == bt485.2.2.2.2.2.2.2.1))))))))) = true then (capnplaw08_ResolveMatchesReference.j1 k x3 true bt485.1 bt485.2.1 bt485.2.2.1 bt485.2.2.2.1 bt485.2.2.2.2.1 bt485.2.2.2.2.2.1 bt485.2.2.2.2.2.2.1 bt485.2.2.2.2.2.2.2.1) else (capnplaw08_ResolveMatchesReference.j1 k x3 (bt475.2.2.2.2.2.2.2.2 != bt485.2.2.2.2.2.2.2.2) bt485.1 bt485.2.1 bt485.2.2.1 bt485.2.2.2.1 bt485.2.2.2.2.1 bt485.2.2.2.2.2.1 bt485.2.2.2.2.2.2.1 bt485.2.2.2.2.2.2.2.1))))
def capnplaw08_ResolveMatchesReference.j1 : Nat → Int → Bool → Int → Int → Int → Int → Int → Int → Int → Int → Option (Bool)
  | 0, _, _, _, _, _, _, _, _, _, _ => none
  | k + 1, x3, x52, x495000, x495001, x495002, x495003, x495004, x495005, x495006, x495007 => if x52 = true then (some false) else ((resolve_Pointers.f k x495000 x495001 x495002 x495003 x495004 x495005 x495006 x495007).bind fun bt495 => ((capnpref08_Pointers.f k x495000 x495001 x495002 x495003 x495004 x495005 x495006 x495007).bind fun bt497 => (if bt495.1 = bt497.1 then (capnplaw08_ResolveMatchesReference.j2 k x3 (bt495.2 != bt497.2) x495000 x495001 x495002 x495003 x495004 x495005 x495006 x495007) else (capnplaw08_ResolveMatchesReference.j2 k x3 true x495000 x495001 x495002 x495003 x495004 x495005 x495006 x495007))))
def capnplaw08_ResolveMatchesReference.j2 : Nat → Int → Bool → Int → Int → Int → Int → Int → Int → Int → Int → Option (Bool)
  | 0, _, _, _, _, _, _, _, _, _, _ => none
  | k + 1, x3, x70, x495000, x495001, x495002, x495003, x495004, x495005, x495006, x495007 => if x70 = true then (some false) else (if x495000 = 2 then (if x495005 = 7 then (capnplaw08_ResolveMatchesReference.j3 k x3 (x495006 == 0) x495000 x495001 x495002 x495003 x495004 x495005 x495006 x495007) else (capnplaw08_ResolveMatchesReference.j3 k x3 true x495000 x495001 x495002 x495003 x495004 x495005 x495006 x495007)) else (capnplaw08_ResolveMatchesReference.j3 k x3 true x495000 x495001 x495002 x495003 x495004 x495005 x495006 x495007))
def capnplaw08_ResolveMatchesReference.j3 : Nat → Int → Bool → Int → Int → Int → Int → Int → Int → Int → Int → Option (Bool)
  | 0, _, _, _, _, _, _, _, _, _, _ => none
  | k + 1, x3, x83, x495000, x495001, x495002, x495003, x495004, x495005, x495006, x495007 => if x83 = true then (some true) else (if x495006 = 0 then (none) else ((resolve_Element.f x495000 x495001 x495002 x495003 x495004 x495005 x495006 x495007 (Int.tmod (wrap64 (x3)) x495006)).bind fun bt499 => ((resolve_Pointers.f k bt499.1 bt499.2.1 bt499.2.2.1 bt499.2.2.2.1 bt499.2.2.2.2.1 bt499.2.2.2.2.2.1 bt499.2.2.2.2.2.2.1 bt499.2.2.2.2.2.2.2).bind fun bt508 => ((capnpref08_Element.f x495000 x495001 x495002 x495003 x495004 x495005 x495006 x495007 (Int.tmod (wrap64 (x3)) x495006)).bind fun bt510 => ((capnpref08_Pointers.f k bt510.1 bt510.2.1 bt510.2.2.1 bt510.2.2.2.1 bt510.2.2.2.2.1 bt510.2.2.2.2.2.1 bt510.2.2.2.2.2.2.1 bt510.2.2.2.2.2.2.2).bind fun bt518 => ((capnpref08_Element.f x495000 x495001 x495002 x495003 x495004 x495005 x495006 x495007 (Int.tmod (wrap64 (x3)) x495006)).bind fun bt520 => (if (bt499.1 == bt520.1 && (bt499.2.1 == bt520.2.1 && (bt499.2.2.1 == bt520.2.2.1 && (bt499.2.2.2.1 == bt520.2.2.2.1 && (bt499.2.2.2.2.1 == bt520.2.2.2.2.1 && (bt499.2.2.2.2.2.1 == bt520.2.2.2.2.2.1 && (bt499.2.2.2.2.2.2.1 == bt520.2.2.2.2.2.2.1 && (bt499.2.2.2.2.2.2.2 == bt520.2.2.2.2.2.2.2)))))))) = true then (if bt508.1 = bt518.1 then (some (bt508.2 == bt518.2)) else (some false)) else (some false))))))))
end
def capnplaw08_ResolveMatchesReference.f (k : Nat) (l0 : List (List Int)) (a1 a2 a3 : Int) : Option (Bool) := (capnplaw08_awake.f).bind fun t472 => (if t472 = true then ((capnpref04_Few.f k l0).bind fun t473 => (capnplaw08_ResolveMatchesReference.j0 k l0 a1 a2 a3 (!t473))) else (capnplaw08_ResolveMatchesReference.j0 k l0 a1 a2 a3 true))
theorem capnplaw08_ResolveMatchesReference.mono_l : ∀ k, (∀ y0 y1 y2 y3 y4, LeO (capnplaw08_ResolveMatchesReference.j0 k y0 y1 y2 y3 y4) (capnplaw08_ResolveMatchesReference.j0 (k + 1) y0 y1 y2 y3 y4)) ∧ (∀ y0 y1 y2 y3 y4 y5 y6 y7 y8 y9, LeO (capnplaw08_ResolveMatchesReference.j1 k y0 y1 y2 y3 y4 y5 y6 y7 y8 y9) (capnplaw08_ResolveMatchesReference.j1 (k + 1) y0 y1 y2 y3 y4 y5 y6 y7 y8 y9)) ∧ (∀ y0 y1 y2 y3 y4 y5 y6 y7 y8 y9, LeO (capnplaw08_ResolveMatchesReference.j2 k y0 y1 y2 y3 y4 y5 y6 y7 y8 y9) (capnplaw08_ResolveMatchesReference.j2 (k + 1) y0 y1 y2 y3 y4 y5 y6 y7 y8 y9)) ∧ (∀ y0 y1 y2 y3 y4 y5 y6 y7 y8 y9, LeO (capnplaw08_ResolveMatchesReference.j3 k y0 y1 y2 y3 y4 y5 y6 y7 y8 y9) (capnplaw08_ResolveMatchesReference.j3 (k + 1) y0 y1 y2 y3 y4 y5 y6 y7 y8 y9))
  | 0 => ⟨fun _ _ _ _ _ r h => by simp [capnplaw08_ResolveMatchesReference.j0] at h, fun _ _ _ _ _ _ _ _ _ _ r h => by simp [capnplaw08_ResolveMatchesReference.j1] at h, fun _ _ _ _ _ _ _ _ _ _ r h => by simp [capnplaw08_ResolveMatchesReference.j2] at h, fun _ _ _ _ _ _ _ _ _ _ r h => by simp [capnplaw08_ResolveMatchesReference.j3] at h⟩
  | k + 1 => by
    obtain ⟨ih0, ih1, ih2, ih3⟩ := capnplaw08_ResolveMatchesReference.mono_l k
    refine ⟨?_, ?_, ?_, ?_⟩
    · intro y0 y1 y2 y3 y4
      unfold capnplaw08_ResolveMatchesReference.j0
      repeat' first
      | (with_reducible apply ih1)
      | (with_reducible apply capnpref08_Object.mono)
      | (with_reducible apply resolve_Object.mono)
      | (with_reducible exact LeO.refl _)
      | (with_reducible refine LeO.ite ?_ ?_)
      | (with_reducible refine LeO.bind ?_ (fun _ => ?_))
    · intro y0 y1 y2 y3 y4 y5 y6 y7 y8 y9
      unfold capnplaw08_ResolveMatchesReference.j1
      repeat' first
      | (with_reducible apply ih2)
      | (with_reducible apply capnpref08_Pointers.mono)
      | (with_reducible apply resolve_Pointers.mono)
      | (with_reducible exact LeO.refl _)
      | (with_reducible refine LeO.ite ?_ ?_)
      | (with_reducible refine LeO.bind ?_ (fun _ => ?_))
    · intro y0 y1 y2 y3 y4 y5 y6 y7 y8 y9
      unfold capnplaw08_ResolveMatchesReference.j2
      repeat' first
      | (with_reducible apply ih3)
      | (with_reducible exact LeO.refl _)
      | (with_reducible refine LeO.ite ?_ ?_)
    · intro y0 y1 y2 y3 y4 y5 y6 y7 y8 y9
      unfold capnplaw08_ResolveMatchesReference.j3
      repeat' first
      | (with_reducible apply capnpref08_Pointers.mono)
      | (with_reducible apply resolve_Pointers.mono)
      | (with_reducible exact LeO.refl _)
      | (with_reducible refine LeO.ite ?_ ?_)
      | (with_reducible refine LeO.bind ?_ (fun _ => ?_))
theorem capnplaw08_ResolveMatchesReference.mono : ∀ a0 a1 a2 a3 k, LeO (capnplaw08_ResolveMatchesReference.f k a0 a1 a2 a3) (capnplaw08_ResolveMatchesReference.f (k + 1) a0 a1 a2 a3) := by
  intro a0 a1 a2 a3 k
  obtain ⟨ih0, ih1, ih2, ih3⟩ := capnplaw08_ResolveMatchesReference.mono_l k
  unfold capnplaw08_ResolveMatchesReference.f
  repeat' first
      | (with_reducible apply ih0)
      | (with_reducible apply capnpref04_Few.mono)
      | (with_reducible exact LeO.refl _)
      | (with_reducible refine LeO.ite ?_ ?_)
      | (with_reducible refine LeO.bind ?_ (fun _ => ?_))
def capnplaw08_ResolveMatchesReference.T17 : Bool × List (List Nat × List Nat) := (true, [([], []), ([], []), ([], []), ([1, 2], [1, 2]), ([0, 3], [0, 3]), ([4, 3], [4]), ([5], [5]), ([5], [5]), ([6, 7, 5], [5, 6, 7]), ([5, 8], [5, 8]), ([9, 5], [9]), ([10], [10]), ([10], [10]), ([11, 12, 10], [10, 11, 12]), ([10, 13], [10, 13]), ([14, 10, 0, 1, 2, 3, 4, 5, 6, 7, 8, 9, 10, 11, 12, 13, 14], [14])])
def capnplaw08_ResolveMatchesReference.B17 : List Nat := [0, 0, 0, 6, 15, 31, 63, 63, 255, 511, 1023, 2047, 2047, 8191, 16383, 32767]
theorem capnplaw08_ResolveMatchesReference.tab17 : rtab .any (opsOf Tryd.f7 17) = capnplaw08_ResolveMatchesReference.T17 := by kernel_rfl
theorem capnplaw08_ResolveMatchesReference.bits17 : waitsOk capnplaw08_ResolveMatchesReference.T17.2 capnplaw08_ResolveMatchesReference.B17 = true := by kernel_rfl
set_option maxHeartbeats 8000000 in
set_option maxRecDepth 100000 in
theorem capnplaw08_ResolveMatchesReference.calls (k : Nat) (A0 : Option Addr) (c0 : Nat) (l0 : List (List Int)) (a1 a2 a3 : Int) (r : Bool) (w : World) (hG : Glob true w) (hr0 : Kd.C (Kd.slice 23 (Kd.int .u64)) w A0 l0.length l0) (hc0 : l0.length ≤ c0) (h : capnplaw08_ResolveMatchesReference.f k l0 a1 a2 a3 = some r) :
    Calls Tryd.prog 7 #[.slice A0 l0.length c0, .int .i64 a1, .int .i64 a2, .int .u16 a3] w fun e w' => e = .returned (.bool r) ∧ Below w.heap.size w w' := by
  have hu46 := Tryd.underlying46
  have HG := Aside0.mk hG
  clear hG
  have HR0 := Aside0.mk hr0
  have HC0 := Aside0.mk hc0
  clear hr0 hc0
  have HB := Aside0.mk (Below.refl w.heap.size w)
  have H : ((capnplaw08_awake.f).bind fun t472 => (if t472 = true then ((capnpref04_Few.f k l0).bind fun t473 => (capnplaw08_ResolveMatchesReference.j0 k l0 a1 a2 a3 (!t473))) else (capnplaw08_ResolveMatchesReference.j0 k l0 a1 a2 a3 true))) = some r := h
  clear h
  have HC5 := Aside0.mk H
  clear H
  go_enter Tryd.func7, Tryd.ntmps7
  go_upto_region 1 with (fail)
  go_cut [29] (fun v29 wc => ∃ (kq : Nat) (x29_4 : Bool), v29 = .bool x29_4 ∧ Aside0 (capnplaw08_ResolveMatchesReference.j0 kq l0 a1 a2 a3 x29_4 = some r) ∧ Aside0 (kq ≤ k) ∧ Aside0 (Below w.heap.size w wc))
  case first =>
    have H := HC5.out
    clear HC5
    replace H := Option.bind_eq_some_iff.mp H
    obtain ⟨t472, A60, H⟩ := H
    have A6 := Aside0.mk A60
    clear A60
    by_cases c7 : t472 = true
    · subst c7
      have H1 : ((capnpref04_Few.f k l0).bind fun t473 => (capnplaw08_ResolveMatchesReference.j0 k l0 a1 a2 a3 (!t473))) = some r := by rw [if_pos rfl] at H; exact H
      clear H
      have H := H1
      clear H1
      replace H := Option.bind_eq_some_iff.mp H
      obtain ⟨t473, A80, H⟩ := H
      replace H : (capnplaw08_ResolveMatchesReference.j0 k l0 a1 a2 a3 (!t473)) = some r := H
      have A8 := Aside0.mk A80
      clear A80
      have H' := Aside0.mk H
      clear H
      go_wp2_with (first | ((with_reducible refine gate_callee (f := 23) rfl ?_); refine goesL_ (some 23) rfl rfl Tryd.func23 (by kernel_rfl) rfl #[] rfl (by (try simp only [List.map_toArray, List.map_cons, List.map_nil]); done) ?_; (with_reducible refine (capnplaw08_awake.calls  true _ ?side1 A6.out).mono ?_); (case side1 => exact Glob.below HG.out HB.out); rintro e w9 ⟨rfl, hb⟩; refine ⟨_, rfl, ?_⟩; replace HB := Aside0.mk (below_step HB.out hb); (try clear hb)) | (go_at_call 13; (with_reducible refine (capnpref04_Few.calls k _ _ l0 t473 _ ?side1 ?side2 A8.out).mono ?_); (case side1 => repeat ((exact (Kd.C_below HR0.out HB.out)))); (case side2 => exact HC0.out); rintro e w' ⟨rfl, ⟨nd, rfl⟩⟩))
      go_meet
      case rel => exact ⟨_, (!t473), (by rfl), H', ⟨by omega⟩, ⟨by repeat ((with_reducible first | exact HB.out | apply pw_below_drewN))⟩⟩
    · replace c7 := Bool.eq_false_iff.mpr c7
      subst c7
      have H1 : (capnplaw08_ResolveMatchesReference.j0 k l0 a1 a2 a3 true) = some r := by rw [if_neg (show ¬ (false = true) by decide)] at H; exact H
      clear H
      have H := H1
      clear H1
      have H' := Aside0.mk H
      clear H
      go_wp2_with (((with_reducible refine gate_callee (f := 23) rfl ?_); refine goesL_ (some 23) rfl rfl Tryd.func23 (by kernel_rfl) rfl #[] rfl (by (try simp only [List.map_toArray, List.map_cons, List.map_nil]); done) ?_; (with_reducible refine (capnplaw08_awake.calls  false _ ?side1 A6.out).mono ?_); (case side1 => exact Glob.below HG.out HB.out); rintro e w10 ⟨rfl, hb⟩; refine ⟨_, rfl, ?_⟩; replace HB := Aside0.mk (below_step HB.out hb); (try clear hb)))
      go_meet
      case rel => exact ⟨_, (true), (by rfl), H', ⟨by omega⟩, ⟨by repeat ((with_reducible exact HB.out))⟩⟩
  case rest =>
    clear HC5
    skip
    skip
    skip
    obtain ⟨kq, x29_4, rfl, HA, HJ4, HB⟩ := hcut
    cases kq with
    | zero => exact absurd HA.out (by simp [capnplaw08_ResolveMatchesReference.j0])
    | succ kj4 =>
      have H := HA.out
      clear HA
      simp only [capnplaw08_ResolveMatchesReference.j0] at H
      by_cases c11 : x29_4 = true
      · subst c11
        have H1 : ((capnplaw08_awake.f).bind fun t474 => (some t474)) = some r := by rw [if_pos rfl] at H; exact H
        clear H
        have H := H1
        clear H1
        replace H := Option.bind_eq_some_iff.mp H
        obtain ⟨t474, A120, H⟩ := H
        replace H : (some t474) = some r := H
        have A12 := Aside0.mk A120
        clear A120
        obtain rfl := Option.some.inj H
        go_wp2_with (((with_reducible refine gate_callee (f := 23) rfl ?_); refine goesL_ (some 30) rfl rfl Tryd.func23 (by kernel_rfl) rfl #[] rfl (by (try simp only [List.map_toArray, List.map_cons, List.map_nil]); done) ?_; (with_reducible refine (capnplaw08_awake.calls  t474 _ ?side1 A12.out).mono ?_); (case side1 => exact Glob.below HG.out HB.out); rintro e w13 ⟨rfl, hb⟩; refine ⟨_, rfl, ?_⟩; replace HB := Aside0.mk (below_step HB.out hb); (try clear hb)))
        go_ret
        exact ⟨by rfl, by repeat ((with_reducible exact HB.out))⟩
      · replace c11 := Bool.eq_false_iff.mpr c11
        subst c11
        have H1 : ((resolve_Object.f kj4 l0 a1 a2).bind fun bt475 => ((capnpref08_Object.f kj4 l0 a1 a2).bind fun bt485 => (if (!(bt475.1 == bt485.1) || (!(bt475.2.1 == bt485.2.1) || (!(bt475.2.2.1 == bt485.2.2.1) || (!(bt475.2.2.2.1 == bt485.2.2.2.1) || (!(bt475.2.2.2.2.1 == bt485.2.2.2.2.1) || (!(bt475.2.2.2.2.2.1 == bt485.2.2.2.2.2.1) || (!(bt475.2.2.2.2.2.2.1 == bt485.2.2.2.2.2.2.1) || (!(bt475.2.2.2.2.2.2.2.1 == bt485.2.2.2.2.2.2.2.1))))))))) = true then (capnplaw08_ResolveMatchesReference.j1 kj4 a3 true bt485.1 bt485.2.1 bt485.2.2.1 bt485.2.2.2.1 bt485.2.2.2.2.1 bt485.2.2.2.2.2.1 bt485.2.2.2.2.2.2.1 bt485.2.2.2.2.2.2.2.1) else (capnplaw08_ResolveMatchesReference.j1 kj4 a3 (bt475.2.2.2.2.2.2.2.2 != bt485.2.2.2.2.2.2.2.2) bt485.1 bt485.2.1 bt485.2.2.1 bt485.2.2.2.1 bt485.2.2.2.2.1 bt485.2.2.2.2.2.1 bt485.2.2.2.2.2.2.1 bt485.2.2.2.2.2.2.2.1)))) = some r := by rw [if_neg (show ¬ (false = true) by decide)] at H; exact H
        clear H
        have H := H1
        clear H1
        replace H := Option.bind_eq_some_iff.mp H
        obtain ⟨⟨t475, t476, t477, t478, t479, t480, t481, t482, t483⟩, A140, H⟩ := H
        dsimp only at H
        have A14 := Aside0.mk A140
        clear A140
        replace H := Option.bind_eq_some_iff.mp H
        obtain ⟨⟨t485, t486, t487, t488, t489, t490, t491, t492, t493⟩, A150, H⟩ := H
        dsimp only at H
        have A15 := Aside0.mk A150
        clear A150
        have HC16 := Aside0.mk H
        clear H
        go_upto_region 5 with (first | ((with_reducible refine gate_callee (f := 24) rfl ?_); refine goesL_ (some 35) rfl rfl Tryd.func24 (by kernel_rfl) rfl #[.slice A0 l0.length c0, .int .i64 a1, .int .i64 a2] rfl (by (try simp only [List.map_toArray, List.map_cons, List.map_nil]); rfl) ?_; (with_reducible refine (resolve_Object.calls kj4 _ _ l0 a1 a2 t475 t476 t477 t478 t479 t480 t481 t482 t483 _ ?side1 ?side2 ?side3 A14.out).mono ?_); (case side1 => exact Glob.below HG.out HB.out); (case side2 => repeat ((exact (Kd.C_below HR0.out HB.out)))); (case side3 => exact HC0.out); rintro e w17 ⟨rfl, hb⟩; refine ⟨_, rfl, ?_⟩; replace HB := Aside0.mk (below_step HB.out hb); (try clear hb)) | ((with_reducible refine gate_dst (N := 9) rfl ?_); refine box_event ?hg (N := 9) ?hd (cs := #[.int .i64 0, .int .i64 0, .int .i64 0, .int .i64 0, .int .i64 0, .int .i64 0, .int .i64 0, .int .i64 0]) (t := 46) ?hr ?_; (case hd => rfl); (case hg => rfl); (case hr => (go_simp; done)); intro gb484 hg w18 hbox hb; replace BK484 := Aside0.mk (hbox); replace GW484 := Aside0.mk (ge_of HB.out hg); replace GE484 := Aside0.mk (ge_of HB.out hg); replace HB := Aside0.mk (below_step HB.out hb); clear hb hbox hg; obtain ⟨hcz19_0, hcz19_1, hcz19_2, hcz19_3, hcz19_4, hcz19_5, hcz19_6, hcz19_7⟩ := cells8 BK484.out; obtain ⟨hfz19_0, hfz19_1, hfz19_2, hfz19_3, hfz19_4, hfz19_5, hfz19_6, hfz19_7⟩ := frz8 BK484.out) | ((with_reducible refine gate_callee (f := 25) rfl ?_); refine goesL_ (some 42) rfl rfl Tryd.func25 (by kernel_rfl) rfl #[.slice A0 l0.length c0, .int .i64 a1, .int .i64 a2] rfl (by (try simp only [List.map_toArray, List.map_cons, List.map_nil]); rfl) ?_; (with_reducible refine (capnpref08_Object.calls kj4 _ _ l0 a1 a2 t485 t486 t487 t488 t489 t490 t491 t492 t493 _ ?side1 ?side2 A15.out).mono ?_); (case side1 => exact Kd.C_below HR0.out (by repeat ((with_reducible first | exact HB.out | refine below_set ?_ GE484.out)))); (case side2 => exact HC0.out); rintro e w20 ⟨rfl, hb⟩; refine ⟨_, rfl, ?_⟩; replace BK484 := Aside0.mk (blk_below (g := gb484) (o := .cells #[.int .i64 t475, .int .i64 t476, .int .i64 t477, .int .i64 t478, .int .i64 t479, .int .i64 t480, .int .i64 t481, .int .i64 t482] 46 (0, 0)) (by exact put8 BK484.out) hb); replace HB := Aside0.mk (below_step (by repeat ((with_reducible first | exact HB.out | refine below_set ?_ GE484.out))) hb); (try clear hb)) | ((with_reducible refine gate_dst (N := 11) rfl ?_); refine box_event ?hg (N := 11) ?hd (cs := #[.int .i64 0, .int .i64 0, .int .i64 0, .int .i64 0, .int .i64 0, .int .i64 0, .int .i64 0, .int .i64 0]) (t := 46) ?hr ?_; (case hd => rfl); (case hg => rfl); (case hr => (go_simp; done)); intro gb494 hg w21 hbox hb; replace BK494 := Aside0.mk (hbox); replace GW494 := Aside0.mk (ge_of HB.out hg); replace GE494 := Aside0.mk (ge_of HB.out hg); replace HB := Aside0.mk (below_step HB.out hb); replace NB484_494 := Aside0.mk (ne_l BK484.out hg); replace NB494_484 := Aside0.mk (ne_r BK484.out hg); replace BK484 := Aside0.mk (blk_below BK484.out hb); clear hb hbox hg; have hnb22 := NB494_484.out; have hnc22 := NB484_494.out; obtain ⟨hcz23_0, hcz23_1, hcz23_2, hcz23_3, hcz23_4, hcz23_5, hcz23_6, hcz23_7⟩ := cells8 BK494.out; obtain ⟨hfz23_0, hfz23_1, hfz23_2, hfz23_3, hfz23_4, hfz23_5, hfz23_6, hfz23_7⟩ := frz8 BK494.out))
        (skip)
        go_cut [52] (fun v52 wc => ∃ (kq : Nat) (x52_15 : Bool), v52 = .bool x52_15 ∧ Aside0 (capnplaw08_ResolveMatchesReference.j1 kq a3 x52_15 t485 t486 t487 t488 t489 t490 t491 t492 = some r) ∧ Aside0 (kq ≤ kj4) ∧ Aside0 (wc.heap[gb484]? = some (.cells #[.int .i64 t475, .int .i64 t476, .int .i64 t477, .int .i64 t478, .int .i64 t479, .int .i64 t480, .int .i64 t481, .int .i64 t482] 46 (0, 0))) ∧ Aside0 (wc.heap[gb494]? = some (.cells #[.int .i64 t485, .int .i64 t486, .int .i64 t487, .int .i64 t488, .int .i64 t489, .int .i64 t490, .int .i64 t491, .int .i64 t492] 46 (0, 0))) ∧ Aside0 (Below w.heap.size w wc))
        case first =>
          have H := HC16.out
          clear HC16
          by_cases c24 : (!(t475 == t485) || (!(t476 == t486) || (!(t477 == t487) || (!(t478 == t488) || (!(t479 == t489) || (!(t480 == t490) || (!(t481 == t491) || (!(t482 == t492))))))))) = true
          · rw [if_pos c24] at H
            have c24b0 : (!(t475 == t485) || (!(t476 == t486) || (!(t477 == t487) || (!(t478 == t488) || (!(t479 == t489) || (!(t480 == t490) || (!(t481 == t491) || (!(t482 == t492))))))))) = true := c24
            clear c24
            (skip)
            have H' := Aside0.mk H
            clear H
            have hnb25 := NB484_494.out
            have hnc25 := NB494_484.out
            obtain ⟨hcz26_0, hcz26_1, hcz26_2, hcz26_3, hcz26_4, hcz26_5, hcz26_6, hcz26_7⟩ := cells8 BK484.out
            obtain ⟨hfz26_0, hfz26_1, hfz26_2, hfz26_3, hfz26_4, hfz26_5, hfz26_6, hfz26_7⟩ := frz8 BK484.out
            obtain ⟨hcz27_0, hcz27_1, hcz27_2, hcz27_3, hcz27_4, hcz27_5, hcz27_6, hcz27_7⟩ := cells8 BK494.out
            obtain ⟨hfz27_0, hfz27_1, hfz27_2, hfz27_3, hfz27_4, hfz27_5, hfz27_6, hfz27_7⟩ := frz8 BK494.out
            go_wp2
            go_meet
            case rel => exact ⟨_, (true), (by rfl), H', ⟨by have := HJ4.out; omega⟩, ⟨by (iterate 8 refine blk_far ?_ NB484_494.out _); exact BK484.out⟩, ⟨by exact put8 BK494.out⟩, ⟨by repeat ((with_reducible first | exact HB.out | refine below_set ?_ GE494.out))⟩⟩
          · rw [if_neg c24] at H
            have c24b0 : (!(t475 == t485) || (!(t476 == t486) || (!(t477 == t487) || (!(t478 == t488) || (!(t479 == t489) || (!(t480 == t490) || (!(t481 == t491) || (!(t482 == t492))))))))) = false := by simpa using c24
            clear c24
            (skip)
            have H' := Aside0.mk H
            clear H
            have hnb28 := NB484_494.out
            have hnc28 := NB494_484.out
            obtain ⟨hcz29_0, hcz29_1, hcz29_2, hcz29_3, hcz29_4, hcz29_5, hcz29_6, hcz29_7⟩ := cells8 BK484.out
            obtain ⟨hfz29_0, hfz29_1, hfz29_2, hfz29_3, hfz29_4, hfz29_5, hfz29_6, hfz29_7⟩ := frz8 BK484.out
            obtain ⟨hcz30_0, hcz30_1, hcz30_2, hcz30_3, hcz30_4, hcz30_5, hcz30_6, hcz30_7⟩ := cells8 BK494.out
            obtain ⟨hfz30_0, hfz30_1, hfz30_2, hfz30_3, hfz30_4, hfz30_5, hfz30_6, hfz30_7⟩ := frz8 BK494.out
            go_wp2
            go_meet
            case rel => exact ⟨_, ((t483 != t493)), (by rfl), H', ⟨by have := HJ4.out; omega⟩, ⟨by (iterate 8 refine blk_far ?_ NB484_494.out _); exact BK484.out⟩, ⟨by exact put8 BK494.out⟩, ⟨by repeat ((with_reducible first | exact HB.out | refine below_set ?_ GE494.out))⟩⟩
        case rest =>
          clear HC16
          skip
          skip
          skip
          skip
          skip
          skip
          skip
          skip
          skip
          skip
          skip
          try clear hcz19_0
          try clear hcz19_1
          try clear hcz19_2
          try clear hcz19_3
          try clear hcz19_4
          try clear hcz19_5
          try clear hcz19_6
          try clear hcz19_7
          try clear hcz23_0
          try clear hcz23_1
          try clear hcz23_2
          try clear hcz23_3
          try clear hcz23_4
          try clear hcz23_5
          try clear hcz23_6
          try clear hcz23_7
          skip
          skip
          skip
          skip
          skip
          skip
          skip
          skip
          skip
          skip
          skip
          skip
          skip
          skip
          skip
          skip
          skip
          skip
          skip
          skip
          skip
          skip
          skip
          skip
          skip
          skip
          skip
          skip
          skip
          skip
          skip
          skip
          try clear hfz19_0
          try clear hfz19_1
          try clear hfz19_2
          try clear hfz19_3
          try clear hfz19_4
          try clear hfz19_5
          try clear hfz19_6
          try clear hfz19_7
          try clear hfz23_0
          try clear hfz23_1
          try clear hfz23_2
          try clear hfz23_3
          try clear hfz23_4
          try clear hfz23_5
          try clear hfz23_6
          try clear hfz23_7
          skip
          skip
          skip
          skip
          skip
          skip
          skip
          skip
          skip
          skip
          skip
          skip
          skip
          skip
          skip
          skip
          skip
          skip
          skip
          skip
          skip
          skip
          skip
          skip
          skip
          skip
          skip
          skip
          skip
          skip
          skip
          skip
          skip
          obtain ⟨kq, x52_15, rfl, HA, HJ15, BK484, BK494, HB⟩ := hcut
          cases kq with
          | zero => exact absurd HA.out (by simp [capnplaw08_ResolveMatchesReference.j1])
          | succ kj15 =>
            have H := HA.out
            clear HA
            simp only [capnplaw08_ResolveMatchesReference.j1] at H
            by_cases c31 : x52_15 = true
            · subst c31
              have H1 : (some false) = some r := by rw [if_pos rfl] at H; exact H
              clear H
              have H := H1
              clear H1
              obtain rfl := Option.some.inj H
              go_wp2
              go_ret
              exact ⟨by rfl, by repeat ((with_reducible exact HB.out))⟩
            · replace c31 := Bool.eq_false_iff.mpr c31
              subst c31
              have H1 : ((resolve_Pointers.f kj15 t485 t486 t487 t488 t489 t490 t491 t492).bind fun bt495 => ((capnpref08_Pointers.f kj15 t485 t486 t487 t488 t489 t490 t491 t492).bind fun bt497 => (if bt495.1 = bt497.1 then (capnplaw08_ResolveMatchesReference.j2 kj15 a3 (bt495.2 != bt497.2) t485 t486 t487 t488 t489 t490 t491 t492) else (capnplaw08_ResolveMatchesReference.j2 kj15 a3 true t485 t486 t487 t488 t489 t490 t491 t492)))) = some r := by rw [if_neg (show ¬ (false = true) by decide)] at H; exact H
              clear H
              have H := H1
              clear H1
              replace H := Option.bind_eq_some_iff.mp H
              obtain ⟨⟨t495, t496⟩, A320, H⟩ := H
              dsimp only at H
              have A32 := Aside0.mk A320
              clear A320
              replace H := Option.bind_eq_some_iff.mp H
              obtain ⟨⟨t497, t498⟩, A330, H⟩ := H
              dsimp only at H
              have A33 := Aside0.mk A330
              clear A330
              have HC34 := Aside0.mk H
              clear H
              have hnb35 := NB494_484.out
              have hnc35 := NB484_494.out
              obtain ⟨hcz36_0, hcz36_1, hcz36_2, hcz36_3, hcz36_4, hcz36_5, hcz36_6, hcz36_7⟩ := cells8 BK494.out
              obtain ⟨hfz36_0, hfz36_1, hfz36_2, hfz36_3, hfz36_4, hfz36_5, hfz36_6, hfz36_7⟩ := frz8 BK494.out
              go_upto_region 9 with (first | ((with_reducible refine gate_callee (f := 26) rfl ?_); refine goesL_ (some 55) rfl rfl Tryd.func26 (by kernel_rfl) rfl #[.agg #[.int .i64 t485, .int .i64 t486, .int .i64 t487, .int .i64 t488, .int .i64 t489, .int .i64 t490, .int .i64 t491, .int .i64 t492]] rfl (by (try simp only [List.map_toArray, List.map_cons, List.map_nil]); rfl) ?_; (with_reducible refine (resolve_Pointers.calls kj15 t485 t486 t487 t488 t489 t490 t491 t492 t495 t496 _ A32.out).mono ?_); rintro e w37 ⟨rfl, hb⟩; refine ⟨_, rfl, ?_⟩; replace BK484 := Aside0.mk (blk_below BK484.out hb); replace BK494 := Aside0.mk (blk_below BK494.out hb); replace HB := Aside0.mk (below_step HB.out hb); (try clear hb); obtain ⟨hcz38_0, hcz38_1, hcz38_2, hcz38_3, hcz38_4, hcz38_5, hcz38_6, hcz38_7⟩ := cells8 BK494.out; obtain ⟨hfz38_0, hfz38_1, hfz38_2, hfz38_3, hfz38_4, hfz38_5, hfz38_6, hfz38_7⟩ := frz8 BK494.out) | ((with_reducible refine gate_callee (f := 27) rfl ?_); refine goesL_ (some 60) rfl rfl Tryd.func27 (by kernel_rfl) rfl #[.agg #[.int .i64 t485, .int .i64 t486, .int .i64 t487, .int .i64 t488, .int .i64 t489, .int .i64 t490, .int .i64 t491, .int .i64 t492]] rfl (by (try simp only [List.map_toArray, List.map_cons, List.map_nil]); rfl) ?_; (with_reducible refine (capnpref08_Pointers.calls kj15 t485 t486 t487 t488 t489 t490 t491 t492 t497 t498 _ A33.out).mono ?_); rintro e w39 ⟨rfl, hb⟩; refine ⟨_, rfl, ?_⟩; replace BK484 := Aside0.mk (blk_below BK484.out hb); replace BK494 := Aside0.mk (blk_below BK494.out hb); replace HB := Aside0.mk (below_step HB.out hb); (try clear hb)))
              (skip)
              go_cut [70] (fun v70 wc => ∃ (kq : Nat) (x70_33 : Bool), v70 = .bool x70_33 ∧ Aside0 (capnplaw08_ResolveMatchesReference.j2 kq a3 x70_33 t485 t486 t487 t488 t489 t490 t491 t492 = some r) ∧ Aside0 (kq ≤ kj15) ∧ Aside0 (wc.heap[gb484]? = some (.cells #[.int .i64 t475, .int .i64 t476, .int .i64 t477, .int .i64 t478, .int .i64 t479, .int .i64 t480, .int .i64 t481, .int .i64 t482] 46 (0, 0))) ∧ Aside0 (wc.heap[gb494]? = some (.cells #[.int .i64 t485, .int .i64 t486, .int .i64 t487, .int .i64 t488, .int .i64 t489, .int .i64 t490, .int .i64 t491, .int .i64 t492] 46 (0, 0))) ∧ Aside0 (Below w.heap.size w wc))
              case first =>
                have H := HC34.out
                clear HC34
                by_cases c40 : t495 = t497
                · rw [if_pos c40] at H
                  have c40b0 : (t495 == t497) = true := beq_iff_eq.mpr c40
                  have c40b1 : (t495 != t497) = false := bne_eq_false_iff_eq.mpr c40
                  clear c40
                  (skip)
                  have H' := Aside0.mk H
                  clear H
                  go_wp2
                  go_meet
                  case rel => exact ⟨_, ((t496 != t498)), (by rfl), H', ⟨by have := HJ4.out; have := HJ15.out; omega⟩, ⟨by exact BK484.out⟩, ⟨by exact BK494.out⟩, ⟨by repeat ((with_reducible exact HB.out))⟩⟩
                · rw [if_neg c40] at H
                  have c40b0 : (t495 == t497) = false := beq_eq_false_iff_ne.mpr c40
                  have c40b1 : (t495 != t497) = true := bne_iff_ne.mpr c40
                  (skip)
                  have H' := Aside0.mk H
                  clear H
                  go_wp2
                  go_meet
                  case rel => exact ⟨_, (true), (by rfl), H', ⟨by have := HJ4.out; have := HJ15.out; omega⟩, ⟨by exact BK484.out⟩, ⟨by exact BK494.out⟩, ⟨by repeat ((with_reducible exact HB.out))⟩⟩
              case rest =>
                clear HC34
                skip
                skip
                skip
                skip
                skip
                skip
                skip
                skip
                skip
                skip
                skip
                skip
                skip
                skip
                skip
                skip
                skip
                skip
                skip
                skip
                skip
                skip
                skip
                skip
                skip
                skip
                skip
                skip
                skip
                skip
                skip
                skip
                skip
                skip
                skip
                skip
                skip
                skip
                skip
                skip
                skip
                skip
                skip
                skip
                skip
                skip
                skip
                skip
                skip
                skip
                skip
                skip
                skip
                skip
                skip
                skip
                skip
                skip
                skip
                skip
                skip
                skip
                skip
                skip
                skip
                skip
                skip
                skip
                try clear hcz36_0
                try clear hcz36_1
                try clear hcz36_2
                try clear hcz36_3
                try clear hcz36_4
                try clear hcz36_5
                try clear hcz36_6
                try clear hcz36_7
                try clear hcz38_0
                try clear hcz38_1
                try clear hcz38_2
                try clear hcz38_3
                try clear hcz38_4
                try clear hcz38_5
                try clear hcz38_6
                try clear hcz38_7
                skip
                skip
                skip
                skip
                skip
                skip
                skip
                skip
                skip
                skip
                skip
                skip
                skip
                skip
                skip
                skip
                skip
                skip
                skip
                skip
                skip
                skip
                skip
                skip
                skip
                skip
                skip
                skip
                skip
                skip
                skip
                skip
                skip
                skip
                skip
                skip
                skip
                skip
                skip
                skip
                skip
                skip
                skip
                skip
                skip
                skip
                skip
                skip
                try clear hfz36_0
                try clear hfz36_1
                try clear hfz36_2
                try clear hfz36_3
                try clear hfz36_4
                try clear hfz36_5
                try clear hfz36_6
                try clear hfz36_7
                try clear hfz38_0
                try clear hfz38_1
                try clear hfz38_2
                try clear hfz38_3
                try clear hfz38_4
                try clear hfz38_5
                try clear hfz38_6
                try clear hfz38_7
                skip
                obtain ⟨kq, x70_33, rfl, HA, HJ33, BK484, BK494, HB⟩ := hcut
                cases kq with
                | zero => exact absurd HA.out (by simp [capnplaw08_ResolveMatchesReference.j2])
                | succ kj33 =>
                  have H := HA.out
                  clear HA
                  simp only [capnplaw08_ResolveMatchesReference.j2] at H
                  by_cases c41 : x70_33 = true
                  · subst c41
                    have H1 : (some false) = some r := by rw [if_pos rfl] at H; exact H
                    clear H
                    have H := H1
                    clear H1
                    obtain rfl := Option.some.inj H
                    go_wp2
                    go_ret
                    exact ⟨by rfl, by repeat ((with_reducible exact HB.out))⟩
                  · replace c41 := Bool.eq_false_iff.mpr c41
                    subst c41
                    have H1 : (if t485 = 2 then (if t490 = 7 then (capnplaw08_ResolveMatchesReference.j3 kj33 a3 (t491 == 0) t485 t486 t487 t488 t489 t490 t491 t492) else (capnplaw08_ResolveMatchesReference.j3 kj33 a3 true t485 t486 t487 t488 t489 t490 t491 t492)) else (capnplaw08_ResolveMatchesReference.j3 kj33 a3 true t485 t486 t487 t488 t489 t490 t491 t492)) = some r := by rw [if_neg (show ¬ (false = true) by decide)] at H; exact H
                    clear H
                    have H := H1
                    clear H1
                    have HC42 := Aside0.mk H
                    clear H
                    go_upto_region 11 with (fail)
                    go_cut [83] (fun v83 wc => ∃ (kq : Nat) (x83_41 : Bool), v83 = .bool x83_41 ∧ Aside0 (capnplaw08_ResolveMatchesReference.j3 kq a3 x83_41 t485 t486 t487 t488 t489 t490 t491 t492 = some r) ∧ Aside0 (kq ≤ kj33) ∧ Aside0 (wc.heap[gb484]? = some (.cells #[.int .i64 t475, .int .i64 t476, .int .i64 t477, .int .i64 t478, .int .i64 t479, .int .i64 t480, .int .i64 t481, .int .i64 t482] 46 (0, 0))) ∧ Aside0 (wc.heap[gb494]? = some (.cells #[.int .i64 t485, .int .i64 t486, .int .i64 t487, .int .i64 t488, .int .i64 t489, .int .i64 t490, .int .i64 t491, .int .i64 t492] 46 (0, 0))) ∧ Aside0 (Below w.heap.size w wc))
                    case first =>
                      have H := HC42.out
                      clear HC42
                      by_cases c43 : t485 = 2
                      · rw [if_pos c43] at H
                        have c43b0 : (t485 == 2) = true := beq_iff_eq.mpr c43
                        have c43b1 : (t485 != 2) = false := bne_eq_false_iff_eq.mpr c43
                        clear c43
                        (skip)
                        by_cases c44 : t490 = 7
                        · rw [if_pos c44] at H
                          have c44b0 : (t490 == 7) = true := beq_iff_eq.mpr c44
                          have c44b1 : (t490 != 7) = false := bne_eq_false_iff_eq.mpr c44
                          clear c44
                          have H' := Aside0.mk H
                          clear H
                          have hnb45 := NB494_484.out
                          have hnc45 := NB484_494.out
                          obtain ⟨hcz46_0, hcz46_1, hcz46_2, hcz46_3, hcz46_4, hcz46_5, hcz46_6, hcz46_7⟩ := cells8 BK494.out
                          obtain ⟨hfz46_0, hfz46_1, hfz46_2, hfz46_3, hfz46_4, hfz46_5, hfz46_6, hfz46_7⟩ := frz8 BK494.out
                          go_wp2
                          go_meet
                          case rel => exact ⟨_, ((t491 == 0)), (by rfl), H', ⟨by have := HJ4.out; have := HJ15.out; have := HJ33.out; omega⟩, ⟨by exact BK484.out⟩, ⟨by exact BK494.out⟩, ⟨by repeat ((with_reducible exact HB.out))⟩⟩
                        · rw [if_neg c44] at H
                          have c44b0 : (t490 == 7) = false := beq_eq_false_iff_ne.mpr c44
                          have c44b1 : (t490 != 7) = true := bne_iff_ne.mpr c44
                          have H' := Aside0.mk H
                          clear H
                          have hnb47 := NB494_484.out
                          have hnc47 := NB484_494.out
                          obtain ⟨hcz48_0, hcz48_1, hcz48_2, hcz48_3, hcz48_4, hcz48_5, hcz48_6, hcz48_7⟩ := cells8 BK494.out
                          obtain ⟨hfz48_0, hfz48_1, hfz48_2, hfz48_3, hfz48_4, hfz48_5, hfz48_6, hfz48_7⟩ := frz8 BK494.out
                          go_wp2
                          go_meet
                          case rel => exact ⟨_, (true), (by rfl), H', ⟨by have := HJ4.out; have := HJ15.out; have := HJ33.out; omega⟩, ⟨by exact BK484.out⟩, ⟨by exact BK494.out⟩, ⟨by repeat ((with_reducible exact HB.out))⟩⟩
                      · rw [if_neg c43] at H
                        have c43b0 : (t485 == 2) = false := beq_eq_false_iff_ne.mpr c43
                        have c43b1 : (t485 != 2) = true := bne_iff_ne.mpr c43
                        (skip)
                        have H' := Aside0.mk H
                        clear H
                        have hnb49 := NB494_484.out
                        have hnc49 := NB484_494.out
                        obtain ⟨hcz50_0, hcz50_1, hcz50_2, hcz50_3, hcz50_4, hcz50_5, hcz50_6, hcz50_7⟩ := cells8 BK494.out
                        obtain ⟨hfz50_0, hfz50_1, hfz50_2, hfz50_3, hfz50_4, hfz50_5, hfz50_6, hfz50_7⟩ := frz8 BK494.out
                        go_wp2
                        go_meet
                        case rel => exact ⟨_, (true), (by rfl), H', ⟨by have := HJ4.out; have := HJ15.out; have := HJ33.out; omega⟩, ⟨by exact BK484.out⟩, ⟨by exact BK494.out⟩, ⟨by repeat ((with_reducible exact HB.out))⟩⟩
                    case rest =>
                      clear HC42
                      skip
                      skip
                      skip
                      skip
                      skip
                      skip
                      skip
                      skip
                      skip
                      skip
                      skip
                      skip
                      skip
                      skip
                      skip
                      skip
                      skip
                      skip
                      skip
                      skip
                      skip
                      skip
                      skip
                      skip
                      skip
                      skip
                      skip
                      skip
                      skip
                      skip
                      skip
                      skip
                      skip
                      skip
                      skip
                      skip
                      skip
                      skip
                      skip
                      skip
                      skip
                      skip
                      skip
                      skip
                      skip
                      skip
                      skip
                      skip
                      skip
                      skip
                      skip
                      skip
                      skip
                      skip
                      skip
                      skip
                      skip
                      skip
                      skip
                      skip
                      skip
                      skip
                      skip
                      skip
                      skip
                      skip
                      skip
                      skip
                      skip
                      skip
                      skip
                      skip
                      skip
                      skip
                      skip
                      skip
                      skip
                      skip
                      skip
                      skip
                      skip
                      skip
                      skip
                      skip
                      skip
                      skip
                      skip
                      skip
                      skip
                      skip
                      skip
                      skip
                      skip
                      skip
                      skip
                      skip
                      skip
                      skip
                      skip
                      skip
                      skip
                      skip
                      skip
                      skip
                      skip
                      skip
                      skip
                      skip
                      skip
                      skip
                      skip
                      skip
                      skip
                      skip
                      skip
                      skip
                      skip
                      skip
                      skip
                      skip
                      skip
                      skip
                      skip
                      skip
                      skip
                      skip
                      skip
                      skip
                      skip
                      skip
                      skip
                      skip
                      skip
                      skip
                      skip
                      skip
                      skip
                      skip
                      skip
                      skip
                      skip
                      skip
                      skip
                      skip
                      skip
                      skip
                      skip
                      skip
                      skip
                      skip
                      skip
                      skip
                      skip
                      skip
                      skip
                      skip
                      skip
                      skip
                      skip
                      skip
                      skip
                      skip
                      skip
                      skip
                      skip
                      skip
                      skip
                      skip
                      skip
                      skip
                      skip
                      skip
                      skip
                      skip
                      skip
                      skip
                      skip
                      skip
                      skip
                      skip
                      skip
                      skip
                      skip
                      skip
                      skip
                      skip
                      skip
                      skip
                      skip
                      skip
                      skip
                      skip
                      skip
                      skip
                      skip
                      skip
                      skip
                      skip
                      skip
                      skip
                      skip
                      skip
                      skip
                      skip
                      skip
                      skip
                      skip
                      obtain ⟨kq, x83_41, rfl, HA, HJ41, BK484, BK494, HB⟩ := hcut
                      cases kq with
                      | zero => exact absurd HA.out (by simp [capnplaw08_ResolveMatchesReference.j3])
                      | succ kj41 =>
                        have H := HA.out
                        clear HA
                        simp only [capnplaw08_ResolveMatchesReference.j3] at H
                        by_cases c51 : x83_41 = true
                        · subst c51
                          have H1 : (some true) = some r := by rw [if_pos rfl] at H; exact H
                          clear H
                          have H := H1
                          clear H1
                          obtain rfl := Option.some.inj H
                          go_wp2
                          go_ret
                          exact ⟨by rfl, by repeat ((with_reducible exact HB.out))⟩
                        · replace c51 := Bool.eq_false_iff.mpr c51
                          subst c51
                          have H1 : (if t491 = 0 then (none) else ((resolve_Element.f t485 t486 t487 t488 t489 t490 t491 t492 (Int.tmod (wrap64 (a3)) t491)).bind fun bt499 => ((resolve_Pointers.f kj41 bt499.1 bt499.2.1 bt499.2.2.1 bt499.2.2.2.1 bt499.2.2.2.2.1 bt499.2.2.2.2.2.1 bt499.2.2.2.2.2.2.1 bt499.2.2.2.2.2.2.2).bind fun bt508 => ((capnpref08_Element.f t485 t486 t487 t488 t489 t490 t491 t492 (Int.tmod (wrap64 (a3)) t491)).bind fun bt510 => ((capnpref08_Pointers.f kj41 bt510.1 bt510.2.1 bt510.2.2.1 bt510.2.2.2.1 bt510.2.2.2.2.1 bt510.2.2.2.2.2.1 bt510.2.2.2.2.2.2.1 bt510.2.2.2.2.2.2.2).bind fun bt518 => ((capnpref08_Element.f t485 t486 t487 t488 t489 t490 t491 t492 (Int.tmod (wrap64 (a3)) t491)).bind fun bt520 => (if (bt499.1 == bt520.1 && (bt499.2.1 == bt520.2.1 && (bt499.2.2.1 == bt520.2.2.1 && (bt499.2.2.2.1 == bt520.2.2.2.1 && (bt499.2.2.2.2.1 == bt520.2.2.2.2.1 && (bt499.2.2.2.2.2.1 == bt520.2.2.2.2.2.1 && (bt499.2.2.2.2.2.2.1 == bt520.2.2.2.2.2.2.1 && (bt499.2.2.2.2.2.2.2 == bt520.2.2.2.2.2.2.2)))))))) = true then (if bt508.1 = bt518.1 then (some (bt508.2 == bt518.2)) else (some false)) else (some false)))))))) = some r := by rw [if_neg (show ¬ (false = true) by decide)] at H; exact H
                          clear H
                          have H := H1
                          clear H1
                          by_cases c52 : t491 = 0
                          · rw [if_pos c52] at H
                            exact absurd H (by simp)
                          · rw [if_neg c52] at H
                            have c52b0 : (t491 == 0) = false := beq_eq_false_iff_ne.mpr c52
                            have c52b1 : (t491 != 0) = true := bne_iff_ne.mpr c52
                            replace H := Option.bind_eq_some_iff.mp H
                            obtain ⟨⟨t499, t500, t501, t502, t503, t504, t505, t506⟩, A530, H⟩ := H
                            dsimp only at H
                            have A53 := Aside0.mk A530
                            clear A530
                            replace H := Option.bind_eq_some_iff.mp H
                            obtain ⟨⟨t508, t509⟩, A540, H⟩ := H
                            dsimp only at H
                            have A54 := Aside0.mk A540
                            clear A540
                            replace H := Option.bind_eq_some_iff.mp H
                            obtain ⟨⟨t510, t511, t512, t513, t514, t515, t516, t517⟩, A550, H⟩ := H
                            dsimp only at H
                            have A55 := Aside0.mk A550
                            clear A550
                            replace H := Option.bind_eq_some_iff.mp H
                            obtain ⟨⟨t518, t519⟩, A560, H⟩ := H
                            dsimp only at H
                            have A56 := Aside0.mk A560
                            clear A560
                            replace H := Option.bind_eq_some_iff.mp H
                            obtain ⟨⟨t520, t521, t522, t523, t524, t525, t526, t527⟩, A570, H⟩ := H
                            dsimp only at H
                            have A57 := Aside0.mk A570
                            clear A570
                            by_cases c58 : (t499 == t520 && (t500 == t521 && (t501 == t522 && (t502 == t523 && (t503 == t524 && (t504 == t525 && (t505 == t526 && (t506 == t527)))))))) = true
                            · rw [if_pos c58] at H
                              have c58b0 : (t499 == t520 && (t500 == t521 && (t501 == t522 && (t502 == t523 && (t503 == t524 && (t504 == t525 && (t505 == t526 && (t506 == t527)))))))) = true := c58
                              (try (have c58b1 : decide (t499 = t520 && (t500 == t521 && (t501 == t522 && (t502 == t523 && (t503 == t524 && (t504 == t525 && (t505 == t526 && (t506 == t527)))))))) = true := by simpa using c58))
                              (try (have c58b2 : (t499 == t520 && (t500 == t521 && (t501 == t522 && (t502 == t523 && (t503 == t524 && (t504 == t525 && (t505 == t526 && (t506 == t527)))))))) = true := by simpa using c58))
                              clear c58
                              by_cases c59 : t508 = t518
                              · rw [if_pos c59] at H
                                have c59b0 : (t508 == t518) = true := beq_iff_eq.mpr c59
                                have c59b1 : (t508 != t518) = false := bne_eq_false_iff_eq.mpr c59
                                clear c59
                                obtain rfl := Option.some.inj H
                                have hnb60 := NB494_484.out
                                have hnc60 := NB484_494.out
                                obtain ⟨hcz61_0, hcz61_1, hcz61_2, hcz61_3, hcz61_4, hcz61_5, hcz61_6, hcz61_7⟩ := cells8 BK494.out
                                obtain ⟨hfz61_0, hfz61_1, hfz61_2, hfz61_3, hfz61_4, hfz61_5, hfz61_6, hfz61_7⟩ := frz8 BK494.out
                                try go_wp2_with (first | ((with_reducible refine gate_callee (f := 28) rfl ?_); refine goesL_ (some 91) rfl rfl Tryd.func28 (by kernel_rfl) rfl #[.agg #[.int .i64 t485, .int .i64 t486, .int .i64 t487, .int .i64 t488, .int .i64 t489, .int .i64 t490, .int .i64 t491, .int .i64 t492], .int .i64 (Int.tmod (wrap64 (a3)) t491)] rfl (by (try simp only [List.map_toArray, List.map_cons, List.map_nil]); rfl) ?_; (with_reducible refine (resolve_Element.calls t485 t486 t487 t488 t489 t490 t491 t492 (Int.tmod (wrap64 (a3)) t491) t499 t500 t501 t502 t503 t504 t505 t506 _ A53.out).mono ?_); rintro e w62 ⟨rfl, hb⟩; refine ⟨_, rfl, ?_⟩; replace BK484 := Aside0.mk (blk_below BK484.out hb); replace BK494 := Aside0.mk (blk_below BK494.out hb); replace HB := Aside0.mk (below_step HB.out hb); (try clear hb)) | ((with_reducible refine gate_dst (N := 18) rfl ?_); refine box_event ?hg (N := 18) ?hd (cs := #[.int .i64 0, .int .i64 0, .int .i64 0, .int .i64 0, .int .i64 0, .int .i64 0, .int .i64 0, .int .i64 0]) (t := 46) ?hr ?_; (case hd => rfl); (case hg => rfl); (case hr => (go_simp; done)); intro gb507 hg w63 hbox hb; replace BK507 := Aside0.mk (hbox); replace GW507 := Aside0.mk (ge_of HB.out hg); replace GE507 := Aside0.mk (ge_of HB.out hg); replace HB := Aside0.mk (below_step HB.out hb); replace NB484_507 := Aside0.mk (ne_l BK484.out hg); replace NB507_484 := Aside0.mk (ne_r BK484.out hg); replace BK484 := Aside0.mk (blk_below BK484.out hb); replace NB494_507 := Aside0.mk (ne_l BK494.out hg); replace NB507_494 := Aside0.mk (ne_r BK494.out hg); replace BK494 := Aside0.mk (blk_below BK494.out hb); clear hb hbox hg; have hnb64 := NB507_484.out; have hnc64 := NB484_507.out; have hnb65 := NB507_494.out; have hnc65 := NB494_507.out; obtain ⟨hcz66_0, hcz66_1, hcz66_2, hcz66_3, hcz66_4, hcz66_5, hcz66_6, hcz66_7⟩ := cells8 BK507.out; obtain ⟨hfz66_0, hfz66_1, hfz66_2, hfz66_3, hfz66_4, hfz66_5, hfz66_6, hfz66_7⟩ := frz8 BK507.out) | ((with_reducible refine gate_callee (f := 26) rfl ?_); refine goesL_ (some 94) rfl rfl Tryd.func26 (by kernel_rfl) rfl #[.agg #[.int .i64 t499, .int .i64 t500, .int .i64 t501, .int .i64 t502, .int .i64 t503, .int .i64 t504, .int .i64 t505, .int .i64 t506]] rfl (by (try simp only [List.map_toArray, List.map_cons, List.map_nil]); rfl) ?_; (with_reducible refine (resolve_Pointers.calls kj41 t499 t500 t501 t502 t503 t504 t505 t506 t508 t509 _ A54.out).mono ?_); rintro e w67 ⟨rfl, hb⟩; refine ⟨_, rfl, ?_⟩; replace BK484 := Aside0.mk (blk_below (g := gb484) (o := .cells #[.int .i64 t475, .int .i64 t476, .int .i64 t477, .int .i64 t478, .int .i64 t479, .int .i64 t480, .int .i64 t481, .int .i64 t482] 46 (0, 0)) (by (iterate 8 refine blk_far ?_ NB484_507.out _); exact BK484.out) hb); replace BK494 := Aside0.mk (blk_below (g := gb494) (o := .cells #[.int .i64 t485, .int .i64 t486, .int .i64 t487, .int .i64 t488, .int .i64 t489, .int .i64 t490, .int .i64 t491, .int .i64 t492] 46 (0, 0)) (by (iterate 8 refine blk_far ?_ NB494_507.out _); exact BK494.out) hb); replace BK507 := Aside0.mk (blk_below (g := gb507) (o := .cells #[.int .i64 t499, .int .i64 t500, .int .i64 t501, .int .i64 t502, .int .i64 t503, .int .i64 t504, .int .i64 t505, .int .i64 t506] 46 (0, 0)) (by exact put8 BK507.out) hb); replace HB := Aside0.mk (below_step (by repeat ((with_reducible first | exact HB.out | refine below_set ?_ GE507.out))) hb); (try clear hb); obtain ⟨hcz68_0, hcz68_1, hcz68_2, hcz68_3, hcz68_4, hcz68_5, hcz68_6, hcz68_7⟩ := cells8 BK494.out; obtain ⟨hfz68_0, hfz68_1, hfz68_2, hfz68_3, hfz68_4, hfz68_5, hfz68_6, hfz68_7⟩ := frz8 BK494.out) | ((with_reducible refine gate_callee (f := 29) rfl ?_); refine goesL_ (some 100) rfl rfl Tryd.func29 (by kernel_rfl) rfl #[.agg #[.int .i64 t485, .int .i64 t486, .int .i64 t487, .int .i64 t488, .int .i64 t489, .int .i64 t490, .int .i64 t491, .int .i64 t492], .int .i64 (Int.tmod (wrap64 (a3)) t491)] rfl (by (try simp only [List.map_toArray, List.map_cons, List.map_nil]); rfl) ?_; (with_reducible refine (capnpref08_Element.calls t485 t486 t487 t488 t489 t490 t491 t492 (Int.tmod (wrap64 (a3)) t491) t510 t511 t512 t513 t514 t515 t516 t517 _ A55.out).mono ?_); rintro e w69 ⟨rfl, hb⟩; refine ⟨_, rfl, ?_⟩; replace BK484 := Aside0.mk (blk_below BK484.out hb); replace BK494 := Aside0.mk (blk_below BK494.out hb); replace BK507 := Aside0.mk (blk_below BK507.out hb); replace HB := Aside0.mk (below_step HB.out hb); (try clear hb)) | ((with_reducible refine gate_callee (f := 27) rfl ?_); refine goesL_ (some 101) rfl rfl Tryd.func27 (by kernel_rfl) rfl #[.agg #[.int .i64 t510, .int .i64 t511, .int .i64 t512, .int .i64 t513, .int .i64 t514, .int .i64 t515, .int .i64 t516, .int .i64 t517]] rfl (by (try simp only [List.map_toArray, List.map_cons, List.map_nil]); rfl) ?_; (with_reducible refine (capnpref08_Pointers.calls kj41 t510 t511 t512 t513 t514 t515 t516 t517 t518 t519 _ A56.out).mono ?_); rintro e w70 ⟨rfl, hb⟩; refine ⟨_, rfl, ?_⟩; replace BK484 := Aside0.mk (blk_below BK484.out hb); replace BK494 := Aside0.mk (blk_below BK494.out hb); replace BK507 := Aside0.mk (blk_below BK507.out hb); replace HB := Aside0.mk (below_step HB.out hb); (try clear hb)))
                                have n0_ := Aside0.mk (blk_drew BK484.out)
                                have n1_ := Aside0.mk (blk_drew BK494.out)
                                have n2_ := Aside0.mk (blk_drew BK507.out)
                                have n3_ := Aside0.mk (below_drew1 HB.out)
                                clear BK484
                                clear BK494
                                clear BK507
                                clear HB
                                have BK484 := n0_
                                have BK494 := n1_
                                have BK507 := n2_
                                have HB := n3_
                                clear n0_ n1_ n2_ n3_
                                refine start_ (n := 16) (S := fun w' => w'.cell? ⟨gb507, 0, none⟩ = some (.int .i64 t499) ∧ w'.cell? ⟨gb507, 1, none⟩ = some (.int .i64 t500) ∧ w'.cell? ⟨gb507, 2, none⟩ = some (.int .i64 t501) ∧ w'.cell? ⟨gb507, 3, none⟩ = some (.int .i64 t502) ∧ w'.cell? ⟨gb507, 4, none⟩ = some (.int .i64 t503) ∧ w'.cell? ⟨gb507, 5, none⟩ = some (.int .i64 t504) ∧ w'.cell? ⟨gb507, 6, none⟩ = some (.int .i64 t505) ∧ w'.cell? ⟨gb507, 7, none⟩ = some (.int .i64 t506) ∧ w'.cell? ⟨gb494, 0, none⟩ = some (.int .i64 t485) ∧ w'.cell? ⟨gb494, 1, none⟩ = some (.int .i64 t486) ∧ w'.cell? ⟨gb494, 2, none⟩ = some (.int .i64 t487) ∧ w'.cell? ⟨gb494, 3, none⟩ = some (.int .i64 t488) ∧ w'.cell? ⟨gb494, 4, none⟩ = some (.int .i64 t489) ∧ w'.cell? ⟨gb494, 5, none⟩ = some (.int .i64 t490) ∧ w'.cell? ⟨gb494, 6, none⟩ = some (.int .i64 t491) ∧ w'.cell? ⟨gb494, 7, none⟩ = some (.int .i64 t492)) (ds := []) #[false, false, false, false, false, false, false, false, false, false, false, false, false, false, false, false] (by kernel_rfl) rfl rfl ⟨(blk_cell BK507.out 0).trans rfl, (blk_cell BK507.out 1).trans rfl, (blk_cell BK507.out 2).trans rfl, (blk_cell BK507.out 3).trans rfl, (blk_cell BK507.out 4).trans rfl, (blk_cell BK507.out 5).trans rfl, (blk_cell BK507.out 6).trans rfl, (blk_cell BK507.out 7).trans rfl, (blk_cell BK494.out 0).trans rfl, (blk_cell BK494.out 1).trans rfl, (blk_cell BK494.out 2).trans rfl, (blk_cell BK494.out 3).trans rfl, (blk_cell BK494.out 4).trans rfl, (blk_cell BK494.out 5).trans rfl, (blk_cell BK494.out 6).trans rfl, (blk_cell BK494.out 7).trans rfl⟩ (fun hHeld => ?_); refine with_tabW capnplaw08_ResolveMatchesReference.tab17 capnplaw08_ResolveMatchesReference.bits17 (fun HT_ HW_ => ?_)
                                generalize w70.drew = w71 at BK484 BK494 BK507 HB hHeld ⊢
                                refine pure_ (i := 2) (N := some 106) (v := ?_) (a' := ?_) #[false, false, true, false, false, false, false, false, false, false, false, false, false, false, false, false] rfl rfl (any_of HT_.out (by kernel_rfl)) (fun _ _ _ h => h) (Or.inl ⟨by rfl, ?_⟩) ?_ ?_
                                rotate_left
                                · intro w'
                                  go_simp
                                  with_reducible rfl
                                rotate_left
                                · simp only [Act.put, List.setIfInBounds_toArray, List.set_cons_zero, List.set_cons_succ, i64_w, i32_w]
                                  rfl
                                refine take_ (i := 0) (N := some 104) (v := ?_) (a' := ?_) #[true, false, true, false, false, false, false, false, false, false, false, false, false, false, false, false] rfl rfl (take_ofW HT_.out HW_.out (by kernel_rfl)) (fun _ _ _ h => h) (Or.inl ⟨by rfl, ?_⟩) hHeld ?_ ?_
                                rotate_left
                                · rintro w' ⟨s0, s1, s2, s3, s4, s5, s6, s7, s8, s9, s10, s11, s12, s13, s14, s15⟩
                                  go_simp
                                  with_reducible rfl
                                rotate_left
                                · simp only [Act.put, List.setIfInBounds_toArray, List.set_cons_zero, List.set_cons_succ, i64_w, i32_w]
                                  rfl
                                refine take_ (i := 1) (N := some 105) (v := ?_) (a' := ?_) #[true, true, true, false, false, false, false, false, false, false, false, false, false, false, false, false] rfl rfl (take_ofW HT_.out HW_.out (by kernel_rfl)) (fun _ _ _ h => h) (Or.inl ⟨by rfl, ?_⟩) hHeld ?_ ?_
                                rotate_left
                                · rintro w' ⟨s0, s1, s2, s3, s4, s5, s6, s7, s8, s9, s10, s11, s12, s13, s14, s15⟩
                                  go_simp
                                  with_reducible rfl
                                rotate_left
                                · simp only [Act.put, List.setIfInBounds_toArray, List.set_cons_zero, List.set_cons_succ, i64_w, i32_w]
                                  rfl
                                refine one_ (i := 3) (N := some 107) #[true, true, true, true, false, false, false, false, false, false, false, false, false, false, false, false] rfl rfl (one_of HT_.out (by kernel_rfl)) (by decide) (fun K hK => ?_)
                                refine goes_ Tryd.func29 (by kernel_rfl) rfl #[.agg #[.int .i64 t485, .int .i64 t486, .int .i64 t487, .int .i64 t488, .int .i64 t489, .int .i64 t490, .int .i64 t491, .int .i64 t492], .int .i64 (Int.tmod (wrap64 (a3)) t491)] (by rfl) rfl rfl (by (try simp only [List.map_toArray, List.map_cons, List.map_nil]); rfl) ?_
                                with_reducible refine (capnpref08_Element.calls t485 t486 t487 t488 t489 t490 t491 t492 (Int.tmod (wrap64 (a3)) t491) t520 t521 t522 t523 t524 t525 t526 t527 _ A57.out).mono ?_
                                rintro e w72 ⟨rfl, hb⟩
                                refine ⟨_, rfl, ?_⟩
                                have n0_ := Aside0.mk (blk_below BK484.out hb)
                                have n1_ := Aside0.mk (blk_below BK494.out hb)
                                have n2_ := Aside0.mk (blk_below BK507.out hb)
                                have n3_ := Aside0.mk (below_step HB.out hb)
                                clear BK484
                                clear BK494
                                clear BK507
                                clear HB
                                have BK484 := n0_
                                have BK494 := n1_
                                have BK507 := n2_
                                have HB := n3_
                                clear n0_ n1_ n2_ n3_
                                (try clear hb)
                                (skip)
                                (skip)
                                (skip)
                                refine hK.out _ _ ⟨(blk_cell BK507.out 0).trans rfl, (blk_cell BK507.out 1).trans rfl, (blk_cell BK507.out 2).trans rfl, (blk_cell BK507.out 3).trans rfl, (blk_cell BK507.out 4).trans rfl, (blk_cell BK507.out 5).trans rfl, (blk_cell BK507.out 6).trans rfl, (blk_cell BK507.out 7).trans rfl, (blk_cell BK494.out 0).trans rfl, (blk_cell BK494.out 1).trans rfl, (blk_cell BK494.out 2).trans rfl, (blk_cell BK494.out 3).trans rfl, (blk_cell BK494.out 4).trans rfl, (blk_cell BK494.out 5).trans rfl, (blk_cell BK494.out 6).trans rfl, (blk_cell BK494.out 7).trans rfl⟩ (fun hHeld => ?_)
                                clear hK K
                                refine norm_ (a' := ?_) ?_ ?_
                                rotate_left
                                · show Act.put _ (some 107) _ = _
                                  simp only [Act.put, List.setIfInBounds_toArray, List.set_cons_zero, List.set_cons_succ, i64_w, i32_w]
                                  rfl
                                refine pure_ (i := 4) (N := some 108) (v := ?_) (a' := ?_) #[true, true, true, true, true, false, false, false, false, false, false, false, false, false, false, false] rfl rfl (any_of HT_.out (by kernel_rfl)) (fun _ _ _ h => h) (Or.inl ⟨by rfl, ?_⟩) ?_ ?_
                                rotate_left
                                · intro w'
                                  go_simp
                                  with_reducible rfl
                                rotate_left
                                · simp only [Act.put, List.setIfInBounds_toArray, List.set_cons_zero, List.set_cons_succ, i64_w, i32_w]
                                  rfl
                                refine pure_ (i := 5) (N := some 109) (v := ?_) (a' := ?_) #[true, true, true, true, true, true, false, false, false, false, false, false, false, false, false, false] rfl rfl (any_of HT_.out (by kernel_rfl)) (fun _ _ _ h => h) (Or.inl ⟨by rfl, ?_⟩) ?_ ?_
                                rotate_left
                                · intro w'
                                  go_simp
                                  with_reducible rfl
                                rotate_left
                                · simp only [Act.put, List.setIfInBounds_toArray, List.set_cons_zero, List.set_cons_succ, i64_w, i32_w]
                                  rfl
                                refine pure_ (i := 6) (N := some 110) (v := ?_) (a' := ?_) #[true, true, true, true, true, true, true, false, false, false, false, false, false, false, false, false] rfl rfl (any_of HT_.out (by kernel_rfl)) (fun _ _ _ h => h) (Or.inl ⟨by rfl, ?_⟩) ?_ ?_
                                rotate_left
                                · intro w'
                                  go_simp
                                  with_reducible rfl
                                rotate_left
                                · simp only [Act.put, List.setIfInBounds_toArray, List.set_cons_zero, List.set_cons_succ, i64_w, i32_w]
                                  rfl
                                refine pure_ (i := 7) (N := some 111) (v := ?_) (a' := ?_) #[true, true, true, true, true, true, true, true, false, false, false, false, false, false, false, false] rfl rfl (any_of HT_.out (by kernel_rfl)) (fun _ _ _ h => h) (Or.inl ⟨by rfl, ?_⟩) ?_ ?_
                                rotate_left
                                · intro w'
                                  go_simp
                                  with_reducible rfl
                                rotate_left
                                · simp only [Act.put, List.setIfInBounds_toArray, List.set_cons_zero, List.set_cons_succ, i64_w, i32_w]
                                  rfl
                                refine pure_ (i := 8) (N := some 112) (v := ?_) (a' := ?_) #[true, true, true, true, true, true, true, true, true, false, false, false, false, false, false, false] rfl rfl (any_of HT_.out (by kernel_rfl)) (fun _ _ _ h => h) (Or.inl ⟨by rfl, ?_⟩) ?_ ?_
                                rotate_left
                                · intro w'
                                  go_simp
                                  with_reducible rfl
                                rotate_left
                                · simp only [Act.put, List.setIfInBounds_toArray, List.set_cons_zero, List.set_cons_succ, i64_w, i32_w]
                                  rfl
                                refine pure_ (i := 9) (N := some 113) (v := ?_) (a' := ?_) #[true, true, true, true, true, true, true, true, true, true, false, false, false, false, false, false] rfl rfl (any_of HT_.out (by kernel_rfl)) (fun _ _ _ h => h) (Or.inl ⟨by rfl, ?_⟩) ?_ ?_
                                rotate_left
                                · intro w'
                                  go_simp
                                  with_reducible rfl
                                rotate_left
                                · simp only [Act.put, List.setIfInBounds_toArray, List.set_cons_zero, List.set_cons_succ, i64_w, i32_w]
                                  rfl
                                refine pure_ (i := 10) (N := some 114) (v := ?_) (a' := ?_) #[true, true, true, true, true, true, true, true, true, true, true, false, false, false, false, false] rfl rfl (any_of HT_.out (by kernel_rfl)) (fun _ _ _ h => h) (Or.inl ⟨by rfl, ?_⟩) ?_ ?_
                                rotate_left
                                · intro w'
                                  go_simp
                                  with_reducible rfl
                                rotate_left
                                · simp only [Act.put, List.setIfInBounds_toArray, List.set_cons_zero, List.set_cons_succ, i64_w, i32_w]
                                  rfl
                                refine pure_ (i := 11) (N := some 115) (v := ?_) (a' := ?_) #[true, true, true, true, true, true, true, true, true, true, true, true, false, false, false, false] rfl rfl (any_of HT_.out (by kernel_rfl)) (fun _ _ _ h => h) (Or.inl ⟨by rfl, ?_⟩) ?_ ?_
                                rotate_left
                                · intro w'
                                  go_simp
                                  with_reducible rfl
                                rotate_left
                                · simp only [Act.put, List.setIfInBounds_toArray, List.set_cons_zero, List.set_cons_succ, i64_w, i32_w]
                                  rfl
                                refine pure_ (i := 12) (N := some 116) (v := ?_) (a' := ?_) #[true, true, true, true, true, true, true, true, true, true, true, true, true, false, false, false] rfl rfl (any_of HT_.out (by kernel_rfl)) (fun _ _ _ h => h) (Or.inl ⟨by rfl, ?_⟩) ?_ ?_
                                rotate_left
                                · intro w'
                                  go_simp
                                  with_reducible rfl
                                rotate_left
                                · simp only [Act.put, List.setIfInBounds_toArray, List.set_cons_zero, List.set_cons_succ, i64_w, i32_w]
                                  rfl
                                refine pure_ (i := 13) (N := some 117) (v := ?_) (a' := ?_) #[true, true, true, true, true, true, true, true, true, true, true, true, true, true, false, false] rfl rfl (any_of HT_.out (by kernel_rfl)) (fun _ _ _ h => h) (Or.inl ⟨by rfl, ?_⟩) ?_ ?_
                                rotate_left
                                · intro w'
                                  go_simp
                                  with_reducible rfl
                                rotate_left
                                · simp only [Act.put, List.setIfInBounds_toArray, List.set_cons_zero, List.set_cons_succ, i64_w, i32_w]
                                  rfl
                                refine pure_ (i := 14) (N := some 118) (v := ?_) (a' := ?_) #[true, true, true, true, true, true, true, true, true, true, true, true, true, true, true, false] rfl rfl (any_of HT_.out (by kernel_rfl)) (fun _ _ _ h => h) (Or.inl ⟨by rfl, ?_⟩) ?_ ?_
                                rotate_left
                                · intro w'
                                  go_simp
                                  with_reducible rfl
                                rotate_left
                                · simp only [Act.put, List.setIfInBounds_toArray, List.set_cons_zero, List.set_cons_succ, i64_w, i32_w]
                                  rfl
                                refine pure_ (i := 15) (N := some 8) (v := ?_) (a' := ?_) #[true, true, true, true, true, true, true, true, true, true, true, true, true, true, true, true] rfl rfl (any_of HT_.out (by kernel_rfl)) (fun _ _ _ h => h) (Or.inl ⟨by rfl, ?_⟩) ?_ ?_
                                rotate_left
                                · intro w'
                                  go_simp
                                  with_reducible rfl
                                rotate_left
                                · simp only [Act.put, List.setIfInBounds_toArray, List.set_cons_zero, List.set_cons_succ, i64_w, i32_w]
                                  rfl
                                refine done_ (done_of HT_.out (by kernel_rfl)) ?_
                                try go_wp2
                                go_ret
                                exact ⟨by rfl, by repeat ((with_reducible exact HB.out))⟩
                              · rw [if_neg c59] at H
                                have c59b0 : (t508 == t518) = false := beq_eq_false_iff_ne.mpr c59
                                have c59b1 : (t508 != t518) = true := bne_iff_ne.mpr c59
                                obtain rfl := Option.some.inj H
                                have hnb73 := NB494_484.out
                                have hnc73 := NB484_494.out
                                obtain ⟨hcz74_0, hcz74_1, hcz74_2, hcz74_3, hcz74_4, hcz74_5, hcz74_6, hcz74_7⟩ := cells8 BK494.out
                                obtain ⟨hfz74_0, hfz74_1, hfz74_2, hfz74_3, hfz74_4, hfz74_5, hfz74_6, hfz74_7⟩ := frz8 BK494.out
                                try go_wp2_with (first | ((with_reducible refine gate_callee (f := 28) rfl ?_); refine goesL_ (some 91) rfl rfl Tryd.func28 (by kernel_rfl) rfl #[.agg #[.int .i64 t485, .int .i64 t486, .int .i64 t487, .int .i64 t488, .int .i64 t489, .int .i64 t490, .int .i64 t491, .int .i64 t492], .int .i64 (Int.tmod (wrap64 (a3)) t491)] rfl (by (try simp only [List.map_toArray, List.map_cons, List.map_nil]); rfl) ?_; (with_reducible refine (resolve_Element.calls t485 t486 t487 t488 t489 t490 t491 t492 (Int.tmod (wrap64 (a3)) t491) t499 t500 t501 t502 t503 t504 t505 t506 _ A53.out).mono ?_); rintro e w75 ⟨rfl, hb⟩; refine ⟨_, rfl, ?_⟩; replace BK484 := Aside0.mk (blk_below BK484.out hb); replace BK494 := Aside0.mk (blk_below BK494.out hb); replace HB := Aside0.mk (below_step HB.out hb); (try clear hb)) | ((with_reducible refine gate_dst (N := 18) rfl ?_); refine box_event ?hg (N := 18) ?hd (cs := #[.int .i64 0, .int .i64 0, .int .i64 0, .int .i64 0, .int .i64 0, .int .i64 0, .int .i64 0, .int .i64 0]) (t := 46) ?hr ?_; (case hd => rfl); (case hg => rfl); (case hr => (go_simp; done)); intro gb507 hg w76 hbox hb; replace BK507 := Aside0.mk (hbox); replace GW507 := Aside0.mk (ge_of HB.out hg); replace GE507 := Aside0.mk (ge_of HB.out hg); replace HB := Aside0.mk (below_step HB.out hb); replace NB484_507 := Aside0.mk (ne_l BK484.out hg); replace NB507_484 := Aside0.mk (ne_r BK484.out hg); replace BK484 := Aside0.mk (blk_below BK484.out hb); replace NB494_507 := Aside0.mk (ne_l BK494.out hg); replace NB507_494 := Aside0.mk (ne_r BK494.out hg); replace BK494 := Aside0.mk (blk_below BK494.out hb); clear hb hbox hg; have hnb77 := NB507_484.out; have hnc77 := NB484_507.out; have hnb78 := NB507_494.out; have hnc78 := NB494_507.out; obtain ⟨hcz79_0, hcz79_1, hcz79_2, hcz79_3, hcz79_4, hcz79_5, hcz79_6, hcz79_7⟩ := cells8 BK507.out; obtain ⟨hfz79_0, hfz79_1, hfz79_2, hfz79_3, hfz79_4, hfz79_5, hfz79_6, hfz79_7⟩ := frz8 BK507.out) | ((with_reducible refine gate_callee (f := 26) rfl ?_); refine goesL_ (some 94) rfl rfl Tryd.func26 (by kernel_rfl) rfl #[.agg #[.int .i64 t499, .int .i64 t500, .int .i64 t501, .int .i64 t502, .int .i64 t503, .int .i64 t504, .int .i64 t505, .int .i64 t506]] rfl (by (try simp only [List.map_toArray, List.map_cons, List.map_nil]); rfl) ?_; (with_reducible refine (resolve_Pointers.calls kj41 t499 t500 t501 t502 t503 t504 t505 t506 t508 t509 _ A54.out).mono ?_); rintro e w80 ⟨rfl, hb⟩; refine ⟨_, rfl, ?_⟩; replace BK484 := Aside0.mk (blk_below (g := gb484) (o := .cells #[.int .i64 t475, .int .i64 t476, .int .i64 t477, .int .i64 t478, .int .i64 t479, .int .i64 t480, .int .i64 t481, .int .i64 t482] 46 (0, 0)) (by (iterate 8 refine blk_far ?_ NB484_507.out _); exact BK484.out) hb); replace BK494 := Aside0.mk (blk_below (g := gb494) (o := .cells #[.int .i64 t485, .int .i64 t486, .int .i64 t487, .int .i64 t488, .int .i64 t489, .int .i64 t490, .int .i64 t491, .int .i64 t492] 46 (0, 0)) (by (iterate 8 refine blk_far ?_ NB494_507.out _); exact BK494.out) hb); replace BK507 := Aside0.mk (blk_below (g := gb507) (o := .cells #[.int .i64 t499, .int .i64 t500, .int .i64 t501, .int .i64 t502, .int .i64 t503, .int .i64 t504, .int .i64 t505, .int .i64 t506] 46 (0, 0)) (by exact put8 BK507.out) hb); replace HB := Aside0.mk (below_step (by repeat ((with_reducible first | exact HB.out | refine below_set ?_ GE507.out))) hb); (try clear hb); obtain ⟨hcz81_0, hcz81_1, hcz81_2, hcz81_3, hcz81_4, hcz81_5, hcz81_6, hcz81_7⟩ := cells8 BK494.out; obtain ⟨hfz81_0, hfz81_1, hfz81_2, hfz81_3, hfz81_4, hfz81_5, hfz81_6, hfz81_7⟩ := frz8 BK494.out) | ((with_reducible refine gate_callee (f := 29) rfl ?_); refine goesL_ (some 100) rfl rfl Tryd.func29 (by kernel_rfl) rfl #[.agg #[.int .i64 t485, .int .i64 t486, .int .i64 t487, .int .i64 t488, .int .i64 t489, .int .i64 t490, .int .i64 t491, .int .i64 t492], .int .i64 (Int.tmod (wrap64 (a3)) t491)] rfl (by (try simp only [List.map_toArray, List.map_cons, List.map_nil]); rfl) ?_; (with_reducible refine (capnpref08_Element.calls t485 t486 t487 t488 t489 t490 t491 t492 (Int.tmod (wrap64 (a3)) t491) t510 t511 t512 t513 t514 t515 t516 t517 _ A55.out).mono ?_); rintro e w82 ⟨rfl, hb⟩; refine ⟨_, rfl, ?_⟩; replace BK484 := Aside0.mk (blk_below BK484.out hb); replace BK494 := Aside0.mk (blk_below BK494.out hb); replace BK507 := Aside0.mk (blk_below BK507.out hb); replace HB := Aside0.mk (below_step HB.out hb); (try clear hb)) | ((with_reducible refine gate_callee (f := 27) rfl ?_); refine goesL_ (some 101) rfl rfl Tryd.func27 (by kernel_rfl) rfl #[.agg #[.int .i64 t510, .int .i64 t511, .int .i64 t512, .int .i64 t513, .int .i64 t514, .int .i64 t515, .int .i64 t516, .int .i64 t517]] rfl (by (try simp only [List.map_toArray, List.map_cons, List.map_nil]); rfl) ?_; (with_reducible refine (capnpref08_Pointers.calls kj41 t510 t511 t512 t513 t514 t515 t516 t517 t518 t519 _ A56.out).mono ?_); rintro e w83 ⟨rfl, hb⟩; refine ⟨_, rfl, ?_⟩; replace BK484 := Aside0.mk (blk_below BK484.out hb); replace BK494 := Aside0.mk (blk_below BK494.out hb); replace BK507 := Aside0.mk (blk_below BK507.out hb); replace HB := Aside0.mk (below_step HB.out hb); (try clear hb)))
                                have n0_ := Aside0.mk (blk_drew BK484.out)
                                have n1_ := Aside0.mk (blk_drew BK494.out)
                                have n2_ := Aside0.mk (blk_drew BK507.out)
                                have n3_ := Aside0.mk (below_drew1 HB.out)
                                clear BK484
                                clear BK494
                                clear BK507
                                clear HB
                                have BK484 := n0_
                                have BK494 := n1_
                                have BK507 := n2_
                                have HB := n3_
                                clear n0_ n1_ n2_ n3_
                                refine start_ (n := 16) (S := fun w' => w'.cell? ⟨gb507, 0, none⟩ = some (.int .i64 t499) ∧ w'.cell? ⟨gb507, 1, none⟩ = some (.int .i64 t500) ∧ w'.cell? ⟨gb507, 2, none⟩ = some (.int .i64 t501) ∧ w'.cell? ⟨gb507, 3, none⟩ = some (.int .i64 t502) ∧ w'.cell? ⟨gb507, 4, none⟩ = some (.int .i64 t503) ∧ w'.cell? ⟨gb507, 5, none⟩ = some (.int .i64 t504) ∧ w'.cell? ⟨gb507, 6, none⟩ = some (.int .i64 t505) ∧ w'.cell? ⟨gb507, 7, none⟩ = some (.int .i64 t506) ∧ w'.cell? ⟨gb494, 0, none⟩ = some (.int .i64 t485) ∧ w'.cell? ⟨gb494, 1, none⟩ = some (.int .i64 t486) ∧ w'.cell? ⟨gb494, 2, none⟩ = some (.int .i64 t487) ∧ w'.cell? ⟨gb494, 3, none⟩ = some (.int .i64 t488) ∧ w'.cell? ⟨gb494, 4, none⟩ = some (.int .i64 t489) ∧ w'.cell? ⟨gb494, 5, none⟩ = some (.int .i64 t490) ∧ w'.cell? ⟨gb494, 6, none⟩ = some (.int .i64 t491) ∧ w'.cell? ⟨gb494, 7, none⟩ = some (.int .i64 t492)) (ds := []) #[false, false, false, false, false, false, false, false, false, false, false, false, false, false, false, false] (by kernel_rfl) rfl rfl ⟨(blk_cell BK507.out 0).trans rfl, (blk_cell BK507.out 1).trans rfl, (blk_cell BK507.out 2).trans rfl, (blk_cell BK507.out 3).trans rfl, (blk_cell BK507.out 4).trans rfl, (blk_cell BK507.out 5).trans rfl, (blk_cell BK507.out 6).trans rfl, (blk_cell BK507.out 7).trans rfl, (blk_cell BK494.out 0).trans rfl, (blk_cell BK494.out 1).trans rfl, (blk_cell BK494.out 2).trans rfl, (blk_cell BK494.out 3).trans rfl, (blk_cell BK494.out 4).trans rfl, (blk_cell BK494.out 5).trans rfl, (blk_cell BK494.out 6).trans rfl, (blk_cell BK494.out 7).trans rfl⟩ (fun hHeld => ?_); refine with_tabW capnplaw08_ResolveMatchesReference.tab17 capnplaw08_ResolveMatchesReference.bits17 (fun HT_ HW_ => ?_)
                                generalize w83.drew = w84 at BK484 BK494 BK507 HB hHeld ⊢
                                refine pure_ (i := 2) (N := some 106) (v := ?_) (a' := ?_) #[false, false, true, false, false, false, false, false, false, false, false, false, false, false, false, false] rfl rfl (any_of HT_.out (by kernel_rfl)) (fun _ _ _ h => h) (Or.inl ⟨by rfl, ?_⟩) ?_ ?_
                                rotate_left
                                · intro w'
                                  go_simp
                                  with_reducible rfl
                                rotate_left
                                · simp only [Act.put, List.setIfInBounds_toArray, List.set_cons_zero, List.set_cons_succ, i64_w, i32_w]
                                  rfl
                                refine take_ (i := 0) (N := some 104) (v := ?_) (a' := ?_) #[true, false, true, false, false, false, false, false, false, false, false, false, false, false, false, false] rfl rfl (take_ofW HT_.out HW_.out (by kernel_rfl)) (fun _ _ _ h => h) (Or.inl ⟨by rfl, ?_⟩) hHeld ?_ ?_
                                rotate_left
                                · rintro w' ⟨s0, s1, s2, s3, s4, s5, s6, s7, s8, s9, s10, s11, s12, s13, s14, s15⟩
                                  go_simp
                                  with_reducible rfl
                                rotate_left
                                · simp only [Act.put, List.setIfInBounds_toArray, List.set_cons_zero, List.set_cons_succ, i64_w, i32_w]
                                  rfl
                                refine take_ (i := 1) (N := some 105) (v := ?_) (a' := ?_) #[true, true, true, false, false, false, false, false, false, false, false, false, false, false, false, false] rfl rfl (take_ofW HT_.out HW_.out (by kernel_rfl)) (fun _ _ _ h => h) (Or.inl ⟨by rfl, ?_⟩) hHeld ?_ ?_
                                rotate_left
                                · rintro w' ⟨s0, s1, s2, s3, s4, s5, s6, s7, s8, s9, s10, s11, s12, s13, s14, s15⟩
                                  go_simp
                                  with_reducible rfl
                                rotate_left
                                · simp only [Act.put, List.setIfInBounds_toArray, List.set_cons_zero, List.set_cons_succ, i64_w, i32_w]
                                  rfl
                                refine one_ (i := 3) (N := some 107) #[true, true, true, true, false, false, false, false, false, false, false, false, false, false, false, false] rfl rfl (one_of HT_.out (by kernel_rfl)) (by decide) (fun K hK => ?_)
                                refine goes_ Tryd.func29 (by kernel_rfl) rfl #[.agg #[.int .i64 t485, .int .i64 t486, .int .i64 t487, .int .i64 t488, .int .i64 t489, .int .i64 t490, .int .i64 t491, .int .i64 t492], .int .i64 (Int.tmod (wrap64 (a3)) t491)] (by rfl) rfl rfl (by (try simp only [List.map_toArray, List.map_cons, List.map_nil]); rfl) ?_
                                with_reducible refine (capnpref08_Element.calls t485 t486 t487 t488 t489 t490 t491 t492 (Int.tmod (wrap64 (a3)) t491) t520 t521 t522 t523 t524 t525 t526 t527 _ A57.out).mono ?_
                                rintro e w85 ⟨rfl, hb⟩
                                refine ⟨_, rfl, ?_⟩
                                have n0_ := Aside0.mk (blk_below BK484.out hb)
                                have n1_ := Aside0.mk (blk_below BK494.out hb)
                                have n2_ := Aside0.mk (blk_below BK507.out hb)
                                have n3_ := Aside0.mk (below_step HB.out hb)
                                clear BK484
                                clear BK494
                                clear BK507
                                clear HB
                                have BK484 := n0_
                                have BK494 := n1_
                                have BK507 := n2_
                                have HB := n3_
                                clear n0_ n1_ n2_ n3_
                                (try clear hb)
                                (skip)
                                (skip)
                                (skip)
                                refine hK.out _ _ ⟨(blk_cell BK507.out 0).trans rfl, (blk_cell BK507.out 1).trans rfl, (blk_cell BK507.out 2).trans rfl, (blk_cell BK507.out 3).trans rfl, (blk_cell BK507.out 4).trans rfl, (blk_cell BK507.out 5).trans rfl, (blk_cell BK507.out 6).trans rfl, (blk_cell BK507.out 7).trans rfl, (blk_cell BK494.out 0).trans rfl, (blk_cell BK494.out 1).trans rfl, (blk_cell BK494.out 2).trans rfl, (blk_cell BK494.out 3).trans rfl, (blk_cell BK494.out 4).trans rfl, (blk_cell BK494.out 5).trans rfl, (blk_cell BK494.out 6).trans rfl, (blk_cell BK494.out 7).trans rfl⟩ (fun hHeld => ?_)
                                clear hK K
                                refine norm_ (a' := ?_) ?_ ?_
                                rotate_left
                                · show Act.put _ (some 107) _ = _
                                  simp only [Act.put, List.setIfInBounds_toArray, List.set_cons_zero, List.set_cons_succ, i64_w, i32_w]
                                  rfl
                                refine pure_ (i := 4) (N := some 108) (v := ?_) (a' := ?_) #[true, true, true, true, true, false, false, false, false, false, false, false, false, false, false, false] rfl rfl (any_of HT_.out (by kernel_rfl)) (fun _ _ _ h => h) (Or.inl ⟨by rfl, ?_⟩) ?_ ?_
                                rotate_left
                                · intro w'
                                  go_simp
                                  with_reducible rfl
                                rotate_left
                                · simp only [Act.put, List.setIfInBounds_toArray, List.set_cons_zero, List.set_cons_succ, i64_w, i32_w]
                                  rfl
                                refine pure_ (i := 5) (N := some 109) (v := ?_) (a' := ?_) #[true, true, true, true, true, true, false, false, false, false, false, false, false, false, false, false] rfl rfl (any_of HT_.out (by kernel_rfl)) (fun _ _ _ h => h) (Or.inl ⟨by rfl, ?_⟩) ?_ ?_
                                rotate_left
                                · intro w'
                                  go_simp
                                  with_reducible rfl
                                rotate_left
                                · simp only [Act.put, List.setIfInBounds_toArray, List.set_cons_zero, List.set_cons_succ, i64_w, i32_w]
                                  rfl
                                refine pure_ (i := 6) (N := some 110) (v := ?_) (a' := ?_) #[true, true, true, true, true, true, true, false, false, false, false, false, false, false, false, false] rfl rfl (any_of HT_.out (by kernel_rfl)) (fun _ _ _ h => h) (Or.inl ⟨by rfl, ?_⟩) ?_ ?_
                                rotate_left
                                · intro w'
                                  go_simp
                                  with_reducible rfl
                                rotate_left
                                · simp only [Act.put, List.setIfInBounds_toArray, List.set_cons_zero, List.set_cons_succ, i64_w, i32_w]
                                  rfl
                                refine pure_ (i := 7) (N := some 111) (v := ?_) (a' := ?_) #[true, true, true, true, true, true, true, true, false, false, false, false, false, false, false, false] rfl rfl (any_of HT_.out (by kernel_rfl)) (fun _ _ _ h => h) (Or.inl ⟨by rfl, ?_⟩) ?_ ?_
                                rotate_left
                                · intro w'
                                  go_simp
                                  with_reducible rfl
                                rotate_left
                                · simp only [Act.put, List.setIfInBounds_toArray, List.set_cons_zero, List.set_cons_succ, i64_w, i32_w]
                                  rfl
                                refine pure_ (i := 8) (N := some 112) (v := ?_) (a' := ?_) #[true, true, true, true, true, true, true, true, true, false, false, false, false, false, false, false] rfl rfl (any_of HT_.out (by kernel_rfl)) (fun _ _ _ h => h) (Or.inl ⟨by rfl, ?_⟩) ?_ ?_
                                rotate_left
                                · intro w'
                                  go_simp
                                  with_reducible rfl
                                rotate_left
                                · simp only [Act.put, List.setIfInBounds_toArray, List.set_cons_zero, List.set_cons_succ, i64_w, i32_w]
                                  rfl
                                refine pure_ (i := 9) (N := some 113) (v := ?_) (a' := ?_) #[true, true, true, true, true, true, true, true, true, true, false, false, false, false, false, false] rfl rfl (any_of HT_.out (by kernel_rfl)) (fun _ _ _ h => h) (Or.inl ⟨by rfl, ?_⟩) ?_ ?_
                                rotate_left
                                · intro w'
                                  go_simp
                                  with_reducible rfl
                                rotate_left
                                · simp only [Act.put, List.setIfInBounds_toArray, List.set_cons_zero, List.set_cons_succ, i64_w, i32_w]
                                  rfl
                                refine pure_ (i := 10) (N := some 114) (v := ?_) (a' := ?_) #[true, true, true, true, true, true, true, true, true, true, true, false, false, false, false, false] rfl rfl (any_of HT_.out (by kernel_rfl)) (fun _ _ _ h => h) (Or.inl ⟨by rfl, ?_⟩) ?_ ?_
                                rotate_left
                                · intro w'
                                  go_simp
                                  with_reducible rfl
                                rotate_left
                                · simp only [Act.put, List.setIfInBounds_toArray, List.set_cons_zero, List.set_cons_succ, i64_w, i32_w]
                                  rfl
                                refine pure_ (i := 11) (N := some 115) (v := undef) (a' := ?_) #[true, true, true, true, true, true, true, true, true, true, true, true, false, false, false, false] rfl rfl (any_of HT_.out (by kernel_rfl)) (fun _ _ _ h => h) (Or.inr ⟨by rfl, rfl⟩) ?_ ?_
                                rotate_left
                                · simp only [Act.put, List.setIfInBounds_toArray, List.set_cons_zero, List.set_cons_succ, i64_w, i32_w]
                                  rfl
                                refine pure_ (i := 12) (N := some 116) (v := undef) (a' := ?_) #[true, true, true, true, true, true, true, true, true, true, true, true, true, false, false, false] rfl rfl (any_of HT_.out (by kernel_rfl)) (fun _ _ _ h => h) (Or.inr ⟨by rfl, rfl⟩) ?_ ?_
                                rotate_left
                                · simp only [Act.put, List.setIfInBounds_toArray, List.set_cons_zero, List.set_cons_succ, i64_w, i32_w]
                                  rfl
                                refine pure_ (i := 13) (N := some 117) (v := undef) (a' := ?_) #[true, true, true, true, true, true, true, true, true, true, true, true, true, true, false, false] rfl rfl (any_of HT_.out (by kernel_rfl)) (fun _ _ _ h => h) (Or.inr ⟨by rfl, rfl⟩) ?_ ?_
                                rotate_left
                                · simp only [Act.put, List.setIfInBounds_toArray, List.set_cons_zero, List.set_cons_succ, i64_w, i32_w]
                                  rfl
                                refine pure_ (i := 14) (N := some 118) (v := ?_) (a' := ?_) #[true, true, true, true, true, true, true, true, true, true, true, true, true, true, true, false] rfl rfl (any_of HT_.out (by kernel_rfl)) (fun _ _ _ h => h) (Or.inl ⟨by rfl, ?_⟩) ?_ ?_
                                rotate_left
                                · intro w'
                                  go_simp
                                  with_reducible rfl
                                rotate_left
                                · simp only [Act.put, List.setIfInBounds_toArray, List.set_cons_zero, List.set_cons_succ, i64_w, i32_w]
                                  rfl
                                refine pure_ (i := 15) (N := some 8) (v := ?_) (a' := ?_) #[true, true, true, true, true, true, true, true, true, true, true, true, true, true, true, true] rfl rfl (any_of HT_.out (by kernel_rfl)) (fun _ _ _ h => h) (Or.inl ⟨by rfl, ?_⟩) ?_ ?_
                                rotate_left
                                · intro w'
                                  go_simp
                                  with_reducible rfl
                                rotate_left
                                · simp only [Act.put, List.setIfInBounds_toArray, List.set_cons_zero, List.set_cons_succ, i64_w, i32_w]
                                  rfl
                                refine done_ (done_of HT_.out (by kernel_rfl)) ?_
                                try go_wp2
                                go_ret
                                exact ⟨by rfl, by repeat ((with_reducible exact HB.out))⟩
                            · rw [if_neg c58] at H
                              have c58b0 : (t499 == t520 && (t500 == t521 && (t501 == t522 && (t502 == t523 && (t503 == t524 && (t504 == t525 && (t505 == t526 && (t506 == t527)))))))) = false := by simpa using c58
                              (try (have c58b1 : decide (t499 = t520 && (t500 == t521 && (t501 == t522 && (t502 == t523 && (t503 == t524 && (t504 == t525 && (t505 == t526 && (t506 == t527)))))))) = false := by simpa using c58))
                              (try (have c58b2 : (t499 == t520 && (t500 == t521 && (t501 == t522 && (t502 == t523 && (t503 == t524 && (t504 == t525 && (t505 == t526 && (t506 == t527)))))))) = false := by simpa using c58))
                              (try (have c58b3 : ¬ (t499 = t520 && (t500 == t521 && (t501 == t522 && (t502 == t523 && (t503 == t524 && (t504 == t525 && (t505 == t526 && (t506 == t527)))))))) := by simpa using c58))
                              clear c58
                              obtain rfl := Option.some.inj H
                              have hnb86 := NB494_484.out
                              have hnc86 := NB484_494.out
                              obtain ⟨hcz87_0, hcz87_1, hcz87_2, hcz87_3, hcz87_4, hcz87_5, hcz87_6, hcz87_7⟩ := cells8 BK494.out
                              obtain ⟨hfz87_0, hfz87_1, hfz87_2, hfz87_3, hfz87_4, hfz87_5, hfz87_6, hfz87_7⟩ := frz8 BK494.out
                              try go_wp2_with (first | ((with_reducible refine gate_callee (f := 28) rfl ?_); refine goesL_ (some 91) rfl rfl Tryd.func28 (by kernel_rfl) rfl #[.agg #[.int .i64 t485, .int .i64 t486, .int .i64 t487, .int .i64 t488, .int .i64 t489, .int .i64 t490, .int .i64 t491, .int .i64 t492], .int .i64 (Int.tmod (wrap64 (a3)) t491)] rfl (by (try simp only [List.map_toArray, List.map_cons, List.map_nil]); rfl) ?_; (with_reducible refine (resolve_Element.calls t485 t486 t487 t488 t489 t490 t491 t492 (Int.tmod (wrap64 (a3)) t491) t499 t500 t501 t502 t503 t504 t505 t506 _ A53.out).mono ?_); rintro e w88 ⟨rfl, hb⟩; refine ⟨_, rfl, ?_⟩; replace BK484 := Aside0.mk (blk_below BK484.out hb); replace BK494 := Aside0.mk (blk_below BK494.out hb); replace HB := Aside0.mk (below_step HB.out hb); (try clear hb)) | ((with_reducible refine gate_dst (N := 18) rfl ?_); refine box_event ?hg (N := 18) ?hd (cs := #[.int .i64 0, .int .i64 0, .int .i64 0, .int .i64 0, .int .i64 0, .int .i64 0, .int .i64 0, .int .i64 0]) (t := 46) ?hr ?_; (case hd => rfl); (case hg => rfl); (case hr => (go_simp; done)); intro gb507 hg w89 hbox hb; replace BK507 := Aside0.mk (hbox); replace GW507 := Aside0.mk (ge_of HB.out hg); replace GE507 := Aside0.mk (ge_of HB.out hg); replace HB := Aside0.mk (below_step HB.out hb); replace NB484_507 := Aside0.mk (ne_l BK484.out hg); replace NB507_484 := Aside0.mk (ne_r BK484.out hg); replace BK484 := Aside0.mk (blk_below BK484.out hb); replace NB494_507 := Aside0.mk (ne_l BK494.out hg); replace NB507_494 := Aside0.mk (ne_r BK494.out hg); replace BK494 := Aside0.mk (blk_below BK494.out hb); clear hb hbox hg; have hnb90 := NB507_484.out; have hnc90 := NB484_507.out; have hnb91 := NB507_494.out; have hnc91 := NB494_507.out; obtain ⟨hcz92_0, hcz92_1, hcz92_2, hcz92_3, hcz92_4, hcz92_5, hcz92_6, hcz92_7⟩ := cells8 BK507.out; obtain ⟨hfz92_0, hfz92_1, hfz92_2, hfz92_3, hfz92_4, hfz92_5, hfz92_6, hfz92_7⟩ := frz8 BK507.out) | ((with_reducible refine gate_callee (f := 26) rfl ?_); refine goesL_ (some 94) rfl rfl Tryd.func26 (by kernel_rfl) rfl #[.agg #[.int .i64 t499, .int .i64 t500, .int .i64 t501, .int .i64 t502, .int .i64 t503, .int .i64 t504, .int .i64 t505, .int .i64 t506]] rfl (by (try simp only [List.map_toArray, List.map_cons, List.map_nil]); rfl) ?_; (with_reducible refine (resolve_Pointers.calls kj41 t499 t500 t501 t502 t503 t504 t505 t506 t508 t509 _ A54.out).mono ?_); rintro e w93 ⟨rfl, hb⟩; refine ⟨_, rfl, ?_⟩; replace BK484 := Aside0.mk (blk_below (g := gb484) (o := .cells #[.int .i64 t475, .int .i64 t476, .int .i64 t477, .int .i64 t478, .int .i64 t479, .int .i64 t480, .int .i64 t481, .int .i64 t482] 46 (0, 0)) (by (iterate 8 refine blk_far ?_ NB484_507.out _); exact BK484.out) hb); replace BK494 := Aside0.mk (blk_below (g := gb494) (o := .cells #[.int .i64 t485, .int .i64 t486, .int .i64 t487, .int .i64 t488, .int .i64 t489, .int .i64 t490, .int .i64 t491, .int .i64 t492] 46 (0, 0)) (by (iterate 8 refine blk_far ?_ NB494_507.out _); exact BK494.out) hb); replace BK507 := Aside0.mk (blk_below (g := gb507) (o := .cells #[.int .i64 t499, .int .i64 t500, .int .i64 t501, .int .i64 t502, .int .i64 t503, .int .i64 t504, .int .i64 t505, .int .i64 t506] 46 (0, 0)) (by exact put8 BK507.out) hb); replace HB := Aside0.mk (below_step (by repeat ((with_reducible first | exact HB.out | refine below_set ?_ GE507.out))) hb); (try clear hb); obtain ⟨hcz94_0, hcz94_1, hcz94_2, hcz94_3, hcz94_4, hcz94_5, hcz94_6, hcz94_7⟩ := cells8 BK494.out; obtain ⟨hfz94_0, hfz94_1, hfz94_2, hfz94_3, hfz94_4, hfz94_5, hfz94_6, hfz94_7⟩ := frz8 BK494.out) | ((with_reducible refine gate_callee (f := 29) rfl ?_); refine goesL_ (some 100) rfl rfl Tryd.func29 (by kernel_rfl) rfl #[.agg #[.int .i64 t485, .int .i64 t486, .int .i64 t487, .int .i64 t488, .int .i64 t489, .int .i64 t490, .int .i64 t491, .int .i64 t492], .int .i64 (Int.tmod (wrap64 (a3)) t491)] rfl (by (try simp only [List.map_toArray, List.map_cons, List.map_nil]); rfl) ?_; (with_reducible refine (capnpref08_Element.calls t485 t486 t487 t488 t489 t490 t491 t492 (Int.tmod (wrap64 (a3)) t491) t510 t511 t512 t513 t514 t515 t516 t517 _ A55.out).mono ?_); rintro e w95 ⟨rfl, hb⟩; refine ⟨_, rfl, ?_⟩; replace BK484 := Aside0.mk (blk_below BK484.out hb); replace BK494 := Aside0.mk (blk_below BK494.out hb); replace BK507 := Aside0.mk (blk_below BK507.out hb); replace HB := Aside0.mk (below_step HB.out hb); (try clear hb)) | ((with_reducible refine gate_callee (f := 27) rfl ?_); refine goesL_ (some 101) rfl rfl Tryd.func27 (by kernel_rfl) rfl #[.agg #[.int .i64 t510, .int .i64 t511, .int .i64 t512, .int .i64 t513, .int .i64 t514, .int .i64 t515, .int .i64 t516, .int .i64 t517]] rfl (by (try simp only [List.map_toArray, List.map_cons, List.map_nil]); rfl) ?_; (with_reducible refine (capnpref08_Pointers.calls kj41 t510 t511 t512 t513 t514 t515 t516 t517 t518 t519 _ A56.out).mono ?_); rintro e w96 ⟨rfl, hb⟩; refine ⟨_, rfl, ?_⟩; replace BK484 := Aside0.mk (blk_below BK484.out hb); replace BK494 := Aside0.mk (blk_below BK494.out hb); replace BK507 := Aside0.mk (blk_below BK507.out hb); replace HB := Aside0.mk (below_step HB.out hb); (try clear hb)))
                              have n0_ := Aside0.mk (blk_drew BK484.out)
                              have n1_ := Aside0.mk (blk_drew BK494.out)
                              have n2_ := Aside0.mk (blk_drew BK507.out)
                              have n3_ := Aside0.mk (below_drew1 HB.out)
                              clear BK484
                              clear BK494
                              clear BK507
                              clear HB
                              have BK484 := n0_
                              have BK494 := n1_
                              have BK507 := n2_
                              have HB := n3_
                              clear n0_ n1_ n2_ n3_
                              refine start_ (n := 16) (S := fun w' => w'.cell? ⟨gb507, 0, none⟩ = some (.int .i64 t499) ∧ w'.cell? ⟨gb507, 1, none⟩ = some (.int .i64 t500) ∧ w'.cell? ⟨gb507, 2, none⟩ = some (.int .i64 t501) ∧ w'.cell? ⟨gb507, 3, none⟩ = some (.int .i64 t502) ∧ w'.cell? ⟨gb507, 4, none⟩ = some (.int .i64 t503) ∧ w'.cell? ⟨gb507, 5, none⟩ = some (.int .i64 t504) ∧ w'.cell? ⟨gb507, 6, none⟩ = some (.int .i64 t505) ∧ w'.cell? ⟨gb507, 7, none⟩ = some (.int .i64 t506) ∧ w'.cell? ⟨gb494, 0, none⟩ = some (.int .i64 t485) ∧ w'.cell? ⟨gb494, 1, none⟩ = some (.int .i64 t486) ∧ w'.cell? ⟨gb494, 2, none⟩ = some (.int .i64 t487) ∧ w'.cell? ⟨gb494, 3, none⟩ = some (.int .i64 t488) ∧ w'.cell? ⟨gb494, 4, none⟩ = some (.int .i64 t489) ∧ w'.cell? ⟨gb494, 5, none⟩ = some (.int .i64 t490) ∧ w'.cell? ⟨gb494, 6, none⟩ = some (.int .i64 t491) ∧ w'.cell? ⟨gb494, 7, none⟩ = some (.int .i64 t492)) (ds := []) #[false, false, false, false, false, false, false, false, false, false, false, false, false, false, false, false] (by kernel_rfl) rfl rfl ⟨(blk_cell BK507.out 0).trans rfl, (blk_cell BK507.out 1).trans rfl, (blk_cell BK507.out 2).trans rfl, (blk_cell BK507.out 3).trans rfl, (blk_cell BK507.out 4).trans rfl, (blk_cell BK507.out 5).trans rfl, (blk_cell BK507.out 6).trans rfl, (blk_cell BK507.out 7).trans rfl, (blk_cell BK494.out 0).trans rfl, (blk_cell BK494.out 1).trans rfl, (blk_cell BK494.out 2).trans rfl, (blk_cell BK494.out 3).trans rfl, (blk_cell BK494.out 4).trans rfl, (blk_cell BK494.out 5).trans rfl, (blk_cell BK494.out 6).trans rfl, (blk_cell BK494.out 7).trans rfl⟩ (fun hHeld => ?_); refine with_tabW capnplaw08_ResolveMatchesReference.tab17 capnplaw08_ResolveMatchesReference.bits17 (fun HT_ HW_ => ?_)
                              generalize w96.drew = w97 at BK484 BK494 BK507 HB hHeld ⊢
                              refine pure_ (i := 2) (N := some 106) (v := ?_) (a' := ?_) #[false, false, true, false, false, false, false, false, false, false, false, false, false, false, false, false] rfl rfl (any_of HT_.out (by kernel_rfl)) (fun _ _ _ h => h) (Or.inl ⟨by rfl, ?_⟩) ?_ ?_
                              rotate_left
                              · intro w'
                                go_simp
                                with_reducible rfl
                              rotate_left
                              · simp only [Act.put, List.setIfInBounds_toArray, List.set_cons_zero, List.set_cons_succ, i64_w, i32_w]
                                rfl
                              refine take_ (i := 0) (N := some 104) (v := ?_) (a' := ?_) #[true, false, true, false, false, false, false, false, false, false, false, false, false, false, false, false] rfl rfl (take_ofW HT_.out HW_.out (by kernel_rfl)) (fun _ _ _ h => h) (Or.inl ⟨by rfl, ?_⟩) hHeld ?_ ?_
                              rotate_left
                              · rintro w' ⟨s0, s1, s2, s3, s4, s5, s6, s7, s8, s9, s10, s11, s12, s13, s14, s15⟩
                                go_simp
                                with_reducible rfl
                              rotate_left
                              · simp only [Act.put, List.setIfInBounds_toArray, List.set_cons_zero, List.set_cons_succ, i64_w, i32_w]
                                rfl
                              refine take_ (i := 1) (N := some 105) (v := ?_) (a' := ?_) #[true, true, true, false, false, false, false, false, false, false, false, false, false, false, false, false] rfl rfl (take_ofW HT_.out HW_.out (by kernel_rfl)) (fun _ _ _ h => h) (Or.inl ⟨by rfl, ?_⟩) hHeld ?_ ?_
                              rotate_left
                              · rintro w' ⟨s0, s1, s2, s3, s4, s5, s6, s7, s8, s9, s10, s11, s12, s13, s14, s15⟩
                                go_simp
                                with_reducible rfl
                              rotate_left
                              · simp only [Act.put, List.setIfInBounds_toArray, List.set_cons_zero, List.set_cons_succ, i64_w, i32_w]
                                rfl
                              refine one_ (i := 3) (N := some 107) #[true, true, true, true, false, false, false, false, false, false, false, false, false, false, false, false] rfl rfl (one_of HT_.out (by kernel_rfl)) (by decide) (fun K hK => ?_)
                              refine goes_ Tryd.func29 (by kernel_rfl) rfl #[.agg #[.int .i64 t485, .int .i64 t486, .int .i64 t487, .int .i64 t488, .int .i64 t489, .int .i64 t490, .int .i64 t491, .int .i64 t492], .int .i64 (Int.tmod (wrap64 (a3)) t491)] (by rfl) rfl rfl (by (try simp only [List.map_toArray, List.map_cons, List.map_nil]); rfl) ?_
                              with_reducible refine (capnpref08_Element.calls t485 t486 t487 t488 t489 t490 t491 t492 (Int.tmod (wrap64 (a3)) t491) t520 t521 t522 t523 t524 t525 t526 t527 _ A57.out).mono ?_
                              rintro e w98 ⟨rfl, hb⟩
                              refine ⟨_, rfl, ?_⟩
                              have n0_ := Aside0.mk (blk_below BK484.out hb)
                              have n1_ := Aside0.mk (blk_below BK494.out hb)
                              have n2_ := Aside0.mk (blk_below BK507.out hb)
                              have n3_ := Aside0.mk (below_step HB.out hb)
                              clear BK484
                              clear BK494
                              clear BK507
                              clear HB
                              have BK484 := n0_
                              have BK494 := n1_
                              have BK507 := n2_
                              have HB := n3_
                              clear n0_ n1_ n2_ n3_
                              (try clear hb)
                              (skip)
                              (skip)
                              (skip)
                              refine hK.out _ _ ⟨(blk_cell BK507.out 0).trans rfl, (blk_cell BK507.out 1).trans rfl, (blk_cell BK507.out 2).trans rfl, (blk_cell BK507.out 3).trans rfl, (blk_cell BK507.out 4).trans rfl, (blk_cell BK507.out 5).trans rfl, (blk_cell BK507.out 6).trans rfl, (blk_cell BK507.out 7).trans rfl, (blk_cell BK494.out 0).trans rfl, (blk_cell BK494.out 1).trans rfl, (blk_cell BK494.out 2).trans rfl, (blk_cell BK494.out 3).trans rfl, (blk_cell BK494.out 4).trans rfl, (blk_cell BK494.out 5).trans rfl, (blk_cell BK494.out 6).trans rfl, (blk_cell BK494.out 7).trans rfl⟩ (fun hHeld => ?_)
                              clear hK K
                              refine norm_ (a' := ?_) ?_ ?_
                              rotate_left
                              · show Act.put _ (some 107) _ = _
                                simp only [Act.put, List.setIfInBounds_toArray, List.set_cons_zero, List.set_cons_succ, i64_w, i32_w]
                                rfl
                              refine pure_ (i := 4) (N := some 108) (v := ?_) (a' := ?_) #[true, true, true, true, true, false, false, false, false, false, false, false, false, false, false, false] rfl rfl (any_of HT_.out (by kernel_rfl)) (fun _ _ _ h => h) (Or.inl ⟨by rfl, ?_⟩) ?_ ?_
                              rotate_left
                              · intro w'
                                go_simp
                                with_reducible rfl
                              rotate_left
                              · simp only [Act.put, List.setIfInBounds_toArray, List.set_cons_zero, List.set_cons_succ, i64_w, i32_w]
                                rfl
                              refine pure_ (i := 5) (N := some 109) (v := ?_) (a' := ?_) #[true, true, true, true, true, true, false, false, false, false, false, false, false, false, false, false] rfl rfl (any_of HT_.out (by kernel_rfl)) (fun _ _ _ h => h) (Or.inl ⟨by rfl, ?_⟩) ?_ ?_
                              rotate_left
                              · intro w'
                                go_simp
                                with_reducible rfl
                              rotate_left
                              · simp only [Act.put, List.setIfInBounds_toArray, List.set_cons_zero, List.set_cons_succ, i64_w, i32_w]
                                rfl
                              refine pure_ (i := 6) (N := some 110) (v := undef) (a' := ?_) #[true, true, true, true, true, true, true, false, false, false, false, false, false, false, false, false] rfl rfl (any_of HT_.out (by kernel_rfl)) (fun _ _ _ h => h) (Or.inr ⟨by rfl, rfl⟩) ?_ ?_
                              rotate_left
                              · simp only [Act.put, List.setIfInBounds_toArray, List.set_cons_zero, List.set_cons_succ, i64_w, i32_w]
                                rfl
                              refine pure_ (i := 7) (N := some 111) (v := undef) (a' := ?_) #[true, true, true, true, true, true, true, true, false, false, false, false, false, false, false, false] rfl rfl (any_of HT_.out (by kernel_rfl)) (fun _ _ _ h => h) (Or.inr ⟨by rfl, rfl⟩) ?_ ?_
                              rotate_left
                              · simp only [Act.put, List.setIfInBounds_toArray, List.set_cons_zero, List.set_cons_succ, i64_w, i32_w]
                                rfl
                              refine pure_ (i := 8) (N := some 112) (v := undef) (a' := ?_) #[true, true, true, true, true, true, true, true, true, false, false, false, false, false, false, false] rfl rfl (any_of HT_.out (by kernel_rfl)) (fun _ _ _ h => h) (Or.inr ⟨by rfl, rfl⟩) ?_ ?_
                              rotate_left
                              · simp only [Act.put, List.setIfInBounds_toArray, List.set_cons_zero, List.set_cons_succ, i64_w, i32_w]
                                rfl
                              refine pure_ (i := 9) (N := some 113) (v := ?_) (a' := ?_) #[true, true, true, true, true, true, true, true, true, true, false, false, false, false, false, false] rfl rfl (any_of HT_.out (by kernel_rfl)) (fun _ _ _ h => h) (Or.inl ⟨by rfl, ?_⟩) ?_ ?_
                              rotate_left
                              · intro w'
                                go_simp
                                with_reducible rfl
                              rotate_left
                              · simp only [Act.put, List.setIfInBounds_toArray, List.set_cons_zero, List.set_cons_succ, i64_w, i32_w]
                                rfl
                              refine pure_ (i := 10) (N := some 114) (v := ?_) (a' := ?_) #[true, true, true, true, true, true, true, true, true, true, true, false, false, false, false, false] rfl rfl (any_of HT_.out (by kernel_rfl)) (fun _ _ _ h => h) (Or.inl ⟨by rfl, ?_⟩) ?_ ?_
                              rotate_left
                              · intro w'
                                go_simp
                                with_reducible rfl
                              rotate_left
                              · simp only [Act.put, List.setIfInBounds_toArray, List.set_cons_zero, List.set_cons_succ, i64_w, i32_w]
                                rfl
                              refine pure_ (i := 11) (N := some 115) (v := undef) (a' := ?_) #[true, true, true, true, true, true, true, true, true, true, true, true, false, false, false, false] rfl rfl (any_of HT_.out (by kernel_rfl)) (fun _ _ _ h => h) (Or.inr ⟨by rfl, rfl⟩) ?_ ?_
                              rotate_left
                              · simp only [Act.put, List.setIfInBounds_toArray, List.set_cons_zero, List.set_cons_succ, i64_w, i32_w]
                                rfl
                              refine pure_ (i := 12) (N := some 116) (v := undef) (a' := ?_) #[true, true, true, true, true, true, true, true, true, true, true, true, true, false, false, false] rfl rfl (any_of HT_.out (by kernel_rfl)) (fun _ _ _ h => h) (Or.inr ⟨by rfl, rfl⟩) ?_ ?_
                              rotate_left
                              · simp only [Act.put, List.setIfInBounds_toArray, List.set_cons_zero, List.set_cons_succ, i64_w, i32_w]
                                rfl
                              refine pure_ (i := 13) (N := some 117) (v := undef) (a' := ?_) #[true, true, true, true, true, true, true, true, true, true, true, true, true, true, false, false] rfl rfl (any_of HT_.out (by kernel_rfl)) (fun _ _ _ h => h) (Or.inr ⟨by rfl, rfl⟩) ?_ ?_
                              rotate_left
                              · simp only [Act.put, List.setIfInBounds_toArray, List.set_cons_zero, List.set_cons_succ, i64_w, i32_w]
                                rfl
                              refine pure_ (i := 14) (N := some 118) (v := ?_) (a' := ?_) #[true, true, true, true, true, true, true, true, true, true, true, true, true, true, true, false] rfl rfl (any_of HT_.out (by kernel_rfl)) (fun _ _ _ h => h) (Or.inl ⟨by rfl, ?_⟩) ?_ ?_
                              rotate_left
                              · intro w'
                                go_simp
                                with_reducible rfl
                              rotate_left
                              · simp only [Act.put, List.setIfInBounds_toArray, List.set_cons_zero, List.set_cons_succ, i64_w, i32_w]
                                rfl
                              refine pure_ (i := 15) (N := some 8) (v := ?_) (a' := ?_) #[true, true, true, true, true, true, true, true, true, true, true, true, true, true, true, true] rfl rfl (any_of HT_.out (by kernel_rfl)) (fun _ _ _ h => h) (Or.inl ⟨by rfl, ?_⟩) ?_ ?_
                              rotate_left
                              · intro w'
                                go_simp
                                with_reducible rfl
                              rotate_left
                              · simp only [Act.put, List.setIfInBounds_toArray, List.set_cons_zero, List.set_cons_succ, i64_w, i32_w]
                                rfl
                              refine done_ (done_of HT_.out (by kernel_rfl)) ?_
                              try go_wp2
                              go_ret
                              exact ⟨by rfl, by repeat ((with_reducible exact HB.out))⟩

end Go.Proofs.YtcjhejopcghgnaaDoor.P

set_option linter.unusedVariables false
set_option linter.unusedSimpArgs false
namespace Go.Proofs.YtcjhejopcghgnaaDoor.P
open Go.RowKit Go.Proofs.YtcjhejopcghgnaaDoorW.PrintWords Go.Proofs.YtcjhejopcghgnaaDoorW.PrintLast Go.Proofs.YtcjhejopcghgnaaDoorW.PrintMore
theorem ResolveMatchesReference_pure (l : List (List Int)) (h : Segs l) (s : Int) (hs : -9223372036854775808 ≤ s ∧ s ≤ 9223372036854775807) (a : Int) (ha : -9223372036854775808 ≤ a ∧ a ≤ 9223372036854775807) (x : Int) (hx : 0 ≤ x ∧ x ≤ 65535) :
    ∃ k, capnplaw08_ResolveMatchesReference.f k l s a x = some true := by
  refine Has.ex (g := fun k => capnplaw08_ResolveMatchesReference.f k l s a x) ?_
  simp only [capnplaw08_ResolveMatchesReference.f]
  refine Has.bind awake8_has (Has.pos rfl (Has.bind (Few_has h) ?_))
  refine Has.step (fun k => by rw [capnplaw08_ResolveMatchesReference.j0]) ?_
  by_cases hf : Few l
  case neg =>
    rw [decide_eq_false hf]
    exact Has.pos rfl (Has.bind awake8_has (Has.some_ _))
  rw [decide_eq_true hf]
  refine Has.neg (by simp) ?_
  refine Has.bind (Object_has h hf.sm s a) (Has.bind (rObject_has h hf.sm s a) ?_)
  generalize obj l s a = t
  obtain ⟨k, s', st, d, q, e, n, c, r⟩ := t
  refine Has.neg (by simp) ?_
  refine Has.step (fun k => by rw [capnplaw08_ResolveMatchesReference.j1]) ?_
  refine Has.neg (by simp) ?_
  refine Has.bind (Pointers_has ..) (Has.bind (rPointers_has ..) ?_)
  refine Has.pos rfl ?_
  refine Has.step (fun k => by rw [capnplaw08_ResolveMatchesReference.j2]) ?_
  refine Has.neg (by simp) ?_
  by_cases h2 : k = 2
  case neg =>
    refine Has.neg h2 ?_
    refine Has.step (fun k => by rw [capnplaw08_ResolveMatchesReference.j3]) ?_
    exact Has.pos rfl (Has.some_ _)
  refine Has.pos h2 ?_
  by_cases h7 : e = 7
  case neg =>
    refine Has.neg h7 ?_
    refine Has.step (fun k => by rw [capnplaw08_ResolveMatchesReference.j3]) ?_
    exact Has.pos rfl (Has.some_ _)
  refine Has.pos h7 ?_
  refine Has.step (fun k => by rw [capnplaw08_ResolveMatchesReference.j3]) ?_
  by_cases hn : n = 0
  case pos => exact Has.pos (by simpa using hn) (Has.some_ _)
  refine Has.neg (by simpa using hn) (Has.neg hn ?_)
  simp only [resolve_Element.f, capnpref08_Element.f, Option.bind_some]
  refine Has.bind (Pointers_has ..) (Has.bind (rPointers_has ..) ?_)
  refine Has.pos (by simp) (Has.pos rfl ?_)
  exact (Has.some_ _).eq (by simp)
end Go.Proofs.YtcjhejopcghgnaaDoor.P

namespace Go.Proofs.YtcjhejopcghgnaaDoor.resolveMatchesReference
open Go.ChangeShapes Go.WideShapes Go.ChangeAt Go.RowKit Go.Proofs.YtcjhejopcghgnaaDoor.P Go.Proofs.YtcjhejopcghgnaaDoorW.PrintWords
open Go.ChangeMaps (open_string shut_string)
open Go.Proofs.YtcjhejopcghgnaaDoor.P
set_option linter.unusedVariables false
theorem own : ownKnob Tryd.prog.godebug = none := by kernel_rfl
theorem laidOut : laidOutB Tryd.prog = true := by kernel_rfl
theorem door_met (os : Os) (args : Array Value) : laidMetH Tryd.prog Rows.resolveMatchesReferenceRow.laid ((World.doorLaid Tryd.prog 600 os).forCall (fun _ _ => 0) ⟨#[], args, []⟩).memory :=
  laidMetH_of_parts3 (fuel := 8) (laidMet_of_run' 8 (by kernel_rfl) (by kernel_rfl)) (by kernel_rfl) (by kernel_rfl)
set_option maxRecDepth 100000 in
set_option maxHeartbeats 1000000 in
theorem reads (os : Os) {H : Type} (enc : TypeId × Value → H) : DataW.whole enc Tryd.prog ((World.doorLaid Tryd.prog 600 os).forCall (fun _ _ => 0) ⟨#[], #[.slice none 0 0, .int .i64 0, .int .i64 0, .int .u16 0], []⟩).memory Tryd.f7.params.toList Rows.resolveMatchesReferenceSpec.vars false (#[.slice none 0 0, .int .i64 0, .int .i64 0, .int .u16 0] : Array Value).toList 8 = some ([.nil, .lit (.int .i64 0), .lit (.int .i64 0), .lit (.int .u16 0)], [], []) := by kernel_rfl
set_option maxRecDepth 100000 in
set_option maxHeartbeats 1000000 in
theorem lifted (os : Os) (started : os.Started) (H : Type) (enc : TypeId × Value → H) (F : Stop.Interp) :
    ReturnsInHanded {} Tryd.checked os 7 .any ((OpenSpec.ofChange Rows.resolveMatchesReferenceSpec).preRow enc Tryd.prog Tryd.f7 Rows.resolveMatchesReferenceRow.domain false Rows.resolveMatchesReferenceRow.laid) (((OpenSpec.ofChange Rows.resolveMatchesReferenceSpec).at F).post enc Tryd.prog Tryd.f7 false true false false) := by
  refine returnsInHanded_of_row (C := Tryd.checked) (s := (OpenSpec.ofChange Rows.resolveMatchesReferenceSpec)) own started (by kernel_rfl) Tryd.func7
    (witness_row_atRef (enc := enc) (C := Tryd.checked) false (World.doorLaid Tryd.prog 600 os) #[.slice none 0 0, .int .i64 0, .int .i64 0, .int .u16 0] rfl (by kernel_rfl) (by kernel_rfl) (by kernel_rfl)
      (OpenSpec.preRow_of_cond 8 (reads os enc) (by kernel_rfl) (fun k hk => by cases hk) (by kernel_rfl) (door_met os _))) ?_
  intro W base args ds gs before hval0 hW _ hcond _ hL _ _
  have hval : ∀ (j : Nat) t v, Tryd.f7.params[j]? = some t → args[j]? = some v → Value.okWide Tryd.prog W .any base t v := hval0
  have hW' := hW
  obtain ⟨p, q, hA0, hV, rfl, hfz, hnd⟩ := hW
  have hA : DataW.TrodAll enc Tryd.prog W 0 (fun _ => true) true Tryd.f7.params.toList args.toList ds p := hA0
  rw [Tryd.params7] at hA hval
  obtain ⟨v0, vs0, d0, ds0, p0, q0, hargs, rfl, rfl, h0, r0⟩ := trodAll_cons hA
  obtain ⟨v1, vs1, d1, ds1, p1, q1, rfl, rfl, rfl, h1, r1⟩ := trodAll_cons r0
  obtain ⟨v2, vs2, d2, ds2, p2, q2, rfl, rfl, rfl, h2, r2⟩ := trodAll_cons r1
  obtain ⟨v3, vs3, d3, ds3, p3, q3, rfl, rfl, rfl, h3, r3⟩ := trodAll_cons r2
  obtain ⟨rfl, rfl, rfl⟩ := trodAll_nil r3
  obtain rfl : args = #[v0, v1, v2, v3] := by cases args; simp_all
  obtain ⟨rfl, rfl⟩ := trodVars_none hV
  have k0 := h0
  have lt0 : ∀ x ∈ p0, x.block < W.heap.size := by obtain ⟨m, hm⟩ := k0; exact DataW.trod_lt m _ _ _ hm
  obtain ⟨x0, y0, z0, rfl⟩ := okWide_slice Tryd.underlying22 (hval 0 22 v0 rfl rfl)
  obtain ⟨fuel0, hf0⟩ := h0
  obtain ⟨l0, ⟨A0, c0, hcs0, hl0, hr0⟩, s0⟩ := (Opens.slice Tryd.underlying22 (by kernel_rfl) (fun _ => (Opens.slice Tryd.underlying40 (by kernel_rfl) (fun _ => (OpensAt.int Tryd.underlying23)) _)) _ _ _ hf0 : ∃ a, (Kd.slice 40 _).K W a _ ∧ _)
  simp only [Value.cells, List.cons.injEq, Value.slice.injEq, and_true] at hcs0
  obtain ⟨rfl, rfl, rfl⟩ := hcs0
  have k1 := h1
  have lt1 : ∀ x ∈ p1, x.block < W.heap.size := by obtain ⟨m, hm⟩ := k1; exact DataW.trod_lt m _ _ _ hm
  obtain ⟨a1, rfl, _, _, w1⟩ := open_int Tryd.underlying3 (hval 1 3 v1 rfl rfl) h1
  have k2 := h2
  have lt2 : ∀ x ∈ p2, x.block < W.heap.size := by obtain ⟨m, hm⟩ := k2; exact DataW.trod_lt m _ _ _ hm
  obtain ⟨a2, rfl, _, _, w2⟩ := open_int Tryd.underlying3 (hval 2 3 v2 rfl rfl) h2
  have k3 := h3
  have lt3 : ∀ x ∈ p3, x.block < W.heap.size := by obtain ⟨m, hm⟩ := k3; exact DataW.trod_lt m _ _ _ hm
  obtain ⟨a3, rfl, _, _, w3⟩ := open_int Tryd.underlying35 (hval 3 35 v3 rfl rfl) h3
  have hG : Glob true W := ⟨dec_of_laid hL (by first | exact List.mem_cons_self | (exact List.mem_cons_of_mem _ List.mem_cons_self)), fun _ => bits_of_laid hL rfl⟩
  obtain ⟨k, hp⟩ := ResolveMatchesReference_pure l0 (plain_slice hr0 s0 (fun _ _ _ s k => by obtain ⟨_, _, rfl, _, hC⟩ := k; exact plain_slice hC s (fun _ _ _ s _ => bounds_u64 s.2))) a1 (bounds_i64 w1) a2 (bounds_i64 w2) a3 (bounds_u16 w3)
  refine (capnplaw08_ResolveMatchesReference.calls k _ _ l0 a1 a2 a3 true W hG hr0 hl0 hp).mono fun e W' ⟨he, bel⟩ => ?_
  subst he
  exact ⟨_, rfl, _, _, _, [], _, [], hW', trodAll_mk1 (shut_bool Tryd.underlying4 _), (trodAll_cons_mk (Below.trod laidOut (by kernel_rfl) (of_decide_eq_true (by kernel_rfl)) k0 bel lt0) (trodAll_cons_mk (Below.trod laidOut (by kernel_rfl) (of_decide_eq_true (by kernel_rfl)) k1 bel lt1) (trodAll_cons_mk (Below.trod laidOut (by kernel_rfl) (of_decide_eq_true (by kernel_rfl)) k2 bel lt2) (trodAll_cons_mk (Below.trod laidOut (by kernel_rfl) (of_decide_eq_true (by kernel_rfl)) k3 bel lt3) trodAll_mk0)))), rfl, bel.frame _, fun h => by cases h⟩
theorem over : Rows.resolveMatchesReferenceRow.holds Tryd.pinned (OpenSpec.ofChange Rows.resolveMatchesReferenceSpec) :=
  OpenClaim.holds_of_cond 7 Tryd.f7 rfl rfl rfl rfl rfl rfl rfl ⟨rfl, rfl, rfl, rfl, rfl⟩ rfl rfl rfl rfl rfl (by kernel_rfl) Tryd.func7 (by kernel_rfl)
    (of_decide_eq_true (by kernel_rfl)) (by unfold Func.isWrapper; first | (rw [if_pos (by decide +kernel)]; kernel_rfl) | (rw [if_neg (by decide +kernel)]; exact ⟨rfl, rfl⟩))
    (fun os started H enc _ F => by rw [OpenClaim.pre_eq_preRow]; exact lifted os started H enc F)
theorem card_holds : Rows.ResolveMatchesReferenceCardSaid :=
  Claim7.holds_tied_plain_at .later [] [.funcs, .data] true (true, "0407ccd01fd84b1ba019f912a12938fec7519b4bc3503758b1d06eee7da07cad") false
    over (fun _ h => by cases h) (by kernel_rfl) (fun _ h => by cases h) resolveMatchesReference_row_tie rfl ⟨rfl, rfl⟩ (by kernel_rfl) rfl
    (fun f fn hf hfn => by
      obtain rfl : f = 7 := Option.some.inj ((show Tryd.prog.funcNamed "capnp/capnplaw08.ResolveMatchesReference" = some 7 by kernel_rfl).symm.trans hf) |>.symm
      obtain rfl : fn = Tryd.f7 := (Option.some.inj (Tryd.func7.symm.trans hfn)).symm
      exact ⟨by kernel_rfl, fun j t ht => by
        rw [Tryd.params7] at ht
        have hm : t ∈ [22, 3, 3, 35] := by simpa using Array.mem_of_getElem? ht
        have hall : ([22, 3, 3, 35].all fun u => !Tryd.prog.wantsStandIn u) = true := by kernel_rfl
        exact (show Tryd.prog.wantsStandIn t = false by simpa using List.all_eq_true.1 hall t hm)⟩)
    (by kernel_rfl)
#print axioms card_holds
end Go.Proofs.YtcjhejopcghgnaaDoor.resolveMatchesReference
namespace Go.Proofs.YtcjhejopcghgnaaDoor
theorem resolveMatchesReference_holds : Go.Proofs.YtcjhejopcghgnaaDoor.Rows.ResolveMatchesReferenceCardSaid := resolveMatchesReference.card_holds
end Go.Proofs.YtcjhejopcghgnaaDoor
