/- This text proves that the law ResolveElements of the given program returns true on every input that its statement covers, as the statement says it. Its conditions are the statement's own. -/
import Derived.Test.YtcjhejopcghgnaaDoorBR81
import Derived.Test.YtcjhejopcghgnaaDoorBR82
import Derived.Test.YtcjhejopcghgnaaDoorBR83
import Derived.Test.YtcjhejopcghgnaaDoorRows
import Derived.Test.YtcjhejopcghgnaaDoorCards
import Derived.Test.YtcjhejopcghgnaaDoorTie
import Derived.WalkKit
import Derived.ProofKit
import Derived.OpenShut
import Derived.ChangeOld
import Derived.SizedLaws
import Derived.SevenTiedAt
import Derived.Deep.DeepHandedRow
import Derived.Deep.DeepWitnessRowRef
namespace Go.Proofs.YtcjhejopcghgnaaDoor.P
open Go.RowKit Go.Proofs.YtcjhejopcghgnaaDoorW.PrintWords Go.Proofs.YtcjhejopcghgnaaDoorW.PrintLast Go.Proofs.YtcjhejopcghgnaaDoorW.PrintMore
attribute [local go_sem] max2_int min2_int max_two min_two max_three min_three max_four min_four   -- for this text's walks alone
set_option linter.unusedVariables false
set_option linter.unusedSimpArgs false

variable {gb : Bool}
/-! ### capnplaw08_ResolveElements: function 11 -/
mutual
def capnplaw08_ResolveElements.j0 : Nat → List (List Int) → Int → Int → Bool → Option (Bool)
  | 0, _, _, _, _ => none
  | k + 1, x0, x1, x2, x20 => if x20 = true then ((capnplaw08_awake.f).bind fun t578 => (some t578)) else ((resolve_Object.f k x0 x1 x2).bind fun bt579 => (if bt579.2.2.2.2.2.2.2.2 = 0 then (if bt579.2.2.2.2.2.1 = 7 then (capnplaw08_ResolveElements.j1 k x0 (decide (bt579.2.2.2.2.2.2.1 > 2000)) bt579.1 bt579.2.1 bt579.2.2.1 bt579.2.2.2.1 bt579.2.2.2.2.1 bt579.2.2.2.2.2.1 bt579.2.2.2.2.2.2.1 bt579.2.2.2.2.2.2.2.1) else (capnplaw08_ResolveElements.j1 k x0 true bt579.1 bt579.2.1 bt579.2.2.1 bt579.2.2.2.1 bt579.2.2.2.2.1 bt579.2.2.2.2.2.1 bt579.2.2.2.2.2.2.1 bt579.2.2.2.2.2.2.2.1)) else (capnplaw08_ResolveElements.j1 k x0 true bt579.1 bt579.2.1 bt579.2.2.1 bt579.2.2.2.1 bt579.2.2.2.2.1 bt579.2.2.2.2.2.1 bt579.2.2.2.2.2.2.1 bt579.2.2.2.2.2.2.2.1)))
def capnplaw08_ResolveElements.j1 : Nat → List (List Int) → Bool → Int → Int → Int → Int → Int → Int → Int → Int → Option (Bool)
  | 0, _, _, _, _, _, _, _, _, _, _ => none
  | k + 1, x0, x40, x589000, x589001, x589002, x589003, x589004, x589005, x589006, x589007 => if x40 = true then (some true) else (capnplaw08_ResolveElements.l0 k x0 x589002 0 x589000 x589001 x589002 x589003 x589004 x589005 x589006 x589007)
def capnplaw08_ResolveElements.l0 : Nat → List (List Int) → Int → Int → Int → Int → Int → Int → Int → Int → Int → Int → Option (Bool)
  | 0, _, _, _, _, _, _, _, _, _, _, _ => none
  | k + 1, x0, x9, x10, x589000, x589001, x589002, x589003, x589004, x589005, x589006, x589007 => if x10 < x589006 then ((resolve_Element.f x589000 x589001 x589002 x589003 x589004 x589005 x589006 x589007 x10).bind fun bt589 => (if bt589.1 = 1 then (if bt589.2.1 = x589001 then (if bt589.2.2.1 = x9 then (if bt589.2.2.2.1 = x589003 then (if bt589.2.2.2.2.1 = x589004 then ((capnpref05_InBounds.f x0 bt589.2.1 bt589.2.2.1 (wrap64 (bt589.2.2.2.1 + bt589.2.2.2.2.1))).bind fun t598 => (capnplaw08_ResolveElements.j3 k x0 x9 x10 (!t598) x589000 x589001 x589002 x589003 x589004 x589005 x589006 x589007 bt589.1 bt589.2.1 bt589.2.2.1 bt589.2.2.2.1 bt589.2.2.2.2.1 bt589.2.2.2.2.2.1 bt589.2.2.2.2.2.2.1 bt589.2.2.2.2.2.2.2)) else (capnplaw08_ResolveElements.j3 k x0 x9 x10 true x589000 x589001 x589002 x589003 x589004 x589005 x589006 x589007 bt589.1 bt589.2.1 bt589.2.2.1 bt589.2.2.2.1 bt589.2.2.2.2.1 bt589.2.2.2.2.2.1 bt589.2.2.2.2.2.2.1 bt589.2.2.2.2.2.2.2)) else (capnplaw08_ResolveElements.j3 k x0 x9 x10 true x589000 x589001 x589002 x589003 x589004 x589005 x589006 x589007 bt589.1 bt589.2.1 bt589.2.2.1 bt589.2.2.2.1 bt589.2.2.2.2.1 bt589.2.2.2.2.2.1 bt589.2.2.2.2.2.2.1 bt589.2.2.2.2.2.2.2)) else (capnplaw08_ResolveElements.j3 k x0 x9 x10 true x589000 x589001 x589002 x589003 x589004 x589005 x589006 x589007 bt589.1 bt589.2.1 bt589.2.2.1 bt589.2.2.2.1 bt589.2.2.2.2.1 bt589.2.2.2.2.2.1 bt589.2.2.2.2.2.2.1 bt589.2.2.2.2.2.2.2)) else (capnplaw08_ResolveElements.j3 k x0 x9 x10 true x589000 x589001 x589002 x589003 x589004 x589005 x589006 x589007 bt589.1 bt589.2.1 bt589.2.2.1 bt589.2.2.2.1 bt589.2.2.2.2.1 bt589.2.2.2.2.2.1 bt589.2.2.2.2.2.2.1 bt589.2.2.2.2.2.2.2)) else (capnplaw08_ResolveElements.j3 k x0 x9 x10 true x589000 x589001 x589002 x589003 x589004 x589005 x589006 x589007 bt589.1 bt589.2.1 bt589.2.2.1 bt589.2.2.2.1 bt589.2.2.2.2.1 bt589.2.2.2.2.2.1 bt589.2.2.2.2.2.2.1 bt589.2.2.2.2.2.2.2))) else (some (decide ((wrap64 (x9 - x589002)) ≤ x589007)))
def capnplaw08_ResolveElements.j3 : Nat → List (List Int) → Int → Int → Bool → Int → Int → Int → Int → Int → Int → Int → Int → Int → Int → Int → Int → Int → Int → Int → Int → Option (Bool)
  | 0, _, _, _, _, _, _, _, _, _, _, _, _, _, _, _, _, _, _, _, _ => none
  | k + 1, x0, x9, x10, x95, x589000, x589001, x589002, x589003, x589004, x589005, x589006, x589007, x598000, x598001, x598002, x598003, x598004, x598005, x598006, x598007 => if x95 = true then (some false) else ((resolve_Pointers.f k x598000 x598001 x598002 x598003 x598004 x598005 x598006 x598007).bind fun bt599 => (if bt599.2 = x598004 then (if bt599.2 > 0 then (if bt599.1 = (wrap64 (x598002 + x598003)) then (capnplaw08_ResolveElements.l0 k x0 (wrap64 ((wrap64 (x9 + x598003)) + x598004)) (wrap64 (x10 + 1)) x589000 x589001 x589002 x589003 x589004 x589005 x589006 x589007) else (some false)) else (capnplaw08_ResolveElements.l0 k x0 (wrap64 ((wrap64 (x9 + x598003)) + x598004)) (wrap64 (x10 + 1)) x589000 x589001 x589002 x589003 x589004 x589005 x589006 x589007)) else (some false)))
end
def capnplaw08_ResolveElements.f (k : Nat) (l0 : List (List Int)) (a1 a2 : Int) : Option (Bool) := (capnplaw08_awake.f).bind fun t576 => (if t576 = true then ((capnpref04_Few.f k l0).bind fun t577 => (capnplaw08_ResolveElements.j0 k l0 a1 a2 (!t577))) else (capnplaw08_ResolveElements.j0 k l0 a1 a2 true))
theorem capnplaw08_ResolveElements.mono_l : ∀ k, (∀ y0 y1 y2 y3, LeO (capnplaw08_ResolveElements.j0 k y0 y1 y2 y3) (capnplaw08_ResolveElements.j0 (k + 1) y0 y1 y2 y3)) ∧ (∀ y0 y1 y2 y3 y4 y5 y6 y7 y8 y9, LeO (capnplaw08_ResolveElements.j1 k y0 y1 y2 y3 y4 y5 y6 y7 y8 y9) (capnplaw08_ResolveElements.j1 (k + 1) y0 y1 y2 y3 y4 y5 y6 y7 y8 y9)) ∧ (∀ y0 y1 y2 y3 y4 y5 y6 y7 y8 y9 y10, LeO (capnplaw08_ResolveElements.l0 k y0 y1 y2 y3 y4 y5 y6 y7 y8 y9 y10) (capnplaw08_ResolveElements.l0 (k + 1) y0 y1 y2 y3 y4 y5 y6 y7 y8 y9 y10)) ∧ (∀ y0 y1 y2 y3 y4 y5 y6 y7 y8 y9 y10 y11 y12 y13 y14 y15 y16 y17 y18 y19, LeO (capnplaw08_ResolveElements.j3 k y0 y1 y2 y3 y4 y5 y6 y7 y8 y9 y10 y11 y12 y13 y14 y15 y16 y17 y18 y19) (capnplaw08_ResolveElements.j3 (k + 1) y0 y1 y2 y3 y4 y5 y6 y7 y8 y9 y10 y11 y12 y13 y14 y15 y16 y17 y18 y19))
  | 0 => ⟨fun _ _ _ _ r h => by simp [capnplaw08_ResolveElements.j0] at h, fun _ _ _ _ _ _ _ _ _ _ r h => by simp [capnplaw08_ResolveElements.j1] at h, fun _ _ _ _ _ _ _ _ _ _ _ r h => by simp [capnplaw08_ResolveElements.l0] at h, fun _ _ _ _ _ _ _ _ _ _ _ _ _ _ _ _ _ _ _ _ r h => by simp [capnplaw08_ResolveElements.j3] at h⟩
  | k + 1 => by
    obtain ⟨ih0, ih1, ih2, ih3⟩ := capnplaw08_ResolveElements.mono_l k
    refine ⟨?_, ?_, ?_, ?_⟩
    · intro y0 y1 y2 y3
      unfold capnplaw08_ResolveElements.j0
      repeat' first
      | (with_reducible apply ih1)
      | (with_reducible apply resolve_Object.mono)
      | (with_reducible exact LeO.refl _)
      | (with_reducible refine LeO.ite ?_ ?_)
      | (with_reducible refine LeO.bind ?_ (fun _ => ?_))
    · intro y0 y1 y2 y3 y4 y5 y6 y7 y8 y9
      unfold capnplaw08_ResolveElements.j1
      repeat' first
      | (with_reducible apply ih2)
      | (with_reducible exact LeO.refl _)
      | (with_reducible refine LeO.ite ?_ ?_)
    · intro y0 y1 y2 y3 y4 y5 y6 y7 y8 y9 y10
      unfold capnplaw08_ResolveElements.l0
      repeat' first
      | (with_reducible apply ih3)
      | (with_reducible exact LeO.refl _)
      | (with_reducible refine LeO.ite ?_ ?_)
      | (with_reducible refine LeO.bind ?_ (fun _ => ?_))
    · intro y0 y1 y2 y3 y4 y5 y6 y7 y8 y9 y10 y11 y12 y13 y14 y15 y16 y17 y18 y19
      unfold capnplaw08_ResolveElements.j3
      repeat' first
      | (with_reducible apply ih2)
      | (with_reducible apply resolve_Pointers.mono)
      | (with_reducible exact LeO.refl _)
      | (with_reducible refine LeO.ite ?_ ?_)
      | (with_reducible refine LeO.bind ?_ (fun _ => ?_))
theorem capnplaw08_ResolveElements.mono : ∀ a0 a1 a2 k, LeO (capnplaw08_ResolveElements.f k a0 a1 a2) (capnplaw08_ResolveElements.f (k + 1) a0 a1 a2) := by
  intro a0 a1 a2 k
  obtain ⟨ih0, ih1, ih2, ih3⟩ := capnplaw08_ResolveElements.mono_l k
  unfold capnplaw08_ResolveElements.f
  repeat' first
      | (with_reducible apply ih0)
      | (with_reducible apply capnpref04_Few.mono)
      | (with_reducible exact LeO.refl _)
      | (with_reducible refine LeO.ite ?_ ?_)
      | (with_reducible refine LeO.bind ?_ (fun _ => ?_))
set_option maxHeartbeats 8000000 in
set_option maxRecDepth 100000 in
theorem capnplaw08_ResolveElements.calls (k : Nat) (A0 : Option Addr) (c0 : Nat) (l0 : List (List Int)) (a1 a2 : Int) (r : Bool) (w : World) (hG : Glob true w) (hr0 : Kd.C (Kd.slice 23 (Kd.int .u64)) w A0 l0.length l0) (hc0 : l0.length ≤ c0) (h : capnplaw08_ResolveElements.f k l0 a1 a2 = some r) :
    Calls Tryd.prog 11 #[.slice A0 l0.length c0, .int .i64 a1, .int .i64 a2] w fun e w' => e = .returned (.bool r) ∧ Below w.heap.size w w' := by
  have HG := Aside0.mk hG
  clear hG
  have HR0 := Aside0.mk hr0
  have HC0 := Aside0.mk hc0
  clear hr0 hc0
  have HB := Aside0.mk (Below.refl w.heap.size w)
  have H : ((capnplaw08_awake.f).bind fun t576 => (if t576 = true then ((capnpref04_Few.f k l0).bind fun t577 => (capnplaw08_ResolveElements.j0 k l0 a1 a2 (!t577))) else (capnplaw08_ResolveElements.j0 k l0 a1 a2 true))) = some r := h
  clear h
  have HC4 := Aside0.mk H
  clear H
  go_enter Tryd.func11, Tryd.ntmps11
  go_upto_region 1 with (fail)
  go_cut [20] (fun v20 wc => ∃ (kq : Nat) (x20_3 : Bool), v20 = .bool x20_3 ∧ Aside0 (capnplaw08_ResolveElements.j0 kq l0 a1 a2 x20_3 = some r) ∧ Aside0 (kq ≤ k) ∧ Aside0 (Below w.heap.size w wc))
  case first =>
    have H := HC4.out
    clear HC4
    replace H := Option.bind_eq_some_iff.mp H
    obtain ⟨t576, A50, H⟩ := H
    replace H : (if t576 = true then ((capnpref04_Few.f k l0).bind fun t577 => (capnplaw08_ResolveElements.j0 k l0 a1 a2 (!t577))) else (capnplaw08_ResolveElements.j0 k l0 a1 a2 true)) = some r := H
    have A5 := Aside0.mk A50
    clear A50
    by_cases c6 : t576 = true
    · subst c6
      have H1 : ((capnpref04_Few.f k l0).bind fun t577 => (capnplaw08_ResolveElements.j0 k l0 a1 a2 (!t577))) = some r := by rw [if_pos rfl] at H; exact H
      clear H
      have H := H1
      clear H1
      replace H := Option.bind_eq_some_iff.mp H
      obtain ⟨t577, A70, H⟩ := H
      replace H : (capnplaw08_ResolveElements.j0 k l0 a1 a2 (!t577)) = some r := H
      have A7 := Aside0.mk A70
      clear A70
      have H' := Aside0.mk H
      clear H
      go_wp2_with (first | ((with_reducible refine gate_callee (f := 23) rfl ?_); refine goesL_ (some 14) rfl rfl Tryd.func23 (by kernel_rfl) rfl #[] rfl (by (try simp only [List.map_toArray, List.map_cons, List.map_nil]); done) ?_; (with_reducible refine (capnplaw08_awake.calls  true _ ?side1 A5.out).mono ?_); (case side1 => exact Glob.below HG.out HB.out); rintro e w8 ⟨rfl, hb⟩; refine ⟨_, rfl, ?_⟩; replace HB := Aside0.mk (below_step HB.out hb); (try clear hb)) | (go_at_call 13; (with_reducible refine (capnpref04_Few.calls k _ _ l0 t577 _ ?side1 ?side2 A7.out).mono ?_); (case side1 => repeat ((exact (Kd.C_below HR0.out HB.out)))); (case side2 => exact HC0.out); rintro e w' ⟨rfl, ⟨nd, rfl⟩⟩))
      go_meet
      case rel => exact ⟨_, (!t577), (by rfl), H', ⟨by omega⟩, ⟨by repeat ((with_reducible first | exact HB.out | apply pw_below_drewN))⟩⟩
    · replace c6 := Bool.eq_false_iff.mpr c6
      subst c6
      have H1 : (capnplaw08_ResolveElements.j0 k l0 a1 a2 true) = some r := by rw [if_neg (show ¬ (false = true) by decide)] at H; exact H
      clear H
      have H := H1
      clear H1
      have H' := Aside0.mk H
      clear H
      go_wp2_with (((with_reducible refine gate_callee (f := 23) rfl ?_); refine goesL_ (some 14) rfl rfl Tryd.func23 (by kernel_rfl) rfl #[] rfl (by (try simp only [List.map_toArray, List.map_cons, List.map_nil]); done) ?_; (with_reducible refine (capnplaw08_awake.calls  false _ ?side1 A5.out).mono ?_); (case side1 => exact Glob.below HG.out HB.out); rintro e w9 ⟨rfl, hb⟩; refine ⟨_, rfl, ?_⟩; replace HB := Aside0.mk (below_step HB.out hb); (try clear hb)))
      go_meet
      case rel => exact ⟨_, (true), (by rfl), H', ⟨by omega⟩, ⟨by repeat ((with_reducible exact HB.out))⟩⟩
  case rest =>
    clear HC4
    skip
    skip
    skip
    skip
    obtain ⟨kq, x20_3, rfl, HA, HJ3, HB⟩ := hcut
    cases kq with
    | zero => exact absurd HA.out (by simp [capnplaw08_ResolveElements.j0])
    | succ kj3 =>
      have H := HA.out
      clear HA
      simp only [capnplaw08_ResolveElements.j0] at H
      by_cases c10 : x20_3 = true
      · subst c10
        have H1 : ((capnplaw08_awake.f).bind fun t578 => (some t578)) = some r := by rw [if_pos rfl] at H; exact H
        clear H
        have H := H1
        clear H1
        replace H := Option.bind_eq_some_iff.mp H
        obtain ⟨t578, A110, H⟩ := H
        replace H : (some t578) = some r := H
        have A11 := Aside0.mk A110
        clear A110
        obtain rfl := Option.some.inj H
        go_wp2_with (((with_reducible refine gate_callee (f := 23) rfl ?_); refine goesL_ (some 21) rfl rfl Tryd.func23 (by kernel_rfl) rfl #[] rfl (by (try simp only [List.map_toArray, List.map_cons, List.map_nil]); done) ?_; (with_reducible refine (capnplaw08_awake.calls  t578 _ ?side1 A11.out).mono ?_); (case side1 => exact Glob.below HG.out HB.out); rintro e w12 ⟨rfl, hb⟩; refine ⟨_, rfl, ?_⟩; replace HB := Aside0.mk (below_step HB.out hb); (try clear hb)))
        go_ret
        exact ⟨by rfl, by repeat ((with_reducible exact HB.out))⟩
      · replace c10 := Bool.eq_false_iff.mpr c10
        subst c10
        have H1 : ((resolve_Object.f kj3 l0 a1 a2).bind fun bt579 => (if bt579.2.2.2.2.2.2.2.2 = 0 then (if bt579.2.2.2.2.2.1 = 7 then (capnplaw08_ResolveElements.j1 kj3 l0 (decide (bt579.2.2.2.2.2.2.1 > 2000)) bt579.1 bt579.2.1 bt579.2.2.1 bt579.2.2.2.1 bt579.2.2.2.2.1 bt579.2.2.2.2.2.1 bt579.2.2.2.2.2.2.1 bt579.2.2.2.2.2.2.2.1) else (capnplaw08_ResolveElements.j1 kj3 l0 true bt579.1 bt579.2.1 bt579.2.2.1 bt579.2.2.2.1 bt579.2.2.2.2.1 bt579.2.2.2.2.2.1 bt579.2.2.2.2.2.2.1 bt579.2.2.2.2.2.2.2.1)) else (capnplaw08_ResolveElements.j1 kj3 l0 true bt579.1 bt579.2.1 bt579.2.2.1 bt579.2.2.2.1 bt579.2.2.2.2.1 bt579.2.2.2.2.2.1 bt579.2.2.2.2.2.2.1 bt579.2.2.2.2.2.2.2.1))) = some r := by rw [if_neg (show ¬ (false = true) by decide)] at H; exact H
        clear H
        have H := H1
        clear H1
        replace H := Option.bind_eq_some_iff.mp H
        obtain ⟨⟨t579, t580, t581, t582, t583, t584, t585, t586, t587⟩, A130, H⟩ := H
        dsimp only at H
        have A13 := Aside0.mk A130
        clear A130
        have HC14 := Aside0.mk H
        clear H
        go_upto_region 4 with (first | ((with_reducible refine gate_callee (f := 24) rfl ?_); refine goesL_ (some 26) rfl rfl Tryd.func24 (by kernel_rfl) rfl #[.slice A0 l0.length c0, .int .i64 a1, .int .i64 a2] rfl (by (try simp only [List.map_toArray, List.map_cons, List.map_nil]); rfl) ?_; (with_reducible refine (resolve_Object.calls kj3 _ _ l0 a1 a2 t579 t580 t581 t582 t583 t584 t585 t586 t587 _ ?side1 ?side2 ?side3 A13.out).mono ?_); (case side1 => exact Glob.below HG.out HB.out); (case side2 => repeat ((exact (Kd.C_below HR0.out HB.out)))); (case side3 => exact HC0.out); rintro e w15 ⟨rfl, hb⟩; refine ⟨_, rfl, ?_⟩; replace HB := Aside0.mk (below_step HB.out hb); (try clear hb)) | ((with_reducible refine gate_dst (N := 7) rfl ?_); refine box_event ?hg (N := 7) ?hd (cs := #[.int .i64 0, .int .i64 0, .int .i64 0, .int .i64 0, .int .i64 0, .int .i64 0, .int .i64 0, .int .i64 0]) (t := 46) ?hr ?_; (case hd => rfl); (case hg => rfl); (case hr => (go_simp; done)); intro gb588 hg w16 hbox hb; replace BK588 := Aside0.mk (hbox); replace GE588 := Aside0.mk (ge_of HB.out hg); replace HB := Aside0.mk (below_step HB.out hb); clear hb hbox hg; obtain ⟨hcz17_0, hcz17_1, hcz17_2, hcz17_3, hcz17_4, hcz17_5, hcz17_6, hcz17_7⟩ := cells8 BK588.out; obtain ⟨hfz17_0, hfz17_1, hfz17_2, hfz17_3, hfz17_4, hfz17_5, hfz17_6, hfz17_7⟩ := frz8 BK588.out))
        (skip)
        go_cut [40] (fun v40 wc => ∃ (kq : Nat) (x40_13 : Bool), v40 = .bool x40_13 ∧ Aside0 (capnplaw08_ResolveElements.j1 kq l0 x40_13 t579 t580 t581 t582 t583 t584 t585 t586 = some r) ∧ Aside0 (kq ≤ kj3) ∧ Aside0 (wc.heap[gb588]? = some (.cells #[.int .i64 t579, .int .i64 t580, .int .i64 t581, .int .i64 t582, .int .i64 t583, .int .i64 t584, .int .i64 t585, .int .i64 t586] 46 (0, 0))) ∧ Aside0 (Below w.heap.size w wc))
        case first =>
          have H := HC14.out
          clear HC14
          by_cases c18 : t587 = 0
          · rw [if_pos c18] at H
            have c18b1 : (t587 != 0) = false := bne_eq_false_iff_eq.mpr c18
            clear c18
            (skip)
            by_cases c19 : t584 = 7
            · rw [if_pos c19] at H
              have c19b1 : (t584 != 7) = false := bne_eq_false_iff_eq.mpr c19
              clear c19
              have H' := Aside0.mk H
              clear H
              go_wp2
              go_meet
              case rel => exact ⟨_, (decide (t585 > 2000)), (by rfl), H', ⟨by omega⟩, ⟨by exact put8 BK588.out⟩, ⟨by repeat ((with_reducible first | exact HB.out | refine below_set ?_ GE588.out))⟩⟩
            · rw [if_neg c19] at H
              have c19b1 : (t584 != 7) = true := bne_iff_ne.mpr c19
              have H' := Aside0.mk H
              clear H
              go_wp2
              go_meet
              case rel => exact ⟨_, (true), (by rfl), H', ⟨by omega⟩, ⟨by exact put8 BK588.out⟩, ⟨by repeat ((with_reducible first | exact HB.out | refine below_set ?_ GE588.out))⟩⟩
          · rw [if_neg c18] at H
            have c18b1 : (t587 != 0) = true := bne_iff_ne.mpr c18
            (skip)
            have H' := Aside0.mk H
            clear H
            go_wp2
            go_meet
            case rel => exact ⟨_, (true), (by rfl), H', ⟨by omega⟩, ⟨by exact put8 BK588.out⟩, ⟨by repeat ((with_reducible first | exact HB.out | refine below_set ?_ GE588.out))⟩⟩
        case rest =>
          clear HC14
          skip
          skip
          skip
          skip
          skip
          skip
          skip
          skip
          skip
          skip
          skip
          skip
          try clear hcz17_0
          try clear hcz17_1
          try clear hcz17_2
          try clear hcz17_3
          try clear hcz17_4
          try clear hcz17_5
          try clear hcz17_6
          try clear hcz17_7
          skip
          skip
          skip
          skip
          skip
          skip
          skip
          skip
          skip
          skip
          skip
          skip
          skip
          skip
          skip
          skip
          try clear hfz17_0
          try clear hfz17_1
          try clear hfz17_2
          try clear hfz17_3
          try clear hfz17_4
          try clear hfz17_5
          try clear hfz17_6
          try clear hfz17_7
          skip
          skip
          skip
          skip
          skip
          skip
          skip
          skip
          skip
          skip
          skip
          skip
          skip
          skip
          skip
          skip
          skip
          obtain ⟨kq, x40_13, rfl, HA, HJ13, BK588, HB⟩ := hcut
          cases kq with
          | zero => exact absurd HA.out (by simp [capnplaw08_ResolveElements.j1])
          | succ kj13 =>
            have H := HA.out
            clear HA
            simp only [capnplaw08_ResolveElements.j1] at H
            by_cases c22 : x40_13 = true
            · subst c22
              have H1 : (some true) = some r := by rw [if_pos rfl] at H; exact H
              clear H
              have H := H1
              clear H1
              obtain rfl := Option.some.inj H
              go_wp2
              go_ret
              exact ⟨by rfl, by repeat ((with_reducible exact HB.out))⟩
            · replace c22 := Bool.eq_false_iff.mpr c22
              subst c22
              have H1 : (capnplaw08_ResolveElements.l0 kj13 l0 t581 0 t579 t580 t581 t582 t583 t584 t585 t586) = some r := by rw [if_neg (show ¬ (false = true) by decide)] at H; exact H
              clear H
              have H := H1
              clear H1
              have H' := Aside0.mk H
              clear H
              have hcz23_2 : wc.cell? ⟨gb588, 2, none⟩ = some (.int .i64 t581) := (blk_cell BK588.out 2).trans rfl
              go_wp2
              go_loopg [9, 10] kj13 (fun kq v9 v10 w' => ∃ (x9_3 x10_3 : Int), v9 = .int .i64 x9_3 ∧ v10 = .int .i64 x10_3 ∧ Aside0 (capnplaw08_ResolveElements.l0 kq l0 x9_3 x10_3 t579 t580 t581 t582 t583 t584 t585 t586 = some r) ∧ Aside0 (kq ≤ kj13) ∧ Aside0 (w'.heap[gb588]? = some (.cells #[.int .i64 t579, .int .i64 t580, .int .i64 t581, .int .i64 t582, .int .i64 t583, .int .i64 t584, .int .i64 t585, .int .i64 t586] 46 (0, 0))) ∧ Aside0 (Below w.heap.size w w'))
              case atStart => exact ⟨(t581), (0), (by rfl), (by rfl), H', ⟨Nat.le_refl _⟩, ⟨by exact BK588.out⟩, ⟨by repeat ((with_reducible exact HB.out))⟩⟩
              case round =>
                clear H'
                skip
                skip
                skip
                skip
                skip
                skip
                skip
                skip
                skip
                skip
                skip
                skip
                skip
                skip
                skip
                skip
                skip
                skip
                skip
                skip
                skip
                skip
                skip
                skip
                skip
                skip
                skip
                skip
                skip
                skip
                skip
                skip
                skip
                skip
                skip
                skip
                skip
                skip
                try clear hcz23_0
                try clear hcz23_1
                try clear hcz23_2
                try clear hcz23_3
                try clear hcz23_4
                try clear hcz23_5
                try clear hcz23_6
                try clear hcz23_7
                skip
                skip
                skip
                skip
                skip
                skip
                skip
                skip
                skip
                skip
                skip
                skip
                skip
                skip
                skip
                skip
                skip
                skip
                skip
                skip
                skip
                skip
                skip
                skip
                try clear hfz23_0
                try clear hfz23_1
                try clear hfz23_2
                try clear hfz23_3
                try clear hfz23_4
                try clear hfz23_5
                try clear hfz23_6
                try clear hfz23_7
                skip
                obtain ⟨x9_3, x10_3, rfl, rfl, HA, HK3, BK588, HB⟩ := hrel
                cases gk with
                | zero => exact absurd HA.out (by simp [capnplaw08_ResolveElements.l0])
                | succ k3 =>
                  have H := HA.out
                  clear HA
                  simp only [capnplaw08_ResolveElements.l0] at H
                  by_cases c24 : x10_3 < t585
                  · rw [if_pos c24] at H
                    have c24b0 : decide (x10_3 < t585) = true := decide_eq_true c24
                    clear c24
                    replace H := Option.bind_eq_some_iff.mp H
                    obtain ⟨⟨t589, t590, t591, t592, t593, t594, t595, t596⟩, A250, H⟩ := H
                    dsimp only at H
                    have A25 := Aside0.mk A250
                    clear A250
                    have HC26 := Aside0.mk H
                    clear H
                    obtain ⟨hcz27_0, hcz27_1, hcz27_2, hcz27_3, hcz27_4, hcz27_5, hcz27_6, hcz27_7⟩ := cells8 BK588.out
                    go_upto_region 11 with (first | ((with_reducible refine gate_callee (f := 28) rfl ?_); refine goesL_ (some 51) rfl rfl Tryd.func28 (by kernel_rfl) rfl #[.agg #[.int .i64 t579, .int .i64 t580, .int .i64 t581, .int .i64 t582, .int .i64 t583, .int .i64 t584, .int .i64 t585, .int .i64 t586], .int .i64 x10_3] rfl (by (try simp only [List.map_toArray, List.map_cons, List.map_nil]); rfl) ?_; (with_reducible refine (resolve_Element.calls t579 t580 t581 t582 t583 t584 t585 t586 x10_3 t589 t590 t591 t592 t593 t594 t595 t596 _ A25.out).mono ?_); rintro e w28 ⟨rfl, hb⟩; refine ⟨_, rfl, ?_⟩; replace BK588 := Aside0.mk (blk_below BK588.out hb); replace HB := Aside0.mk (below_step HB.out hb); (try clear hb)) | ((with_reducible refine gate_dst (N := 11) rfl ?_); refine box_event ?hg (N := 11) ?hd (cs := #[.int .i64 0, .int .i64 0, .int .i64 0, .int .i64 0, .int .i64 0, .int .i64 0, .int .i64 0, .int .i64 0]) (t := 46) ?hr ?_; (case hd => rfl); (case hg => rfl); (case hr => (go_simp; done)); intro gb597 hg w29 hbox hb; replace BK597 := Aside0.mk (hbox); replace GE597 := Aside0.mk (ge_of HB.out hg); replace HB := Aside0.mk (below_step HB.out hb); replace NB588_597 := Aside0.mk (ne_l BK588.out hg); replace BK588 := Aside0.mk (blk_below BK588.out hb); clear hb hbox hg; obtain ⟨hcz31_0, hcz31_1, hcz31_2, hcz31_3, hcz31_4, hcz31_5, hcz31_6, hcz31_7⟩ := cells8 BK597.out; obtain ⟨hfz31_0, hfz31_1, hfz31_2, hfz31_3, hfz31_4, hfz31_5, hfz31_6, hfz31_7⟩ := frz8 BK597.out))
                    (skip)
                    go_cut [95] (fun v95 wc => ∃ (kq : Nat) (x95_25 : Bool), v95 = .bool x95_25 ∧ Aside0 (capnplaw08_ResolveElements.j3 kq l0 x9_3 x10_3 x95_25 t579 t580 t581 t582 t583 t584 t585 t586 t589 t590 t591 t592 t593 t594 t595 t596 = some r) ∧ Aside0 (kq ≤ k3) ∧ Aside0 (wc.heap[gb588]? = some (.cells #[.int .i64 t579, .int .i64 t580, .int .i64 t581, .int .i64 t582, .int .i64 t583, .int .i64 t584, .int .i64 t585, .int .i64 t586] 46 (0, 0))) ∧ Aside0 (wc.heap[gb597]? = some (.cells #[.int .i64 t589, .int .i64 t590, .int .i64 t591, .int .i64 t592, .int .i64 t593, .int .i64 t594, .int .i64 t595, .int .i64 t596] 46 (0, 0))) ∧ Aside0 (Below w.heap.size w wc))
                    case first =>
                      have H := HC26.out
                      clear HC26
                      by_cases c32 : t589 = 1
                      · rw [if_pos c32] at H
                        have c32b1 : (t589 != 1) = false := bne_eq_false_iff_eq.mpr c32
                        clear c32
                        (skip)
                        by_cases c33 : t590 = t580
                        · rw [if_pos c33] at H
                          have c33b1 : (t590 != t580) = false := bne_eq_false_iff_eq.mpr c33
                          clear c33
                          by_cases c34 : t591 = x9_3
                          · rw [if_pos c34] at H
                            have c34b1 : (t591 != x9_3) = false := bne_eq_false_iff_eq.mpr c34
                            clear c34
                            by_cases c35 : t592 = t582
                            · rw [if_pos c35] at H
                              have c35b1 : (t592 != t582) = false := bne_eq_false_iff_eq.mpr c35
                              clear c35
                              by_cases c36 : t593 = t583
                              · rw [if_pos c36] at H
                                have c36b1 : (t593 != t583) = false := bne_eq_false_iff_eq.mpr c36
                                clear c36
                                replace H := Option.bind_eq_some_iff.mp H
                                obtain ⟨t598, A370, H⟩ := H
                                replace H : (capnplaw08_ResolveElements.j3 k3 l0 x9_3 x10_3 (!t598) t579 t580 t581 t582 t583 t584 t585 t586 t589 t590 t591 t592 t593 t594 t595 t596) = some r := H
                                have A37 := Aside0.mk A370
                                clear A370
                                have H' := Aside0.mk H
                                clear H
                                have hnc38 := NB588_597.out
                                obtain ⟨-, hcz40_1, -, hcz40_3, hcz40_4, -, -, -⟩ := cells8 BK588.out
                                go_wp2_with ((go_at_call 30; (with_reducible refine (capnpref05_InBounds.calls _ _ l0 t590 t591 (wrap64 (t592 + t593)) t598 _ ?side1 ?side2 A37.out).mono ?_); (case side1 => exact Kd.C_below HR0.out (by repeat ((with_reducible first | exact HB.out | refine below_set ?_ GE597.out)))); (case side2 => exact HC0.out); rintro e w' ⟨rfl, ⟨nd, rfl⟩⟩))
                                go_meet
                                case rel => exact ⟨_, (!t598), (by rfl), H', ⟨by omega⟩, ⟨by (with_reducible repeat ((refine blk_drewN ?_ _))); (iterate 8 refine blk_far ?_ NB588_597.out _); exact BK588.out⟩, ⟨by (with_reducible repeat ((refine blk_drewN ?_ _))); exact put8 BK597.out⟩, ⟨by repeat ((with_reducible first | exact HB.out | apply pw_below_drewN | refine below_set ?_ GE597.out))⟩⟩
                              · rw [if_neg c36] at H
                                have c36b1 : (t593 != t583) = true := bne_iff_ne.mpr c36
                                have H' := Aside0.mk H
                                clear H
                                have hnc41 := NB588_597.out
                                obtain ⟨-, hcz43_1, -, hcz43_3, hcz43_4, -, -, -⟩ := cells8 BK588.out
                                go_wp2
                                go_meet
                                case rel => exact ⟨_, (true), (by rfl), H', ⟨by omega⟩, ⟨by (iterate 8 refine blk_far ?_ NB588_597.out _); exact BK588.out⟩, ⟨by exact put8 BK597.out⟩, ⟨by repeat ((with_reducible first | exact HB.out | refine below_set ?_ GE597.out))⟩⟩
                            · rw [if_neg c35] at H
                              have c35b1 : (t592 != t582) = true := bne_iff_ne.mpr c35
                              have H' := Aside0.mk H
                              clear H
                              have hnc44 := NB588_597.out
                              obtain ⟨-, hcz46_1, -, hcz46_3, -, -, -, -⟩ := cells8 BK588.out
                              go_wp2
                              go_meet
                              case rel => exact ⟨_, (true), (by rfl), H', ⟨by omega⟩, ⟨by (iterate 8 refine blk_far ?_ NB588_597.out _); exact BK588.out⟩, ⟨by exact put8 BK597.out⟩, ⟨by repeat ((with_reducible first | exact HB.out | refine below_set ?_ GE597.out))⟩⟩
                          · rw [if_neg c34] at H
                            have c34b1 : (t591 != x9_3) = true := bne_iff_ne.mpr c34
                            have H' := Aside0.mk H
                            clear H
                            have hnc47 := NB588_597.out
                            have hcz49_1 : w29.cell? ⟨gb588, 1, none⟩ = some (.int .i64 t580) := (blk_cell BK588.out 1).trans rfl
                            go_wp2
                            go_meet
                            case rel => exact ⟨_, (true), (by rfl), H', ⟨by omega⟩, ⟨by (iterate 8 refine blk_far ?_ NB588_597.out _); exact BK588.out⟩, ⟨by exact put8 BK597.out⟩, ⟨by repeat ((with_reducible first | exact HB.out | refine below_set ?_ GE597.out))⟩⟩
                        · rw [if_neg c33] at H
                          have c33b1 : (t590 != t580) = true := bne_iff_ne.mpr c33
                          have H' := Aside0.mk H
                          clear H
                          have hnc50 := NB588_597.out
                          have hcz52_1 : w29.cell? ⟨gb588, 1, none⟩ = some (.int .i64 t580) := (blk_cell BK588.out 1).trans rfl
                          go_wp2
                          go_meet
                          case rel => exact ⟨_, (true), (by rfl), H', ⟨by omega⟩, ⟨by (iterate 8 refine blk_far ?_ NB588_597.out _); exact BK588.out⟩, ⟨by exact put8 BK597.out⟩, ⟨by repeat ((with_reducible first | exact HB.out | refine below_set ?_ GE597.out))⟩⟩
                      · rw [if_neg c32] at H
                        have c32b1 : (t589 != 1) = true := bne_iff_ne.mpr c32
                        (skip)
                        have H' := Aside0.mk H
                        clear H
                        go_wp2
                        go_meet
                        case rel => exact ⟨_, (true), (by rfl), H', ⟨by omega⟩, ⟨by (iterate 8 refine blk_far ?_ NB588_597.out _); exact BK588.out⟩, ⟨by exact put8 BK597.out⟩, ⟨by repeat ((with_reducible first | exact HB.out | refine below_set ?_ GE597.out))⟩⟩
                    case rest =>
                      clear HC26
                      skip
                      skip
                      skip
                      skip
                      skip
                      skip
                      skip
                      skip
                      skip
                      skip
                      skip
                      skip
                      skip
                      skip
                      skip
                      skip
                      skip
                      skip
                      skip
                      try clear c24b0
                      skip
                      skip
                      skip
                      skip
                      skip
                      skip
                      skip
                      skip
                      skip
                      skip
                      skip
                      skip
                      skip
                      skip
                      skip
                      skip
                      skip
                      skip
                      skip
                      skip
                      skip
                      skip
                      skip
                      skip
                      skip
                      skip
                      skip
                      skip
                      skip
                      skip
                      skip
                      skip
                      skip
                      skip
                      skip
                      skip
                      skip
                      skip
                      skip
                      skip
                      skip
                      skip
                      skip
                      skip
                      skip
                      skip
                      skip
                      skip
                      skip
                      skip
                      skip
                      skip
                      skip
                      skip
                      skip
                      try clear hcz27_0
                      try clear hcz27_1
                      try clear hcz27_2
                      try clear hcz27_3
                      try clear hcz27_4
                      try clear hcz27_5
                      try clear hcz27_6
                      try clear hcz27_7
                      try clear hcz31_0
                      try clear hcz31_1
                      try clear hcz31_2
                      try clear hcz31_3
                      try clear hcz31_4
                      try clear hcz31_5
                      try clear hcz31_6
                      try clear hcz31_7
                      skip
                      skip
                      skip
                      skip
                      skip
                      skip
                      skip
                      skip
                      skip
                      skip
                      skip
                      skip
                      skip
                      skip
                      skip
                      skip
                      skip
                      skip
                      skip
                      skip
                      skip
                      skip
                      skip
                      skip
                      skip
                      skip
                      skip
                      skip
                      skip
                      skip
                      skip
                      skip
                      skip
                      skip
                      skip
                      skip
                      skip
                      skip
                      skip
                      skip
                      skip
                      skip
                      skip
                      skip
                      skip
                      skip
                      skip
                      skip
                      skip
                      skip
                      skip
                      skip
                      skip
                      skip
                      skip
                      skip
                      skip
                      skip
                      skip
                      skip
                      skip
                      skip
                      skip
                      skip
                      skip
                      skip
                      skip
                      skip
                      skip
                      skip
                      skip
                      skip
                      skip
                      skip
                      skip
                      skip
                      skip
                      skip
                      skip
                      skip
                      skip
                      skip
                      skip
                      skip
                      skip
                      skip
                      skip
                      skip
                      skip
                      skip
                      skip
                      skip
                      skip
                      skip
                      skip
                      skip
                      skip
                      skip
                      skip
                      skip
                      skip
                      skip
                      skip
                      skip
                      skip
                      skip
                      skip
                      skip
                      skip
                      skip
                      skip
                      skip
                      skip
                      skip
                      skip
                      skip
                      skip
                      skip
                      skip
                      skip
                      try clear hfz27_0
                      try clear hfz27_1
                      try clear hfz27_2
                      try clear hfz27_3
                      try clear hfz27_4
                      try clear hfz27_5
                      try clear hfz27_6
                      try clear hfz27_7
                      try clear hfz31_0
                      try clear hfz31_1
                      try clear hfz31_2
                      try clear hfz31_3
                      try clear hfz31_4
                      try clear hfz31_5
                      try clear hfz31_6
                      try clear hfz31_7
                      skip
                      skip
                      skip
                      skip
                      skip
                      skip
                      skip
                      skip
                      skip
                      skip
                      skip
                      skip
                      skip
                      skip
                      skip
                      skip
                      skip
                      skip
                      skip
                      skip
                      skip
                      skip
                      skip
                      skip
                      skip
                      skip
                      skip
                      skip
                      skip
                      skip
                      skip
                      skip
                      skip
                      skip
                      skip
                      skip
                      skip
                      skip
                      skip
                      skip
                      skip
                      skip
                      skip
                      skip
                      skip
                      skip
                      skip
                      skip
                      skip
                      skip
                      skip
                      skip
                      skip
                      skip
                      skip
                      skip
                      skip
                      skip
                      skip
                      skip
                      skip
                      skip
                      skip
                      skip
                      skip
                      skip
                      skip
                      skip
                      skip
                      skip
                      skip
                      skip
                      skip
                      skip
                      skip
                      skip
                      skip
                      skip
                      skip
                      skip
                      skip
                      skip
                      skip
                      skip
                      skip
                      skip
                      skip
                      skip
                      skip
                      obtain ⟨kq, x95_25, rfl, HA, HJ25, BK588, BK597, HB⟩ := hcut
                      cases kq with
                      | zero => exact absurd HA.out (by simp [capnplaw08_ResolveElements.j3])
                      | succ kj25 =>
                        have H := HA.out
                        clear HA
                        simp only [capnplaw08_ResolveElements.j3] at H
                        by_cases c55 : x95_25 = true
                        · subst c55
                          have H1 : (some false) = some r := by rw [if_pos rfl] at H; exact H
                          clear H
                          have H := H1
                          clear H1
                          obtain rfl := Option.some.inj H
                          go_wp2
                          go_ret
                          exact ⟨by rfl, by repeat ((with_reducible exact HB.out))⟩
                        · replace c55 := Bool.eq_false_iff.mpr c55
                          subst c55
                          have H1 : ((resolve_Pointers.f kj25 t589 t590 t591 t592 t593 t594 t595 t596).bind fun bt599 => (if bt599.2 = t593 then (if bt599.2 > 0 then (if bt599.1 = (wrap64 (t591 + t592)) then (capnplaw08_ResolveElements.l0 kj25 l0 (wrap64 ((wrap64 (x9_3 + t592)) + t593)) (wrap64 (x10_3 + 1)) t579 t580 t581 t582 t583 t584 t585 t586) else (some false)) else (capnplaw08_ResolveElements.l0 kj25 l0 (wrap64 ((wrap64 (x9_3 + t592)) + t593)) (wrap64 (x10_3 + 1)) t579 t580 t581 t582 t583 t584 t585 t586)) else (some false))) = some r := by rw [if_neg (show ¬ (false = true) by decide)] at H; exact H
                          clear H
                          have H := H1
                          clear H1
                          replace H := Option.bind_eq_some_iff.mp H
                          obtain ⟨⟨t599, t600⟩, A560, H⟩ := H
                          dsimp only at H
                          have A56 := Aside0.mk A560
                          clear A560
                          by_cases c57 : t600 = t593
                          · rw [if_pos c57] at H
                            have c57b1 : (t600 != t593) = false := bne_eq_false_iff_eq.mpr c57
                            clear c57
                            by_cases c58 : t600 > 0
                            · rw [if_pos c58] at H
                              have c58b0 : decide (0 < t600) = true := decide_eq_true c58
                              clear c58
                              by_cases c59 : t599 = (wrap64 (t591 + t592))
                              · rw [if_pos c59] at H
                                have c59b1 : (t599 != (wrap64 (t591 + t592))) = false := bne_eq_false_iff_eq.mpr c59
                                clear c59
                                have H' := Aside0.mk H
                                clear H
                                obtain ⟨hcz61_0, hcz61_1, hcz61_2, hcz61_3, hcz61_4, hcz61_5, hcz61_6, hcz61_7⟩ := cells8 BK597.out
                                go_wp2_with (((with_reducible refine gate_callee (f := 26) rfl ?_); refine goesL_ (some 98) rfl rfl Tryd.func26 (by kernel_rfl) rfl #[.agg #[.int .i64 t589, .int .i64 t590, .int .i64 t591, .int .i64 t592, .int .i64 t593, .int .i64 t594, .int .i64 t595, .int .i64 t596]] rfl (by (try simp only [List.map_toArray, List.map_cons, List.map_nil]); rfl) ?_; (with_reducible refine (resolve_Pointers.calls kj25 t589 t590 t591 t592 t593 t594 t595 t596 t599 t600 _ A56.out).mono ?_); rintro e w62 ⟨rfl, hb⟩; refine ⟨_, rfl, ?_⟩; replace BK588 := Aside0.mk (blk_below BK588.out hb); replace BK597 := Aside0.mk (blk_below BK597.out hb); replace HB := Aside0.mk (below_step HB.out hb); (try clear hb); obtain ⟨-, -, hcz63_2, hcz63_3, hcz63_4, -, -, -⟩ := cells8 BK597.out))
                                go_roundg kj25
                                case measure => have := HJ25.out; omega
                                case rel => exact ⟨(wrap64 ((wrap64 (x9_3 + t592)) + t593)), (wrap64 (x10_3 + 1)), (by rfl), (by rfl), H', ⟨by have := HK3.out; have := HJ25.out; omega⟩, ⟨by exact BK588.out⟩, ⟨by repeat ((with_reducible exact HB.out))⟩⟩
                              · rw [if_neg c59] at H
                                have c59b1 : (t599 != (wrap64 (t591 + t592))) = true := bne_iff_ne.mpr c59
                                obtain rfl := Option.some.inj H
                                obtain ⟨hcz65_0, hcz65_1, hcz65_2, hcz65_3, hcz65_4, hcz65_5, hcz65_6, hcz65_7⟩ := cells8 BK597.out
                                go_wp2_with (((with_reducible refine gate_callee (f := 26) rfl ?_); refine goesL_ (some 98) rfl rfl Tryd.func26 (by kernel_rfl) rfl #[.agg #[.int .i64 t589, .int .i64 t590, .int .i64 t591, .int .i64 t592, .int .i64 t593, .int .i64 t594, .int .i64 t595, .int .i64 t596]] rfl (by (try simp only [List.map_toArray, List.map_cons, List.map_nil]); rfl) ?_; (with_reducible refine (resolve_Pointers.calls kj25 t589 t590 t591 t592 t593 t594 t595 t596 t599 t600 _ A56.out).mono ?_); rintro e w66 ⟨rfl, hb⟩; refine ⟨_, rfl, ?_⟩; replace BK597 := Aside0.mk (blk_below BK597.out hb); replace HB := Aside0.mk (below_step HB.out hb); (try clear BK588); (try clear hb); obtain ⟨-, -, hcz67_2, hcz67_3, hcz67_4, -, -, -⟩ := cells8 BK597.out))
                                go_ret
                                exact ⟨by rfl, by repeat ((with_reducible exact HB.out))⟩
                            · rw [if_neg c58] at H
                              have c58b0 : decide (0 < t600) = false := decide_eq_false c58
                              clear c58
                              have H' := Aside0.mk H
                              clear H
                              obtain ⟨hcz69_0, hcz69_1, hcz69_2, hcz69_3, hcz69_4, hcz69_5, hcz69_6, hcz69_7⟩ := cells8 BK597.out
                              go_wp2_with (((with_reducible refine gate_callee (f := 26) rfl ?_); refine goesL_ (some 98) rfl rfl Tryd.func26 (by kernel_rfl) rfl #[.agg #[.int .i64 t589, .int .i64 t590, .int .i64 t591, .int .i64 t592, .int .i64 t593, .int .i64 t594, .int .i64 t595, .int .i64 t596]] rfl (by (try simp only [List.map_toArray, List.map_cons, List.map_nil]); rfl) ?_; (with_reducible refine (resolve_Pointers.calls kj25 t589 t590 t591 t592 t593 t594 t595 t596 t599 t600 _ A56.out).mono ?_); rintro e w70 ⟨rfl, hb⟩; refine ⟨_, rfl, ?_⟩; replace BK588 := Aside0.mk (blk_below BK588.out hb); replace BK597 := Aside0.mk (blk_below BK597.out hb); replace HB := Aside0.mk (below_step HB.out hb); (try clear hb); obtain ⟨-, -, -, hcz71_3, hcz71_4, -, -, -⟩ := cells8 BK597.out))
                              go_roundg kj25
                              case measure => have := HJ25.out; omega
                              case rel => exact ⟨(wrap64 ((wrap64 (x9_3 + t592)) + t593)), (wrap64 (x10_3 + 1)), (by rfl), (by rfl), H', ⟨by have := HK3.out; have := HJ25.out; omega⟩, ⟨by exact BK588.out⟩, ⟨by repeat ((with_reducible exact HB.out))⟩⟩
                          · rw [if_neg c57] at H
                            have c57b1 : (t600 != t593) = true := bne_iff_ne.mpr c57
                            obtain rfl := Option.some.inj H
                            obtain ⟨hcz73_0, hcz73_1, hcz73_2, hcz73_3, hcz73_4, hcz73_5, hcz73_6, hcz73_7⟩ := cells8 BK597.out
                            go_wp2_with (((with_reducible refine gate_callee (f := 26) rfl ?_); refine goesL_ (some 98) rfl rfl Tryd.func26 (by kernel_rfl) rfl #[.agg #[.int .i64 t589, .int .i64 t590, .int .i64 t591, .int .i64 t592, .int .i64 t593, .int .i64 t594, .int .i64 t595, .int .i64 t596]] rfl (by (try simp only [List.map_toArray, List.map_cons, List.map_nil]); rfl) ?_; (with_reducible refine (resolve_Pointers.calls kj25 t589 t590 t591 t592 t593 t594 t595 t596 t599 t600 _ A56.out).mono ?_); rintro e w74 ⟨rfl, hb⟩; refine ⟨_, rfl, ?_⟩; replace BK597 := Aside0.mk (blk_below BK597.out hb); replace HB := Aside0.mk (below_step HB.out hb); (try clear BK588); (try clear hb); have hcz75_4 : w74.cell? ⟨gb597, 4, none⟩ = some (.int .i64 t593) := (blk_cell BK597.out 4).trans rfl))
                            go_ret
                            exact ⟨by rfl, by repeat ((with_reducible exact HB.out))⟩
                  · rw [if_neg c24] at H
                    have c24b0 : decide (x10_3 < t585) = false := decide_eq_false c24
                    clear c24
                    obtain rfl := Option.some.inj H
                    obtain ⟨-, -, hcz76_2, -, -, -, hcz76_6, hcz76_7⟩ := cells8 BK588.out
                    go_wp2
                    go_ret
                    exact ⟨by rfl, by repeat ((with_reducible exact HB.out))⟩

end Go.Proofs.YtcjhejopcghgnaaDoor.P

set_option linter.unusedVariables false
set_option linter.unusedSimpArgs false
namespace Go.Proofs.YtcjhejopcghgnaaDoor.P
open Go.RowKit Go.Proofs.YtcjhejopcghgnaaDoorW.PrintWords Go.Proofs.YtcjhejopcghgnaaDoorW.PrintLast Go.Proofs.YtcjhejopcghgnaaDoorW.PrintMore
theorem elements_loop {l : List (List Int)} (h : Segs l) {s' st d q n c z : Int} (hi : inB l s' (st - 1) (c + 1)) (hst : 0 ≤ st - 1 ∧ st - 1 ≤ 1099511627776) (h1 : 0 ≤ d) (h2 : 0 ≤ q) (h3 : d + q ≤ 131070) (h4 : 0 ≤ n) (h5 : n ≤ 536870911) (h6 : n * (d + q) ≤ c) (h7 : c ≤ 536870911) (h8 : 0 ≤ z) (h9 : z ≤ 536870911) :
    ∀ (m : Nat) (i : Int), 0 ≤ i → i + m = n → Has (fun k => capnplaw08_ResolveElements.l0 k l (st + i * (d + q)) i 2 s' st d q 7 n (c + 1 + z)) true := by
  intro m
  induction m with
  | zero =>
    intro i h0 hm
    refine Has.step (fun k => by rw [capnplaw08_ResolveElements.l0]) ?_
    refine Has.neg (by omega) ((Has.some_ _).eq ?_)
    obtain rfl : i = n := by omega
    rw [show st + i * (d + q) - st = i * (d + q) by omega]
    have := size_small (o := i) (n := d + q) ⟨h4, h5⟩ (by omega)
    rw [w64 (x := i * (d + q)) (by omega)]
    simp only [decide_eq_true_eq]
    omega
  | succ m ih =>
    intro i h0 hm
    refine Has.step (fun k => by rw [capnplaw08_ResolveElements.l0]) ?_
    refine Has.pos (by omega) ?_
    have hp := elem_place (i := i) (n := n) (m := d + q) (c := c) (by omega) (by omega) h6
    simp only [resolve_Element.f, Option.bind_some]
    rw [w64 (x := d + q) (by omega), w64 (x := i * (d + q)) (by omega), w64 (x := st + i * (d + q)) (by omega)]
    refine Has.pos trivial (Has.pos trivial (Has.pos rfl (Has.pos trivial (Has.pos trivial ?_))))
    rw [rInBounds_eq h s' (st + i * (d + q)) (d + q), decide_eq_true (show inB l s' (st + i * (d + q)) (d + q) from inB_sub hi (by omega) (by omega) (by omega))]
    simp only [Option.bind_some]
    refine Has.step (fun k => by rw [capnplaw08_ResolveElements.j3]) ?_
    refine Has.neg (by simp) (Has.bind (Pointers_has ..) ?_)
    have next := ih (i + 1) (by omega) (by omega)
    rw [Int.add_mul, Int.one_mul, show st + (i * (d + q) + (d + q)) = st + i * (d + q) + d + q by omega] at next
    unfold ptrsO
    rw [w64 (x := st + i * (d + q) + d) (by omega), w64 (x := st + i * (d + q) + d + q) (by omega), w64 (x := i + 1) (by omega)]
    by_cases hq : q > 0
    · rw [if_pos (show (1 : Int) = 1 ∧ q > 0 from ⟨rfl, hq⟩)]
      exact Has.pos rfl (Has.pos hq (Has.pos rfl next))
    · rw [if_neg (show ¬ ((1 : Int) = 1 ∧ q > 0) from fun h => hq h.2), if_neg (show ¬ ((1 : Int) = 2 ∧ (0 : Int) = 6 ∧ (0 : Int) > 0) from fun h => by omega)]
      exact Has.pos (show (0 : Int) = q by omega) (Has.neg (by simp) next)
theorem ResolveElements_pure (l : List (List Int)) (h : Segs l) (s : Int) (hs : -9223372036854775808 ≤ s ∧ s ≤ 9223372036854775807) (a : Int) (ha : -9223372036854775808 ≤ a ∧ a ≤ 9223372036854775807) :
    ∃ k, capnplaw08_ResolveElements.f k l s a = some true := by
  refine Has.ex (g := fun k => capnplaw08_ResolveElements.f k l s a) ?_
  simp only [capnplaw08_ResolveElements.f]
  refine Has.bind awake8_has (Has.pos rfl (Has.bind (Few_has h) ?_))
  refine Has.step (fun k => by rw [capnplaw08_ResolveElements.j0]) ?_
  by_cases hf : Few l
  case neg =>
    rw [decide_eq_false hf]
    exact Has.pos rfl (Has.bind awake8_has (Has.some_ _))
  rw [decide_eq_true hf]
  refine Has.neg (by simp) ?_
  have out : ∀ x0 x1 x2 x3 x4 x5 x6 x7, Has (fun k => capnplaw08_ResolveElements.j1 k l true x0 x1 x2 x3 x4 x5 x6 x7) true := by
    intros
    refine Has.step (fun k => by rw [capnplaw08_ResolveElements.j1]) ?_
    exact Has.pos rfl (Has.some_ _)
  refine Has.bind (Object_has h hf.sm s a) ?_
  rcases obj_ok h hf.sm s a with ho | ⟨s', st, d, q, ho, hi, h1, h2, h3⟩ | ⟨s', st, e, n, ho, hi, h1, h2, h3, h4⟩ | ⟨s', st, d, q, n, c, z, ho, hi, h1, h2, h3, h4, h5, h6, h7, h8, h9⟩
  · rw [ho]
    generalize (obj l s a).2.2.2.2.2.2.2.2 = r
    by_cases hr : r = 0
    · exact Has.pos hr (Has.neg (by simp [bad]) (out ..))
    · exact Has.neg hr (out ..)
  · rw [ho]
    exact Has.pos rfl (Has.neg (by simp) (out ..))
  · rw [ho]
    exact Has.pos rfl (Has.neg (show ¬ e = 7 by omega) (out ..))
  · rw [ho]
    refine Has.pos rfl (Has.pos rfl ?_)
    by_cases hn : n > 2000
    · simp only [decide_eq_true hn]
      exact out ..
    · simp only [decide_eq_false hn]
      refine Has.step (fun k => by rw [capnplaw08_ResolveElements.j1]) ?_
      refine Has.neg (by simp) ?_
      have := elements_loop h hi (inB_small hf.sm hi) h1 h2 h3 h4 h5 h6 h7 h8 h9 n.toNat 0 (by omega) (by omega)
      rw [Int.zero_mul, Int.add_zero] at this
      exact this
end Go.Proofs.YtcjhejopcghgnaaDoor.P

namespace Go.Proofs.YtcjhejopcghgnaaDoor.resolveElements
open Go.ChangeShapes Go.WideShapes Go.ChangeAt Go.RowKit Go.Proofs.YtcjhejopcghgnaaDoor.P Go.Proofs.YtcjhejopcghgnaaDoorW.PrintWords
open Go.ChangeMaps (open_string shut_string)
open Go.Proofs.YtcjhejopcghgnaaDoor.P
set_option linter.unusedVariables false
theorem own : ownKnob Tryd.prog.godebug = none := by kernel_rfl
theorem laidOut : laidOutB Tryd.prog = true := by kernel_rfl
theorem door_met (os : Os) (args : Array Value) : laidMetH Tryd.prog Rows.resolveElementsRow.laid ((World.doorLaid Tryd.prog 600 os).forCall (fun _ _ => 0) ⟨#[], args, []⟩).memory :=
  laidMetH_of_parts3 (fuel := 8) (laidMet_of_run' 8 (by kernel_rfl) (by kernel_rfl)) (by kernel_rfl) (by kernel_rfl)
set_option maxRecDepth 100000 in
set_option maxHeartbeats 1000000 in
theorem reads (os : Os) {H : Type} (enc : TypeId × Value → H) : DataW.whole enc Tryd.prog ((World.doorLaid Tryd.prog 600 os).forCall (fun _ _ => 0) ⟨#[], #[.slice none 0 0, .int .i64 0, .int .i64 0], []⟩).memory Tryd.f11.params.toList Rows.resolveElementsSpec.vars false (#[.slice none 0 0, .int .i64 0, .int .i64 0] : Array Value).toList 8 = some ([.nil, .lit (.int .i64 0), .lit (.int .i64 0)], [], []) := by kernel_rfl
set_option maxRecDepth 100000 in
set_option maxHeartbeats 1000000 in
theorem lifted (os : Os) (started : os.Started) (H : Type) (enc : TypeId × Value → H) (F : Stop.Interp) :
    ReturnsInHanded {} Tryd.checked os 11 .any ((OpenSpec.ofChange Rows.resolveElementsSpec).preRow enc Tryd.prog Tryd.f11 Rows.resolveElementsRow.domain false Rows.resolveElementsRow.laid) (((OpenSpec.ofChange Rows.resolveElementsSpec).at F).post enc Tryd.prog Tryd.f11 false true false false) := by
  refine returnsInHanded_of_row (C := Tryd.checked) (s := (OpenSpec.ofChange Rows.resolveElementsSpec)) own started (by kernel_rfl) Tryd.func11
    (witness_row_atRef (enc := enc) (C := Tryd.checked) false (World.doorLaid Tryd.prog 600 os) #[.slice none 0 0, .int .i64 0, .int .i64 0] rfl (by kernel_rfl) (by kernel_rfl) (by kernel_rfl)
      (OpenSpec.preRow_of_cond 8 (reads os enc) (by kernel_rfl) (fun k hk => by cases hk) (by kernel_rfl) (door_met os _))) ?_
  intro W base args ds gs before hval0 hW _ hcond _ hL _ _
  have hval : ∀ (j : Nat) t v, Tryd.f11.params[j]? = some t → args[j]? = some v → Value.okWide Tryd.prog W .any base t v := hval0
  have hW' := hW
  obtain ⟨p, q, hA0, hV, rfl, hfz, hnd⟩ := hW
  have hA : DataW.TrodAll enc Tryd.prog W 0 (fun _ => true) true Tryd.f11.params.toList args.toList ds p := hA0
  rw [Tryd.params11] at hA hval
  obtain ⟨v0, vs0, d0, ds0, p0, q0, hargs, rfl, rfl, h0, r0⟩ := trodAll_cons hA
  obtain ⟨v1, vs1, d1, ds1, p1, q1, rfl, rfl, rfl, h1, r1⟩ := trodAll_cons r0
  obtain ⟨v2, vs2, d2, ds2, p2, q2, rfl, rfl, rfl, h2, r2⟩ := trodAll_cons r1
  obtain ⟨rfl, rfl, rfl⟩ := trodAll_nil r2
  obtain rfl : args = #[v0, v1, v2] := by cases args; simp_all
  obtain ⟨rfl, rfl⟩ := trodVars_none hV
  have k0 := h0
  have lt0 : ∀ x ∈ p0, x.block < W.heap.size := by obtain ⟨m, hm⟩ := k0; exact DataW.trod_lt m _ _ _ hm
  obtain ⟨x0, y0, z0, rfl⟩ := okWide_slice Tryd.underlying22 (hval 0 22 v0 rfl rfl)
  obtain ⟨fuel0, hf0⟩ := h0
  obtain ⟨l0, ⟨A0, c0, hcs0, hl0, hr0⟩, s0⟩ := (Opens.slice Tryd.underlying22 (by kernel_rfl) (fun _ => (Opens.slice Tryd.underlying40 (by kernel_rfl) (fun _ => (OpensAt.int Tryd.underlying23)) _)) _ _ _ hf0 : ∃ a, (Kd.slice 40 _).K W a _ ∧ _)
  simp only [Value.cells, List.cons.injEq, Value.slice.injEq, and_true] at hcs0
  obtain ⟨rfl, rfl, rfl⟩ := hcs0
  have k1 := h1
  have lt1 : ∀ x ∈ p1, x.block < W.heap.size := by obtain ⟨m, hm⟩ := k1; exact DataW.trod_lt m _ _ _ hm
  obtain ⟨a1, rfl, _, _, w1⟩ := open_int Tryd.underlying3 (hval 1 3 v1 rfl rfl) h1
  have k2 := h2
  have lt2 : ∀ x ∈ p2, x.block < W.heap.size := by obtain ⟨m, hm⟩ := k2; exact DataW.trod_lt m _ _ _ hm
  obtain ⟨a2, rfl, _, _, w2⟩ := open_int Tryd.underlying3 (hval 2 3 v2 rfl rfl) h2
  have hG : Glob true W := ⟨dec_of_laid hL (by first | exact List.mem_cons_self | (exact List.mem_cons_of_mem _ List.mem_cons_self)), fun _ => bits_of_laid hL rfl⟩
  obtain ⟨k, hp⟩ := ResolveElements_pure l0 (plain_slice hr0 s0 (fun _ _ _ s k => by obtain ⟨_, _, rfl, _, hC⟩ := k; exact plain_slice hC s (fun _ _ _ s _ => bounds_u64 s.2))) a1 (bounds_i64 w1) a2 (bounds_i64 w2)
  refine (capnplaw08_ResolveElements.calls k _ _ l0 a1 a2 true W hG hr0 hl0 hp).mono fun e W' ⟨he, bel⟩ => ?_
  subst he
  exact ⟨_, rfl, _, _, _, [], _, [], hW', trodAll_mk1 (shut_bool Tryd.underlying4 _), (trodAll_cons_mk (Below.trod laidOut (by kernel_rfl) (of_decide_eq_true (by kernel_rfl)) k0 bel lt0) (trodAll_cons_mk (Below.trod laidOut (by kernel_rfl) (of_decide_eq_true (by kernel_rfl)) k1 bel lt1) (trodAll_cons_mk (Below.trod laidOut (by kernel_rfl) (of_decide_eq_true (by kernel_rfl)) k2 bel lt2) trodAll_mk0))), rfl, bel.frame _, fun h => by cases h⟩
theorem over : Rows.resolveElementsRow.holds Tryd.pinned (OpenSpec.ofChange Rows.resolveElementsSpec) :=
  OpenClaim.holds_of_cond 11 Tryd.f11 rfl rfl rfl rfl rfl rfl rfl ⟨rfl, rfl, rfl, rfl, rfl⟩ rfl rfl rfl rfl rfl (by kernel_rfl) Tryd.func11 (by kernel_rfl)
    (of_decide_eq_true (by kernel_rfl)) (by unfold Func.isWrapper; first | (rw [if_pos (by decide +kernel)]; kernel_rfl) | (rw [if_neg (by decide +kernel)]; exact ⟨rfl, rfl⟩))
    (fun os started H enc _ F => by rw [OpenClaim.pre_eq_preRow]; exact lifted os started H enc F)
theorem card_holds : Rows.ResolveElementsCardSaid :=
  Claim7.holds_tied_plain_at .later [] [.funcs, .data] true (true, "0407ccd01fd84b1ba019f912a12938fec7519b4bc3503758b1d06eee7da07cad") false
    over (fun _ h => by cases h) (by kernel_rfl) (fun _ h => by cases h) resolveElements_row_tie rfl ⟨rfl, rfl⟩ (by kernel_rfl) rfl
    (fun f fn hf hfn => by
      obtain rfl : f = 11 := Option.some.inj ((show Tryd.prog.funcNamed "capnp/capnplaw08.ResolveElements" = some 11 by kernel_rfl).symm.trans hf) |>.symm
      obtain rfl : fn = Tryd.f11 := (Option.some.inj (Tryd.func11.symm.trans hfn)).symm
      exact ⟨by kernel_rfl, fun j t ht => by
        rw [Tryd.params11] at ht
        have hm : t ∈ [22, 3, 3] := by simpa using Array.mem_of_getElem? ht
        have hall : ([22, 3, 3].all fun u => !Tryd.prog.wantsStandIn u) = true := by kernel_rfl
        exact (show Tryd.prog.wantsStandIn t = false by simpa using List.all_eq_true.1 hall t hm)⟩)
    (by kernel_rfl)
#print axioms card_holds
end Go.Proofs.YtcjhejopcghgnaaDoor.resolveElements
namespace Go.Proofs.YtcjhejopcghgnaaDoor
theorem resolveElements_holds : Go.Proofs.YtcjhejopcghgnaaDoor.Rows.ResolveElementsCardSaid := resolveElements.card_holds
end Go.Proofs.YtcjhejopcghgnaaDoor
