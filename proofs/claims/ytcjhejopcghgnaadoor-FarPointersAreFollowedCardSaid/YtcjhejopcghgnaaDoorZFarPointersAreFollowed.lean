/- This text proves that the law FarPointersAreFollowed of the given program returns true on every input that its statement covers, as the statement says it. Its conditions are the statement's own. -/
import Derived.Test.YtcjhejopcghgnaaDoorBFB1
import Derived.Test.YtcjhejopcghgnaaDoorBFB2
import Derived.Test.YtcjhejopcghgnaaDoorRows
import Derived.Test.YtcjhejopcghgnaaDoorCards
import Derived.Test.YtcjhejopcghgnaaDoorTie
import Derived.WalkKit
import Derived.ProofKit
import Derived.OpenShut
import Derived.ChangeOld
import Derived.SizedLaws
import Derived.SevenTiedAt
import Derived.Deep.DeepHandedRow
import Derived.Deep.DeepWitnessRowRef
namespace Go.Proofs.YtcjhejopcghgnaaDoor.P
open Go.RowKit Go.Proofs.YtcjhejopcghgnaaDoorW.PrintWords Go.Proofs.YtcjhejopcghgnaaDoorW.PrintLast Go.Proofs.YtcjhejopcghgnaaDoorW.PrintMore
attribute [local go_sem] max2_int min2_int max_two min_two max_three min_three max_four min_four   -- for this text's walks alone
set_option linter.unusedVariables false
set_option linter.unusedSimpArgs false

variable {gb : Bool}
/-! ### capnplaw07_FarPointersAreFollowed: function 4 -/
mutual
def capnplaw07_FarPointersAreFollowed.j0 : Nat → List (List Int) → Int → Int → Int → Int → Int → Bool → Option (Bool)
  | 0, _, _, _, _, _, _, _ => none
  | k + 1, x0, x1, x3, x4, x5, x6, x45 => if x45 = true then ((capnplaw07_awake.f k).bind fun t281 => (some t281)) else ((capnplaw07_word.f k 2 0 0 0 0 0 false (wrap64 (Int.tmod x3 3)) ((1 + (x0.length : Int)) % 4294967296) 0).bind fun t282 => ((capnplaw07_word.f k 2 0 0 0 0 0 true 3 ((1 + (x0.length : Int)) % 4294967296) 0).bind fun t283 => (if ([] : List (List Int)).length < 5864062014805 then ((some (([] : List (List Int)) ++ [(([t282, t283] : List Int))] : List (List Int))).bind fun y287 => (if y287.length + x0.length < 5864062014805 then ((some (y287 ++ x0 : List (List Int))).bind fun y290 => ((capnpref02_Decode.f k x4).bind fun bt293 => ((capnplaw07_word.f k 2 0 0 0 0 0 false (wrap64 (Int.tmod x6 536870912)) (Int.tmod x5 2147483648) 0).bind fun t304 => ((capnplaw07_word.f k bt293.1 0 bt293.2.2.1 bt293.2.2.2.1 bt293.2.2.2.2.1 bt293.2.2.2.2.2.1 bt293.2.2.2.2.2.2.1 bt293.2.2.2.2.2.2.2.1 bt293.2.2.2.2.2.2.2.2.1 bt293.2.2.2.2.2.2.2.2.2).bind fun t305 => ((some (([0, 0, 0, t304, t305] : List Int) : List Int)).bind fun y306 => (if 0 ≤ (Int.tmod x3 3) then (if (Int.tmod x3 3) < (y306.length : Int) then (if y290.length < 5864062014805 then ((some (y290 ++ [(y306.set ((Int.tmod x3 3) : Int).toNat x1)] : List (List Int))).bind fun y310 => ((far_Follow.f y310 0 0).bind fun bt313 => ((far_Follow.f y310 (wrap64 (1 + (x0.length : Int))) (wrap64 (Int.tmod x3 3))).bind fun bt317 => (if bt313.1 = x1 then (if bt313.1 = bt317.1 then (if bt313.2.1 = bt317.2.1 then (if bt313.2.2.1 = bt317.2.2.1 then (if bt313.2.2.2 = 0 then (if bt317.2.2.2 = 0 then (if bt313.2.1 = (wrap64 (1 + (x0.length : Int))) then (capnplaw07_FarPointersAreFollowed.j1 k x5 x6 y310 (bt313.2.2.1 != (wrap64 ((wrap64 (Int.tmod x3 3)) + 1))) bt293.1 0 bt293.2.2.1 bt293.2.2.2.1 bt293.2.2.2.2.1 bt293.2.2.2.2.2.1 bt293.2.2.2.2.2.2.1 bt293.2.2.2.2.2.2.2.1 bt293.2.2.2.2.2.2.2.2.1 bt293.2.2.2.2.2.2.2.2.2) else (capnplaw07_FarPointersAreFollowed.j1 k x5 x6 y310 true bt293.1 0 bt293.2.2.1 bt293.2.2.2.1 bt293.2.2.2.2.1 bt293.2.2.2.2.2.1 bt293.2.2.2.2.2.2.1 bt293.2.2.2.2.2.2.2.1 bt293.2.2.2.2.2.2.2.2.1 bt293.2.2.2.2.2.2.2.2.2)) else (capnplaw07_FarPointersAreFollowed.j1 k x5 x6 y310 true bt293.1 0 bt293.2.2.1 bt293.2.2.2.1 bt293.2.2.2.2.1 bt293.2.2.2.2.2.1 bt293.2.2.2.2.2.2.1 bt293.2.2.2.2.2.2.2.1 bt293.2.2.2.2.2.2.2.2.1 bt293.2.2.2.2.2.2.2.2.2)) else (capnplaw07_FarPointersAreFollowed.j1 k x5 x6 y310 true bt293.1 0 bt293.2.2.1 bt293.2.2.2.1 bt293.2.2.2.2.1 bt293.2.2.2.2.2.1 bt293.2.2.2.2.2.2.1 bt293.2.2.2.2.2.2.2.1 bt293.2.2.2.2.2.2.2.2.1 bt293.2.2.2.2.2.2.2.2.2)) else (capnplaw07_FarPointersAreFollowed.j1 k x5 x6 y310 true bt293.1 0 bt293.2.2.1 bt293.2.2.2.1 bt293.2.2.2.2.1 bt293.2.2.2.2.2.1 bt293.2.2.2.2.2.2.1 bt293.2.2.2.2.2.2.2.1 bt293.2.2.2.2.2.2.2.2.1 bt293.2.2.2.2.2.2.2.2.2)) else (capnplaw07_FarPointersAreFollowed.j1 k x5 x6 y310 true bt293.1 0 bt293.2.2.1 bt293.2.2.2.1 bt293.2.2.2.2.1 bt293.2.2.2.2.2.1 bt293.2.2.2.2.2.2.1 bt293.2.2.2.2.2.2.2.1 bt293.2.2.2.2.2.2.2.2.1 bt293.2.2.2.2.2.2.2.2.2)) else (capnplaw07_FarPointersAreFollowed.j1 k x5 x6 y310 true bt293.1 0 bt293.2.2.1 bt293.2.2.2.1 bt293.2.2.2.2.1 bt293.2.2.2.2.2.1 bt293.2.2.2.2.2.2.1 bt293.2.2.2.2.2.2.2.1 bt293.2.2.2.2.2.2.2.2.1 bt293.2.2.2.2.2.2.2.2.2)) else (capnplaw07_FarPointersAreFollowed.j1 k x5 x6 y310 true bt293.1 0 bt293.2.2.1 bt293.2.2.2.1 bt293.2.2.2.2.1 bt293.2.2.2.2.2.1 bt293.2.2.2.2.2.2.1 bt293.2.2.2.2.2.2.2.1 bt293.2.2.2.2.2.2.2.2.1 bt293.2.2.2.2.2.2.2.2.2))))) else (none)) else (none)) else (none))))))) else (none))) else (none))))
def capnplaw07_FarPointersAreFollowed.j1 : Nat → Int → Int → List (List Int) → Bool → Int → Int → Int → Int → Int → Int → Bool → Int → Int → Int → Option (Bool)
  | 0, _, _, _, _, _, _, _, _, _, _, _, _, _, _ => none
  | k + 1, x5, x6, x15, x151, x304000, x304001, x304002, x304003, x304004, x304005, x304006, x304007, x304008, x304009 => if x151 = true then (some false) else ((far_Follow.f x15 0 1).bind fun bt321 => (if x304000 > 1 then (some (bt321.2.2.2 == 3)) else (if bt321.2.2.2 = 0 then ((capnplaw07_word.f k x304000 x304001 x304002 x304003 x304004 x304005 x304006 x304007 x304008 x304009).bind fun t325 => (if bt321.1 = t325 then (if bt321.2.1 = (wrap64 (Int.tmod x5 2147483648)) then (some (bt321.2.2.1 == (wrap64 (Int.tmod x6 536870912)))) else (some false)) else (some false))) else (some false))))
end
def capnplaw07_FarPointersAreFollowed.f (k : Nat) (l0 : List (List Int)) (a1 a2 a3 a4 a5 a6 : Int) : Option (Bool) := (capnplaw07_awake.f k).bind fun t278 => (if t278 = true then ((capnpref04_Few.f k l0).bind fun t279 => (if t279 = true then (if (l0.length : Int) = 0 then (capnplaw07_FarPointersAreFollowed.j0 k l0 a1 a3 a4 a5 a6 true) else ((capnpref07_IsFar.f a1).bind fun t280 => (capnplaw07_FarPointersAreFollowed.j0 k l0 a1 a3 a4 a5 a6 t280))) else (capnplaw07_FarPointersAreFollowed.j0 k l0 a1 a3 a4 a5 a6 true))) else (capnplaw07_FarPointersAreFollowed.j0 k l0 a1 a3 a4 a5 a6 true))
theorem capnplaw07_FarPointersAreFollowed.mono_l : ∀ k, (∀ y0 y1 y2 y3 y4 y5 y6, LeO (capnplaw07_FarPointersAreFollowed.j0 k y0 y1 y2 y3 y4 y5 y6) (capnplaw07_FarPointersAreFollowed.j0 (k + 1) y0 y1 y2 y3 y4 y5 y6)) ∧ (∀ y0 y1 y2 y3 y4 y5 y6 y7 y8 y9 y10 y11 y12 y13, LeO (capnplaw07_FarPointersAreFollowed.j1 k y0 y1 y2 y3 y4 y5 y6 y7 y8 y9 y10 y11 y12 y13) (capnplaw07_FarPointersAreFollowed.j1 (k + 1) y0 y1 y2 y3 y4 y5 y6 y7 y8 y9 y10 y11 y12 y13))
  | 0 => ⟨fun _ _ _ _ _ _ _ r h => by simp [capnplaw07_FarPointersAreFollowed.j0] at h, fun _ _ _ _ _ _ _ _ _ _ _ _ _ _ r h => by simp [capnplaw07_FarPointersAreFollowed.j1] at h⟩
  | k + 1 => by
    obtain ⟨ih0, ih1⟩ := capnplaw07_FarPointersAreFollowed.mono_l k
    refine ⟨?_, ?_⟩
    · intro y0 y1 y2 y3 y4 y5 y6
      unfold capnplaw07_FarPointersAreFollowed.j0
      repeat' first
      | (with_reducible apply ih1)
      | (with_reducible apply capnplaw07_awake.mono)
      | (with_reducible apply capnplaw07_word.mono)
      | (with_reducible apply capnpref02_Decode.mono)
      | (with_reducible exact LeO.refl _)
      | (with_reducible refine LeO.ite ?_ ?_)
      | (with_reducible refine LeO.bind ?_ (fun _ => ?_))
    · intro y0 y1 y2 y3 y4 y5 y6 y7 y8 y9 y10 y11 y12 y13
      unfold capnplaw07_FarPointersAreFollowed.j1
      repeat' first
      | (with_reducible apply capnplaw07_word.mono)
      | (with_reducible exact LeO.refl _)
      | (with_reducible refine LeO.ite ?_ ?_)
      | (with_reducible refine LeO.bind ?_ (fun _ => ?_))
theorem capnplaw07_FarPointersAreFollowed.mono : ∀ a0 a1 a2 a3 a4 a5 a6 k, LeO (capnplaw07_FarPointersAreFollowed.f k a0 a1 a2 a3 a4 a5 a6) (capnplaw07_FarPointersAreFollowed.f (k + 1) a0 a1 a2 a3 a4 a5 a6) := by
  intro a0 a1 a2 a3 a4 a5 a6 k
  obtain ⟨ih0, ih1⟩ := capnplaw07_FarPointersAreFollowed.mono_l k
  unfold capnplaw07_FarPointersAreFollowed.f
  repeat' first
      | (with_reducible apply ih0)
      | (with_reducible apply capnplaw07_awake.mono)
      | (with_reducible apply capnpref04_Few.mono)
      | (with_reducible exact LeO.refl _)
      | (with_reducible refine LeO.ite ?_ ?_)
      | (with_reducible refine LeO.bind ?_ (fun _ => ?_))
def capnplaw07_FarPointersAreFollowed.T8 : Bool × List (List Nat × List Nat) := (true, [([], []), ([0], [0]), ([], []), ([2], [2]), ([3], [3]), ([1, 4], [1, 4]), ([5], [5]), ([], []), ([7, 6], [7]), ([6, 8], [6, 8]), ([9, 8, 0, 1, 2, 3, 4, 5, 6, 7, 8, 9], [9])])
def capnplaw07_FarPointersAreFollowed.B8 : List Nat := [0, 1, 0, 4, 12, 31, 63, 0, 255, 511, 1023]
theorem capnplaw07_FarPointersAreFollowed.tab8 : rtab .any (opsOf Tryd.f4 8) = capnplaw07_FarPointersAreFollowed.T8 := by kernel_rfl
theorem capnplaw07_FarPointersAreFollowed.bits8 : waitsOk capnplaw07_FarPointersAreFollowed.T8.2 capnplaw07_FarPointersAreFollowed.B8 = true := by kernel_rfl
set_option maxHeartbeats 8000000 in
set_option maxRecDepth 100000 in
theorem capnplaw07_FarPointersAreFollowed.calls (k : Nat) (P0_ : Nat → Prop) (A0 : Option Addr) (c0 : Nat) (l0 : List (List Int)) (a1 a2 a3 a4 a5 a6 : Int) (r : Bool) (w : World) (hG : Glob gb w) (hs0 : Kd.V (Kd.slice 23 (Kd.int .u64)) 40 w w.heap.size (fun k_ => P0_ k_) (.slice A0 l0.length c0) l0) (h : capnplaw07_FarPointersAreFollowed.f k l0 a1 a2 a3 a4 a5 a6 = some r) :
    Calls Tryd.prog 4 #[.slice A0 l0.length c0, .int .u64 a1, .int .u8 a2, .int .u16 a3, .int .u64 a4, .int .u32 a5, .int .u32 a6] w fun e w' => e = .returned (.bool r) ∧ Below w.heap.size w w' := by
  have HG := Aside0.mk hG
  clear hG
  have HO0 := Aside0.mk (show Kd.V (Kd.slice 23 (Kd.int .u64)) 40 w w.heap.size (fun k_ => (P0_ k_ ∨ w.heap.size ≤ k_)) (.slice A0 l0.length c0) l0 from Kd.V_mono hs0 (fun k_ hk => .inl hk))
  have HB := Aside0.mk (Below.refl w.heap.size w)
  have H := h
  unfold capnplaw07_FarPointersAreFollowed.f at H
  clear h
  have HC8 := Aside0.mk H
  clear H
  go_enter Tryd.func4, Tryd.ntmps4
  go_upto_region 1 with (fail)
  go_cut [45] (fun v45 wc => ∃ (kq : Nat) (x45_7 : Bool), v45 = .bool x45_7 ∧ Aside0 (capnplaw07_FarPointersAreFollowed.j0 kq l0 a1 a3 a4 a5 a6 x45_7 = some r) ∧ Aside0 (kq ≤ k) ∧ Aside0 (Kd.V (Kd.slice 23 (Kd.int .u64)) 40 wc w.heap.size (fun k_ => (P0_ k_ ∨ w.heap.size ≤ k_)) (.slice A0 l0.length c0) l0) ∧ Aside0 (Below w.heap.size w wc))
  case first =>
    have H := HC8.out
    clear HC8
    replace H := Option.bind_eq_some_iff.mp H
    obtain ⟨t278, A90, H⟩ := H
    have A9 := Aside0.mk A90
    clear A90
    by_cases c10 : t278 = true
    · subst c10
      have H1 : ((capnpref04_Few.f k l0).bind fun t279 => (if t279 = true then (if (l0.length : Int) = 0 then (capnplaw07_FarPointersAreFollowed.j0 k l0 a1 a3 a4 a5 a6 true) else ((capnpref07_IsFar.f a1).bind fun t280 => (capnplaw07_FarPointersAreFollowed.j0 k l0 a1 a3 a4 a5 a6 t280))) else (capnplaw07_FarPointersAreFollowed.j0 k l0 a1 a3 a4 a5 a6 true))) = some r := by rw [if_pos rfl] at H; exact H
      clear H
      have H := H1
      clear H1
      replace H := Option.bind_eq_some_iff.mp H
      obtain ⟨t279, A110, H⟩ := H
      have A11 := Aside0.mk A110
      clear A110
      by_cases c12 : t279 = true
      · subst c12
        have H1 : (if (l0.length : Int) = 0 then (capnplaw07_FarPointersAreFollowed.j0 k l0 a1 a3 a4 a5 a6 true) else ((capnpref07_IsFar.f a1).bind fun t280 => (capnplaw07_FarPointersAreFollowed.j0 k l0 a1 a3 a4 a5 a6 t280))) = some r := by rw [if_pos rfl] at H; exact H
        clear H
        have H := H1
        clear H1
        by_cases c13 : (l0.length : Int) = 0
        · rw [if_pos c13] at H
          have c13b0 : ((l0.length : Int) == 0) = true := beq_iff_eq.mpr c13
          clear c13
          (skip)
          have H' := Aside0.mk H
          clear H
          go_wp2_with (first | ((with_reducible refine gate_callee (f := 12) rfl ?_); refine goesL_ (some 30) rfl rfl Tryd.func12 (by kernel_rfl) rfl #[] rfl (by (try simp only [List.map_toArray, List.map_cons, List.map_nil]); done) ?_; (with_reducible refine (capnplaw07_awake.calls (gb := gb) k  true _ ?side1 A9.out).mono ?_); (case side1 => exact Glob.below HG.out HB.out); rintro e w14 ⟨rfl, hb⟩; refine ⟨_, rfl, ?_⟩; replace HO0 := Aside0.mk (Kd.V_below HO0.out hb); replace HB := Aside0.mk (below_step HB.out hb); (try clear hb)) | (go_at_call 13; (with_reducible refine (capnpref04_Few.calls k _ _ l0 true _ ?side1 ?side2 A11.out).mono ?_); (case side1 => repeat ((exact (Kd.V_reads' HO0.out).2.2))); (case side2 => exact (Kd.V_reads' HO0.out).2.1); rintro e w' ⟨rfl, ⟨nd, rfl⟩⟩))
          go_meet
          case rel => exact ⟨_, (true), (by rfl), H', ⟨by omega⟩, ⟨by (with_reducible repeat (apply Kd.V_drewN)); exact HO0.out⟩, ⟨by repeat ((with_reducible first | exact HB.out | apply pw_below_drewN))⟩⟩
        · rw [if_neg c13] at H
          have c13b0 : ((l0.length : Int) == 0) = false := beq_eq_false_iff_ne.mpr c13
          (skip)
          replace H := Option.bind_eq_some_iff.mp H
          obtain ⟨t280, A150, H⟩ := H
          replace H : (capnplaw07_FarPointersAreFollowed.j0 k l0 a1 a3 a4 a5 a6 t280) = some r := H
          have A15 := Aside0.mk A150
          clear A150
          have H' := Aside0.mk H
          clear H
          go_wp2_with (first | ((with_reducible refine gate_callee (f := 12) rfl ?_); refine goesL_ (some 30) rfl rfl Tryd.func12 (by kernel_rfl) rfl #[] rfl (by (try simp only [List.map_toArray, List.map_cons, List.map_nil]); done) ?_; (with_reducible refine (capnplaw07_awake.calls (gb := gb) k  true _ ?side1 A9.out).mono ?_); (case side1 => exact Glob.below HG.out HB.out); rintro e w16 ⟨rfl, hb⟩; refine ⟨_, rfl, ?_⟩; replace HO0 := Aside0.mk (Kd.V_below HO0.out hb); replace HB := Aside0.mk (below_step HB.out hb); (try clear hb)) | (go_at_call 13; (with_reducible refine (capnpref04_Few.calls k _ _ l0 true _ ?side1 ?side2 A11.out).mono ?_); (case side1 => repeat ((exact (Kd.V_reads' HO0.out).2.2))); (case side2 => exact (Kd.V_reads' HO0.out).2.1); rintro e w' ⟨rfl, ⟨nd, rfl⟩⟩) | (go_at_call 17; (with_reducible refine (capnpref07_IsFar.calls a1 t280 _ A15.out).mono ?_); rintro e w' ⟨rfl, ⟨nd, rfl⟩⟩))
          go_meet
          case rel => exact ⟨_, (t280), (by rfl), H', ⟨by omega⟩, ⟨by (with_reducible repeat (apply Kd.V_drewN)); exact HO0.out⟩, ⟨by repeat ((with_reducible first | exact HB.out | apply pw_below_drewN))⟩⟩
      · replace c12 := Bool.eq_false_iff.mpr c12
        subst c12
        have H1 : (capnplaw07_FarPointersAreFollowed.j0 k l0 a1 a3 a4 a5 a6 true) = some r := by rw [if_neg (show ¬ (false = true) by decide)] at H; exact H
        clear H
        have H := H1
        clear H1
        have H' := Aside0.mk H
        clear H
        go_wp2_with (first | ((with_reducible refine gate_callee (f := 12) rfl ?_); refine goesL_ (some 30) rfl rfl Tryd.func12 (by kernel_rfl) rfl #[] rfl (by (try simp only [List.map_toArray, List.map_cons, List.map_nil]); done) ?_; (with_reducible refine (capnplaw07_awake.calls (gb := gb) k  true _ ?side1 A9.out).mono ?_); (case side1 => exact Glob.below HG.out HB.out); rintro e w17 ⟨rfl, hb⟩; refine ⟨_, rfl, ?_⟩; replace HO0 := Aside0.mk (Kd.V_below HO0.out hb); replace HB := Aside0.mk (below_step HB.out hb); (try clear hb)) | (go_at_call 13; (with_reducible refine (capnpref04_Few.calls k _ _ l0 false _ ?side1 ?side2 A11.out).mono ?_); (case side1 => repeat ((exact (Kd.V_reads' HO0.out).2.2))); (case side2 => exact (Kd.V_reads' HO0.out).2.1); rintro e w' ⟨rfl, ⟨nd, rfl⟩⟩))
        go_meet
        case rel => exact ⟨_, (true), (by rfl), H', ⟨by omega⟩, ⟨by (with_reducible repeat (apply Kd.V_drewN)); exact HO0.out⟩, ⟨by repeat ((with_reducible first | exact HB.out | apply pw_below_drewN))⟩⟩
    · replace c10 := Bool.eq_false_iff.mpr c10
      subst c10
      have H1 : (capnplaw07_FarPointersAreFollowed.j0 k l0 a1 a3 a4 a5 a6 true) = some r := by rw [if_neg (show ¬ (false = true) by decide)] at H; exact H
      clear H
      have H := H1
      clear H1
      have H' := Aside0.mk H
      clear H
      go_wp2_with (((with_reducible refine gate_callee (f := 12) rfl ?_); refine goesL_ (some 30) rfl rfl Tryd.func12 (by kernel_rfl) rfl #[] rfl (by (try simp only [List.map_toArray, List.map_cons, List.map_nil]); done) ?_; (with_reducible refine (capnplaw07_awake.calls (gb := gb) k  false _ ?side1 A9.out).mono ?_); (case side1 => exact Glob.below HG.out HB.out); rintro e w18 ⟨rfl, hb⟩; refine ⟨_, rfl, ?_⟩; replace HO0 := Aside0.mk (Kd.V_below HO0.out hb); replace HB := Aside0.mk (below_step HB.out hb); (try clear hb)))
      go_meet
      case rel => exact ⟨_, (true), (by rfl), H', ⟨by omega⟩, ⟨by exact HO0.out⟩, ⟨by repeat ((with_reducible exact HB.out))⟩⟩
  case rest =>
    clear HC8
    skip
    skip
    skip
    skip
    skip
    skip
    skip
    skip
    skip
    obtain ⟨kq, x45_7, rfl, HA, HJ7, HO_0, HB⟩ := hcut
    cases kq with
    | zero => exact absurd HA.out (by simp [capnplaw07_FarPointersAreFollowed.j0])
    | succ kj7 =>
      have H := HA.out
      clear HA
      simp only [capnplaw07_FarPointersAreFollowed.j0] at H
      by_cases c19 : x45_7 = true
      · subst c19
        have H1 : ((capnplaw07_awake.f kj7).bind fun t281 => (some t281)) = some r := by rw [if_pos rfl] at H; exact H
        clear H
        have H := H1
        clear H1
        replace H := Option.bind_eq_some_iff.mp H
        obtain ⟨t281, A200, H⟩ := H
        replace H : (some t281) = some r := H
        have A20 := Aside0.mk A200
        clear A200
        obtain rfl := Option.some.inj H
        go_wp2_with (((with_reducible refine gate_callee (f := 12) rfl ?_); refine goesL_ (some 46) rfl rfl Tryd.func12 (by kernel_rfl) rfl #[] rfl (by (try simp only [List.map_toArray, List.map_cons, List.map_nil]); done) ?_; (with_reducible refine (capnplaw07_awake.calls (gb := gb) kj7  t281 _ ?side1 A20.out).mono ?_); (case side1 => exact Glob.below HG.out HB.out); rintro e w21 ⟨rfl, hb⟩; refine ⟨_, rfl, ?_⟩; replace HO_0 := Aside0.mk (Kd.V_below HO_0.out hb); replace HB := Aside0.mk (below_step HB.out hb); (try clear hb)))
        go_ret
        exact ⟨by rfl, by repeat ((with_reducible exact HB.out))⟩
      · replace c19 := Bool.eq_false_iff.mpr c19
        subst c19
        have H1 : ((capnplaw07_word.f kj7 2 0 0 0 0 0 false (wrap64 (Int.tmod a3 3)) ((1 + (l0.length : Int)) % 4294967296) 0).bind fun t282 => ((capnplaw07_word.f kj7 2 0 0 0 0 0 true 3 ((1 + (l0.length : Int)) % 4294967296) 0).bind fun t283 => (if ([] : List (List Int)).length < 5864062014805 then ((some (([] : List (List Int)) ++ [(([t282, t283] : List Int))] : List (List Int))).bind fun y287 => (if y287.length + l0.length < 5864062014805 then ((some (y287 ++ l0 : List (List Int))).bind fun y290 => ((capnpref02_Decode.f kj7 a4).bind fun bt293 => ((capnplaw07_word.f kj7 2 0 0 0 0 0 false (wrap64 (Int.tmod a6 536870912)) (Int.tmod a5 2147483648) 0).bind fun t304 => ((capnplaw07_word.f kj7 bt293.1 0 bt293.2.2.1 bt293.2.2.2.1 bt293.2.2.2.2.1 bt293.2.2.2.2.2.1 bt293.2.2.2.2.2.2.1 bt293.2.2.2.2.2.2.2.1 bt293.2.2.2.2.2.2.2.2.1 bt293.2.2.2.2.2.2.2.2.2).bind fun t305 => ((some (([0, 0, 0, t304, t305] : List Int) : List Int)).bind fun y306 => (if 0 ≤ (Int.tmod a3 3) then (if (Int.tmod a3 3) < (y306.length : Int) then (if y290.length < 5864062014805 then ((some (y290 ++ [(y306.set ((Int.tmod a3 3) : Int).toNat a1)] : List (List Int))).bind fun y310 => ((far_Follow.f y310 0 0).bind fun bt313 => ((far_Follow.f y310 (wrap64 (1 + (l0.length : Int))) (wrap64 (Int.tmod a3 3))).bind fun bt317 => (if bt313.1 = a1 then (if bt313.1 = bt317.1 then (if bt313.2.1 = bt317.2.1 then (if bt313.2.2.1 = bt317.2.2.1 then (if bt313.2.2.2 = 0 then (if bt317.2.2.2 = 0 then (if bt313.2.1 = (wrap64 (1 + (l0.length : Int))) then (capnplaw07_FarPointersAreFollowed.j1 kj7 a5 a6 y310 (bt313.2.2.1 != (wrap64 ((wrap64 (Int.tmod a3 3)) + 1))) bt293.1 0 bt293.2.2.1 bt293.2.2.2.1 bt293.2.2.2.2.1 bt293.2.2.2.2.2.1 bt293.2.2.2.2.2.2.1 bt293.2.2.2.2.2.2.2.1 bt293.2.2.2.2.2.2.2.2.1 bt293.2.2.2.2.2.2.2.2.2) else (capnplaw07_FarPointersAreFollowed.j1 kj7 a5 a6 y310 true bt293.1 0 bt293.2.2.1 bt293.2.2.2.1 bt293.2.2.2.2.1 bt293.2.2.2.2.2.1 bt293.2.2.2.2.2.2.1 bt293.2.2.2.2.2.2.2.1 bt293.2.2.2.2.2.2.2.2.1 bt293.2.2.2.2.2.2.2.2.2)) else (capnplaw07_FarPointersAreFollowed.j1 kj7 a5 a6 y310 true bt293.1 0 bt293.2.2.1 bt293.2.2.2.1 bt293.2.2.2.2.1 bt293.2.2.2.2.2.1 bt293.2.2.2.2.2.2.1 bt293.2.2.2.2.2.2.2.1 bt293.2.2.2.2.2.2.2.2.1 bt293.2.2.2.2.2.2.2.2.2)) else (capnplaw07_FarPointersAreFollowed.j1 kj7 a5 a6 y310 true bt293.1 0 bt293.2.2.1 bt293.2.2.2.1 bt293.2.2.2.2.1 bt293.2.2.2.2.2.1 bt293.2.2.2.2.2.2.1 bt293.2.2.2.2.2.2.2.1 bt293.2.2.2.2.2.2.2.2.1 bt293.2.2.2.2.2.2.2.2.2)) else (capnplaw07_FarPointersAreFollowed.j1 kj7 a5 a6 y310 true bt293.1 0 bt293.2.2.1 bt293.2.2.2.1 bt293.2.2.2.2.1 bt293.2.2.2.2.2.1 bt293.2.2.2.2.2.2.1 bt293.2.2.2.2.2.2.2.1 bt293.2.2.2.2.2.2.2.2.1 bt293.2.2.2.2.2.2.2.2.2)) else (capnplaw07_FarPointersAreFollowed.j1 kj7 a5 a6 y310 true bt293.1 0 bt293.2.2.1 bt293.2.2.2.1 bt293.2.2.2.2.1 bt293.2.2.2.2.2.1 bt293.2.2.2.2.2.2.1 bt293.2.2.2.2.2.2.2.1 bt293.2.2.2.2.2.2.2.2.1 bt293.2.2.2.2.2.2.2.2.2)) else (capnplaw07_FarPointersAreFollowed.j1 kj7 a5 a6 y310 true bt293.1 0 bt293.2.2.1 bt293.2.2.2.1 bt293.2.2.2.2.1 bt293.2.2.2.2.2.1 bt293.2.2.2.2.2.2.1 bt293.2.2.2.2.2.2.2.1 bt293.2.2.2.2.2.2.2.2.1 bt293.2.2.2.2.2.2.2.2.2)) else (capnplaw07_FarPointersAreFollowed.j1 kj7 a5 a6 y310 true bt293.1 0 bt293.2.2.1 bt293.2.2.2.1 bt293.2.2.2.2.1 bt293.2.2.2.2.2.1 bt293.2.2.2.2.2.2.1 bt293.2.2.2.2.2.2.2.1 bt293.2.2.2.2.2.2.2.2.1 bt293.2.2.2.2.2.2.2.2.2))))) else (none)) else (none)) else (none))))))) else (none))) else (none)))) = some r := by rw [if_neg (show ¬ (false = true) by decide)] at H; exact H
        clear H
        have H := H1
        clear H1
        replace H := Option.bind_eq_some_iff.mp H
        obtain ⟨t282, A220, H⟩ := H
        have A22 := Aside0.mk A220
        clear A220
        replace H := Option.bind_eq_some_iff.mp H
        obtain ⟨t283, A230, H⟩ := H
        have A23 := Aside0.mk A230
        clear A230
        obtain ⟨y284, hy284⟩ : ∃ y_ : List Int, y_ = (([t282, t283] : List Int)) := ⟨_, rfl⟩
        replace H : (if ([] : List (List Int)).length < 5864062014805 then ((some (([] : List (List Int)) ++ [y284] : List (List Int))).bind fun y287 => (if y287.length + l0.length < 5864062014805 then ((some (y287 ++ l0 : List (List Int))).bind fun y290 => ((capnpref02_Decode.f kj7 a4).bind fun bt293 => ((capnplaw07_word.f kj7 2 0 0 0 0 0 false (wrap64 (Int.tmod a6 536870912)) (Int.tmod a5 2147483648) 0).bind fun t304 => ((capnplaw07_word.f kj7 bt293.1 0 bt293.2.2.1 bt293.2.2.2.1 bt293.2.2.2.2.1 bt293.2.2.2.2.2.1 bt293.2.2.2.2.2.2.1 bt293.2.2.2.2.2.2.2.1 bt293.2.2.2.2.2.2.2.2.1 bt293.2.2.2.2.2.2.2.2.2).bind fun t305 => ((some (([0, 0, 0, t304, t305] : List Int) : List Int)).bind fun y306 => (if 0 ≤ (Int.tmod a3 3) then (if (Int.tmod a3 3) < (y306.length : Int) then (if y290.length < 5864062014805 then ((some (y290 ++ [(y306.set ((Int.tmod a3 3) : Int).toNat a1)] : List (List Int))).bind fun y310 => ((far_Follow.f y310 0 0).bind fun bt313 => ((far_Follow.f y310 (wrap64 (1 + (l0.length : Int))) (wrap64 (Int.tmod a3 3))).bind fun bt317 => (if bt313.1 = a1 then (if bt313.1 = bt317.1 then (if bt313.2.1 = bt317.2.1 then (if bt313.2.2.1 = bt317.2.2.1 then (if bt313.2.2.2 = 0 then (if bt317.2.2.2 = 0 then (if bt313.2.1 = (wrap64 (1 + (l0.length : Int))) then (capnplaw07_FarPointersAreFollowed.j1 kj7 a5 a6 y310 (bt313.2.2.1 != (wrap64 ((wrap64 (Int.tmod a3 3)) + 1))) bt293.1 0 bt293.2.2.1 bt293.2.2.2.1 bt293.2.2.2.2.1 bt293.2.2.2.2.2.1 bt293.2.2.2.2.2.2.1 bt293.2.2.2.2.2.2.2.1 bt293.2.2.2.2.2.2.2.2.1 bt293.2.2.2.2.2.2.2.2.2) else (capnplaw07_FarPointersAreFollowed.j1 kj7 a5 a6 y310 true bt293.1 0 bt293.2.2.1 bt293.2.2.2.1 bt293.2.2.2.2.1 bt293.2.2.2.2.2.1 bt293.2.2.2.2.2.2.1 bt293.2.2.2.2.2.2.2.1 bt293.2.2.2.2.2.2.2.2.1 bt293.2.2.2.2.2.2.2.2.2)) else (capnplaw07_FarPointersAreFollowed.j1 kj7 a5 a6 y310 true bt293.1 0 bt293.2.2.1 bt293.2.2.2.1 bt293.2.2.2.2.1 bt293.2.2.2.2.2.1 bt293.2.2.2.2.2.2.1 bt293.2.2.2.2.2.2.2.1 bt293.2.2.2.2.2.2.2.2.1 bt293.2.2.2.2.2.2.2.2.2)) else (capnplaw07_FarPointersAreFollowed.j1 kj7 a5 a6 y310 true bt293.1 0 bt293.2.2.1 bt293.2.2.2.1 bt293.2.2.2.2.1 bt293.2.2.2.2.2.1 bt293.2.2.2.2.2.2.1 bt293.2.2.2.2.2.2.2.1 bt293.2.2.2.2.2.2.2.2.1 bt293.2.2.2.2.2.2.2.2.2)) else (capnplaw07_FarPointersAreFollowed.j1 kj7 a5 a6 y310 true bt293.1 0 bt293.2.2.1 bt293.2.2.2.1 bt293.2.2.2.2.1 bt293.2.2.2.2.2.1 bt293.2.2.2.2.2.2.1 bt293.2.2.2.2.2.2.2.1 bt293.2.2.2.2.2.2.2.2.1 bt293.2.2.2.2.2.2.2.2.2)) else (capnplaw07_FarPointersAreFollowed.j1 kj7 a5 a6 y310 true bt293.1 0 bt293.2.2.1 bt293.2.2.2.1 bt293.2.2.2.2.1 bt293.2.2.2.2.2.1 bt293.2.2.2.2.2.2.1 bt293.2.2.2.2.2.2.2.1 bt293.2.2.2.2.2.2.2.2.1 bt293.2.2.2.2.2.2.2.2.2)) else (capnplaw07_FarPointersAreFollowed.j1 kj7 a5 a6 y310 true bt293.1 0 bt293.2.2.1 bt293.2.2.2.1 bt293.2.2.2.2.1 bt293.2.2.2.2.2.1 bt293.2.2.2.2.2.2.1 bt293.2.2.2.2.2.2.2.1 bt293.2.2.2.2.2.2.2.2.1 bt293.2.2.2.2.2.2.2.2.2)) else (capnplaw07_FarPointersAreFollowed.j1 kj7 a5 a6 y310 true bt293.1 0 bt293.2.2.1 bt293.2.2.2.1 bt293.2.2.2.2.1 bt293.2.2.2.2.2.1 bt293.2.2.2.2.2.2.1 bt293.2.2.2.2.2.2.2.1 bt293.2.2.2.2.2.2.2.2.1 bt293.2.2.2.2.2.2.2.2.2))))) else (none)) else (none)) else (none))))))) else (none))) else (none)) = some r := by (rw [hy284]; with_reducible exact H)
        have Ny284 := Aside0.mk hy284
        clear hy284
        by_cases c24 : ([] : List (List Int)).length < 5864062014805
        · rw [if_pos c24] at H
          have LMc24 := Aside0.mk c24
          clear c24
          obtain ⟨y287, hy287⟩ : ∃ y_ : List (List Int), y_ = (([] : List (List Int)) ++ [y284]) := ⟨_, rfl⟩
          replace H : (if y287.length + l0.length < 5864062014805 then ((some (y287 ++ l0 : List (List Int))).bind fun y290 => ((capnpref02_Decode.f kj7 a4).bind fun bt293 => ((capnplaw07_word.f kj7 2 0 0 0 0 0 false (wrap64 (Int.tmod a6 536870912)) (Int.tmod a5 2147483648) 0).bind fun t304 => ((capnplaw07_word.f kj7 bt293.1 0 bt293.2.2.1 bt293.2.2.2.1 bt293.2.2.2.2.1 bt293.2.2.2.2.2.1 bt293.2.2.2.2.2.2.1 bt293.2.2.2.2.2.2.2.1 bt293.2.2.2.2.2.2.2.2.1 bt293.2.2.2.2.2.2.2.2.2).bind fun t305 => ((some (([0, 0, 0, t304, t305] : List Int) : List Int)).bind fun y306 => (if 0 ≤ (Int.tmod a3 3) then (if (Int.tmod a3 3) < (y306.length : Int) then (if y290.length < 5864062014805 then ((some (y290 ++ [(y306.set ((Int.tmod a3 3) : Int).toNat a1)] : List (List Int))).bind fun y310 => ((far_Follow.f y310 0 0).bind fun bt313 => ((far_Follow.f y310 (wrap64 (1 + (l0.length : Int))) (wrap64 (Int.tmod a3 3))).bind fun bt317 => (if bt313.1 = a1 then (if bt313.1 = bt317.1 then (if bt313.2.1 = bt317.2.1 then (if bt313.2.2.1 = bt317.2.2.1 then (if bt313.2.2.2 = 0 then (if bt317.2.2.2 = 0 then (if bt313.2.1 = (wrap64 (1 + (l0.length : Int))) then (capnplaw07_FarPointersAreFollowed.j1 kj7 a5 a6 y310 (bt313.2.2.1 != (wrap64 ((wrap64 (Int.tmod a3 3)) + 1))) bt293.1 0 bt293.2.2.1 bt293.2.2.2.1 bt293.2.2.2.2.1 bt293.2.2.2.2.2.1 bt293.2.2.2.2.2.2.1 bt293.2.2.2.2.2.2.2.1 bt293.2.2.2.2.2.2.2.2.1 bt293.2.2.2.2.2.2.2.2.2) else (capnplaw07_FarPointersAreFollowed.j1 kj7 a5 a6 y310 true bt293.1 0 bt293.2.2.1 bt293.2.2.2.1 bt293.2.2.2.2.1 bt293.2.2.2.2.2.1 bt293.2.2.2.2.2.2.1 bt293.2.2.2.2.2.2.2.1 bt293.2.2.2.2.2.2.2.2.1 bt293.2.2.2.2.2.2.2.2.2)) else (capnplaw07_FarPointersAreFollowed.j1 kj7 a5 a6 y310 true bt293.1 0 bt293.2.2.1 bt293.2.2.2.1 bt293.2.2.2.2.1 bt293.2.2.2.2.2.1 bt293.2.2.2.2.2.2.1 bt293.2.2.2.2.2.2.2.1 bt293.2.2.2.2.2.2.2.2.1 bt293.2.2.2.2.2.2.2.2.2)) else (capnplaw07_FarPointersAreFollowed.j1 kj7 a5 a6 y310 true bt293.1 0 bt293.2.2.1 bt293.2.2.2.1 bt293.2.2.2.2.1 bt293.2.2.2.2.2.1 bt293.2.2.2.2.2.2.1 bt293.2.2.2.2.2.2.2.1 bt293.2.2.2.2.2.2.2.2.1 bt293.2.2.2.2.2.2.2.2.2)) else (capnplaw07_FarPointersAreFollowed.j1 kj7 a5 a6 y310 true bt293.1 0 bt293.2.2.1 bt293.2.2.2.1 bt293.2.2.2.2.1 bt293.2.2.2.2.2.1 bt293.2.2.2.2.2.2.1 bt293.2.2.2.2.2.2.2.1 bt293.2.2.2.2.2.2.2.2.1 bt293.2.2.2.2.2.2.2.2.2)) else (capnplaw07_FarPointersAreFollowed.j1 kj7 a5 a6 y310 true bt293.1 0 bt293.2.2.1 bt293.2.2.2.1 bt293.2.2.2.2.1 bt293.2.2.2.2.2.1 bt293.2.2.2.2.2.2.1 bt293.2.2.2.2.2.2.2.1 bt293.2.2.2.2.2.2.2.2.1 bt293.2.2.2.2.2.2.2.2.2)) else (capnplaw07_FarPointersAreFollowed.j1 kj7 a5 a6 y310 true bt293.1 0 bt293.2.2.1 bt293.2.2.2.1 bt293.2.2.2.2.1 bt293.2.2.2.2.2.1 bt293.2.2.2.2.2.2.1 bt293.2.2.2.2.2.2.2.1 bt293.2.2.2.2.2.2.2.2.1 bt293.2.2.2.2.2.2.2.2.2)) else (capnplaw07_FarPointersAreFollowed.j1 kj7 a5 a6 y310 true bt293.1 0 bt293.2.2.1 bt293.2.2.2.1 bt293.2.2.2.2.1 bt293.2.2.2.2.2.1 bt293.2.2.2.2.2.2.1 bt293.2.2.2.2.2.2.2.1 bt293.2.2.2.2.2.2.2.2.1 bt293.2.2.2.2.2.2.2.2.2))))) else (none)) else (none)) else (none))))))) else (none)) = some r := by (have H2_ := (Option.bind_some _ _).symm.trans H; rw [hy287]; with_reducible exact H2_)
          have Ny287 := Aside0.mk hy287
          clear hy287
          by_cases c25 : y287.length + l0.length < 5864062014805
          · rw [if_pos c25] at H
            have LMc25 := Aside0.mk c25
            clear c25
            obtain ⟨y290, hy290⟩ : ∃ y_ : List (List Int), y_ = (y287 ++ l0) := ⟨_, rfl⟩
            replace H : ((capnpref02_Decode.f kj7 a4).bind fun bt293 => ((capnplaw07_word.f kj7 2 0 0 0 0 0 false (wrap64 (Int.tmod a6 536870912)) (Int.tmod a5 2147483648) 0).bind fun t304 => ((capnplaw07_word.f kj7 bt293.1 0 bt293.2.2.1 bt293.2.2.2.1 bt293.2.2.2.2.1 bt293.2.2.2.2.2.1 bt293.2.2.2.2.2.2.1 bt293.2.2.2.2.2.2.2.1 bt293.2.2.2.2.2.2.2.2.1 bt293.2.2.2.2.2.2.2.2.2).bind fun t305 => ((some (([0, 0, 0, t304, t305] : List Int) : List Int)).bind fun y306 => (if 0 ≤ (Int.tmod a3 3) then (if (Int.tmod a3 3) < (y306.length : Int) then (if y290.length < 5864062014805 then ((some (y290 ++ [(y306.set ((Int.tmod a3 3) : Int).toNat a1)] : List (List Int))).bind fun y310 => ((far_Follow.f y310 0 0).bind fun bt313 => ((far_Follow.f y310 (wrap64 (1 + (l0.length : Int))) (wrap64 (Int.tmod a3 3))).bind fun bt317 => (if bt313.1 = a1 then (if bt313.1 = bt317.1 then (if bt313.2.1 = bt317.2.1 then (if bt313.2.2.1 = bt317.2.2.1 then (if bt313.2.2.2 = 0 then (if bt317.2.2.2 = 0 then (if bt313.2.1 = (wrap64 (1 + (l0.length : Int))) then (capnplaw07_FarPointersAreFollowed.j1 kj7 a5 a6 y310 (bt313.2.2.1 != (wrap64 ((wrap64 (Int.tmod a3 3)) + 1))) bt293.1 0 bt293.2.2.1 bt293.2.2.2.1 bt293.2.2.2.2.1 bt293.2.2.2.2.2.1 bt293.2.2.2.2.2.2.1 bt293.2.2.2.2.2.2.2.1 bt293.2.2.2.2.2.2.2.2.1 bt293.2.2.2.2.2.2.2.2.2) else (capnplaw07_FarPointersAreFollowed.j1 kj7 a5 a6 y310 true bt293.1 0 bt293.2.2.1 bt293.2.2.2.1 bt293.2.2.2.2.1 bt293.2.2.2.2.2.1 bt293.2.2.2.2.2.2.1 bt293.2.2.2.2.2.2.2.1 bt293.2.2.2.2.2.2.2.2.1 bt293.2.2.2.2.2.2.2.2.2)) else (capnplaw07_FarPointersAreFollowed.j1 kj7 a5 a6 y310 true bt293.1 0 bt293.2.2.1 bt293.2.2.2.1 bt293.2.2.2.2.1 bt293.2.2.2.2.2.1 bt293.2.2.2.2.2.2.1 bt293.2.2.2.2.2.2.2.1 bt293.2.2.2.2.2.2.2.2.1 bt293.2.2.2.2.2.2.2.2.2)) else (capnplaw07_FarPointersAreFollowed.j1 kj7 a5 a6 y310 true bt293.1 0 bt293.2.2.1 bt293.2.2.2.1 bt293.2.2.2.2.1 bt293.2.2.2.2.2.1 bt293.2.2.2.2.2.2.1 bt293.2.2.2.2.2.2.2.1 bt293.2.2.2.2.2.2.2.2.1 bt293.2.2.2.2.2.2.2.2.2)) else (capnplaw07_FarPointersAreFollowed.j1 kj7 a5 a6 y310 true bt293.1 0 bt293.2.2.1 bt293.2.2.2.1 bt293.2.2.2.2.1 bt293.2.2.2.2.2.1 bt293.2.2.2.2.2.2.1 bt293.2.2.2.2.2.2.2.1 bt293.2.2.2.2.2.2.2.2.1 bt293.2.2.2.2.2.2.2.2.2)) else (capnplaw07_FarPointersAreFollowed.j1 kj7 a5 a6 y310 true bt293.1 0 bt293.2.2.1 bt293.2.2.2.1 bt293.2.2.2.2.1 bt293.2.2.2.2.2.1 bt293.2.2.2.2.2.2.1 bt293.2.2.2.2.2.2.2.1 bt293.2.2.2.2.2.2.2.2.1 bt293.2.2.2.2.2.2.2.2.2)) else (capnplaw07_FarPointersAreFollowed.j1 kj7 a5 a6 y310 true bt293.1 0 bt293.2.2.1 bt293.2.2.2.1 bt293.2.2.2.2.1 bt293.2.2.2.2.2.1 bt293.2.2.2.2.2.2.1 bt293.2.2.2.2.2.2.2.1 bt293.2.2.2.2.2.2.2.2.1 bt293.2.2.2.2.2.2.2.2.2)) else (capnplaw07_FarPointersAreFollowed.j1 kj7 a5 a6 y310 true bt293.1 0 bt293.2.2.1 bt293.2.2.2.1 bt293.2.2.2.2.1 bt293.2.2.2.2.2.1 bt293.2.2.2.2.2.2.1 bt293.2.2.2.2.2.2.2.1 bt293.2.2.2.2.2.2.2.2.1 bt293.2.2.2.2.2.2.2.2.2))))) else (none)) else (none)) else (none)))))) = some r := by (have H2_ := (Option.bind_some _ _).symm.trans H; rw [hy290]; with_reducible exact H2_)
            have Ny290 := Aside0.mk hy290
            clear hy290
            replace H := Option.bind_eq_some_iff.mp H
            obtain ⟨⟨t293, t294, t295, t296, t297, t298, t299, t300, t301, t302⟩, A260, H⟩ := H
            dsimp only at H
            have A26 := Aside0.mk A260
            clear A260
            replace H := Option.bind_eq_some_iff.mp H
            obtain ⟨t304, A270, H⟩ := H
            have A27 := Aside0.mk A270
            clear A270
            replace H := Option.bind_eq_some_iff.mp H
            obtain ⟨t305, A280, H⟩ := H
            have A28 := Aside0.mk A280
            clear A280
            obtain ⟨y306, hy306⟩ : ∃ y_ : List Int, y_ = (([0, 0, 0, t304, t305] : List Int)) := ⟨_, rfl⟩
            replace H : (if 0 ≤ (Int.tmod a3 3) then (if (Int.tmod a3 3) < (y306.length : Int) then (if y290.length < 5864062014805 then ((some (y290 ++ [(y306.set ((Int.tmod a3 3) : Int).toNat a1)] : List (List Int))).bind fun y310 => ((far_Follow.f y310 0 0).bind fun bt313 => ((far_Follow.f y310 (wrap64 (1 + (l0.length : Int))) (wrap64 (Int.tmod a3 3))).bind fun bt317 => (if bt313.1 = a1 then (if bt313.1 = bt317.1 then (if bt313.2.1 = bt317.2.1 then (if bt313.2.2.1 = bt317.2.2.1 then (if bt313.2.2.2 = 0 then (if bt317.2.2.2 = 0 then (if bt313.2.1 = (wrap64 (1 + (l0.length : Int))) then (capnplaw07_FarPointersAreFollowed.j1 kj7 a5 a6 y310 (bt313.2.2.1 != (wrap64 ((wrap64 (Int.tmod a3 3)) + 1))) t293 0 t295 t296 t297 t298 t299 t300 t301 t302) else (capnplaw07_FarPointersAreFollowed.j1 kj7 a5 a6 y310 true t293 0 t295 t296 t297 t298 t299 t300 t301 t302)) else (capnplaw07_FarPointersAreFollowed.j1 kj7 a5 a6 y310 true t293 0 t295 t296 t297 t298 t299 t300 t301 t302)) else (capnplaw07_FarPointersAreFollowed.j1 kj7 a5 a6 y310 true t293 0 t295 t296 t297 t298 t299 t300 t301 t302)) else (capnplaw07_FarPointersAreFollowed.j1 kj7 a5 a6 y310 true t293 0 t295 t296 t297 t298 t299 t300 t301 t302)) else (capnplaw07_FarPointersAreFollowed.j1 kj7 a5 a6 y310 true t293 0 t295 t296 t297 t298 t299 t300 t301 t302)) else (capnplaw07_FarPointersAreFollowed.j1 kj7 a5 a6 y310 true t293 0 t295 t296 t297 t298 t299 t300 t301 t302)) else (capnplaw07_FarPointersAreFollowed.j1 kj7 a5 a6 y310 true t293 0 t295 t296 t297 t298 t299 t300 t301 t302))))) else (none)) else (none)) else (none)) = some r := by (have H2_ := (Option.bind_some _ _).symm.trans H; rw [hy306]; with_reducible exact H2_)
            have Ny306 := Aside0.mk hy306
            clear hy306
            obtain ⟨ji29, hji29⟩ : ∃ j_ : Int, (Int.tmod a3 3) = j_ := ⟨_, rfl⟩
            replace H : (if 0 ≤ (ji29) then (if (ji29) < (y306.length : Int) then (if y290.length < 5864062014805 then ((some (y290 ++ [(y306.set ((ji29) : Int).toNat a1)] : List (List Int))).bind fun y310 => ((far_Follow.f y310 0 0).bind fun bt313 => ((far_Follow.f y310 (wrap64 (1 + (l0.length : Int))) (wrap64 (ji29))).bind fun bt317 => (if bt313.1 = a1 then (if bt313.1 = bt317.1 then (if bt313.2.1 = bt317.2.1 then (if bt313.2.2.1 = bt317.2.2.1 then (if bt313.2.2.2 = 0 then (if bt317.2.2.2 = 0 then (if bt313.2.1 = (wrap64 (1 + (l0.length : Int))) then (capnplaw07_FarPointersAreFollowed.j1 kj7 a5 a6 y310 (bt313.2.2.1 != (wrap64 ((wrap64 (ji29)) + 1))) t293 0 t295 t296 t297 t298 t299 t300 t301 t302) else (capnplaw07_FarPointersAreFollowed.j1 kj7 a5 a6 y310 true t293 0 t295 t296 t297 t298 t299 t300 t301 t302)) else (capnplaw07_FarPointersAreFollowed.j1 kj7 a5 a6 y310 true t293 0 t295 t296 t297 t298 t299 t300 t301 t302)) else (capnplaw07_FarPointersAreFollowed.j1 kj7 a5 a6 y310 true t293 0 t295 t296 t297 t298 t299 t300 t301 t302)) else (capnplaw07_FarPointersAreFollowed.j1 kj7 a5 a6 y310 true t293 0 t295 t296 t297 t298 t299 t300 t301 t302)) else (capnplaw07_FarPointersAreFollowed.j1 kj7 a5 a6 y310 true t293 0 t295 t296 t297 t298 t299 t300 t301 t302)) else (capnplaw07_FarPointersAreFollowed.j1 kj7 a5 a6 y310 true t293 0 t295 t296 t297 t298 t299 t300 t301 t302)) else (capnplaw07_FarPointersAreFollowed.j1 kj7 a5 a6 y310 true t293 0 t295 t296 t297 t298 t299 t300 t301 t302))))) else (none)) else (none)) else (none)) = some r := by (rw [hji29] at H; exact H)
            (try rw [hji29] at A22)
            (skip)
            (skip)
            (skip)
            (skip)
            by_cases c30 : 0 ≤ (ji29)
            · rw [if_pos c30] at H
              have c30b0 : decide (0 ≤ (ji29)) = true := decide_eq_true c30
              clear c30
              by_cases c31 : (ji29) < (y306.length : Int)
              · rw [if_pos c31] at H
                have c31b0 : decide ((ji29) < (y306.length : Int)) = true := decide_eq_true c31
                clear c31
                obtain ⟨y309, hy309⟩ : ∃ y_ : List Int, y_ = (y306.set ((ji29) : Int).toNat a1) := ⟨_, rfl⟩
                replace H : (if y290.length < 5864062014805 then ((some (y290 ++ [y309] : List (List Int))).bind fun y310 => ((far_Follow.f y310 0 0).bind fun bt313 => ((far_Follow.f y310 (wrap64 (1 + (l0.length : Int))) (wrap64 (ji29))).bind fun bt317 => (if bt313.1 = a1 then (if bt313.1 = bt317.1 then (if bt313.2.1 = bt317.2.1 then (if bt313.2.2.1 = bt317.2.2.1 then (if bt313.2.2.2 = 0 then (if bt317.2.2.2 = 0 then (if bt313.2.1 = (wrap64 (1 + (l0.length : Int))) then (capnplaw07_FarPointersAreFollowed.j1 kj7 a5 a6 y310 (bt313.2.2.1 != (wrap64 ((wrap64 (ji29)) + 1))) t293 0 t295 t296 t297 t298 t299 t300 t301 t302) else (capnplaw07_FarPointersAreFollowed.j1 kj7 a5 a6 y310 true t293 0 t295 t296 t297 t298 t299 t300 t301 t302)) else (capnplaw07_FarPointersAreFollowed.j1 kj7 a5 a6 y310 true t293 0 t295 t296 t297 t298 t299 t300 t301 t302)) else (capnplaw07_FarPointersAreFollowed.j1 kj7 a5 a6 y310 true t293 0 t295 t296 t297 t298 t299 t300 t301 t302)) else (capnplaw07_FarPointersAreFollowed.j1 kj7 a5 a6 y310 true t293 0 t295 t296 t297 t298 t299 t300 t301 t302)) else (capnplaw07_FarPointersAreFollowed.j1 kj7 a5 a6 y310 true t293 0 t295 t296 t297 t298 t299 t300 t301 t302)) else (capnplaw07_FarPointersAreFollowed.j1 kj7 a5 a6 y310 true t293 0 t295 t296 t297 t298 t299 t300 t301 t302)) else (capnplaw07_FarPointersAreFollowed.j1 kj7 a5 a6 y310 true t293 0 t295 t296 t297 t298 t299 t300 t301 t302))))) else (none)) = some r := by (rw [hy309]; with_reducible exact H)
                have Ny309 := Aside0.mk hy309
                clear hy309
                by_cases c33 : y290.length < 5864062014805
                · rw [if_pos c33] at H
                  have LMc33 := Aside0.mk c33
                  clear c33
                  obtain ⟨y310, hy310⟩ : ∃ y_ : List (List Int), y_ = (y290 ++ [y309]) := ⟨_, rfl⟩
                  replace H : ((far_Follow.f y310 0 0).bind fun bt313 => ((far_Follow.f y310 (wrap64 (1 + (l0.length : Int))) (wrap64 (ji29))).bind fun bt317 => (if bt313.1 = a1 then (if bt313.1 = bt317.1 then (if bt313.2.1 = bt317.2.1 then (if bt313.2.2.1 = bt317.2.2.1 then (if bt313.2.2.2 = 0 then (if bt317.2.2.2 = 0 then (if bt313.2.1 = (wrap64 (1 + (l0.length : Int))) then (capnplaw07_FarPointersAreFollowed.j1 kj7 a5 a6 y310 (bt313.2.2.1 != (wrap64 ((wrap64 (ji29)) + 1))) t293 0 t295 t296 t297 t298 t299 t300 t301 t302) else (capnplaw07_FarPointersAreFollowed.j1 kj7 a5 a6 y310 true t293 0 t295 t296 t297 t298 t299 t300 t301 t302)) else (capnplaw07_FarPointersAreFollowed.j1 kj7 a5 a6 y310 true t293 0 t295 t296 t297 t298 t299 t300 t301 t302)) else (capnplaw07_FarPointersAreFollowed.j1 kj7 a5 a6 y310 true t293 0 t295 t296 t297 t298 t299 t300 t301 t302)) else (capnplaw07_FarPointersAreFollowed.j1 kj7 a5 a6 y310 true t293 0 t295 t296 t297 t298 t299 t300 t301 t302)) else (capnplaw07_FarPointersAreFollowed.j1 kj7 a5 a6 y310 true t293 0 t295 t296 t297 t298 t299 t300 t301 t302)) else (capnplaw07_FarPointersAreFollowed.j1 kj7 a5 a6 y310 true t293 0 t295 t296 t297 t298 t299 t300 t301 t302)) else (capnplaw07_FarPointersAreFollowed.j1 kj7 a5 a6 y310 true t293 0 t295 t296 t297 t298 t299 t300 t301 t302)))) = some r := by (have H2_ := (Option.bind_some _ _).symm.trans H; rw [hy310]; with_reducible exact H2_)
                  have Ny310 := Aside0.mk hy310
                  clear hy310
                  replace H := Option.bind_eq_some_iff.mp H
                  obtain ⟨⟨t313, t314, t315, t316⟩, A340, H⟩ := H
                  dsimp only at H
                  have A34 := Aside0.mk A340
                  clear A340
                  replace H := Option.bind_eq_some_iff.mp H
                  obtain ⟨⟨t317, t318, t319, t320⟩, A350, H⟩ := H
                  dsimp only at H
                  have A35 := Aside0.mk A350
                  clear A350
                  have HC36 := Aside0.mk H
                  clear H
                  try go_wp2_with (first | ((with_reducible refine gate_callee (f := 20) rfl ?_); refine goesL_ (some 56) rfl rfl Tryd.func20 (by kernel_rfl) rfl #[.agg #[.int .i64 2, .int .i64 0, .int .i64 0, .int .i64 0, .int .i64 0, .int .i64 0, .bool false, .int .i64 (wrap64 (ji29)), .int .u32 ((1 + (l0.length : Int)) % 4294967296), .int .u32 0]] rfl (by (try simp only [List.map_toArray, List.map_cons, List.map_nil]); rfl) ?_; (with_reducible refine (capnplaw07_word.calls kj7 2 0 0 0 0 0 false (wrap64 (ji29)) ((1 + (l0.length : Int)) % 4294967296) 0 t282 _ A22.out).mono ?_); rintro e w37 ⟨rfl, hb⟩; refine ⟨_, rfl, ?_⟩; replace HO_0 := Aside0.mk (Kd.V_below HO_0.out hb); replace HB := Aside0.mk (below_step HB.out hb); (try clear hb)) | ((with_reducible refine gate_callee (f := 20) rfl ?_); refine goesL_ (some 62) rfl rfl Tryd.func20 (by kernel_rfl) rfl #[.agg #[.int .i64 2, .int .i64 0, .int .i64 0, .int .i64 0, .int .i64 0, .int .i64 0, .bool true, .int .i64 3, .int .u32 ((1 + (l0.length : Int)) % 4294967296), .int .u32 0]] rfl (by (try simp only [List.map_toArray, List.map_cons, List.map_nil]); rfl) ?_; (with_reducible refine (capnplaw07_word.calls kj7 2 0 0 0 0 0 true 3 ((1 + (l0.length : Int)) % 4294967296) 0 t283 _ A23.out).mono ?_); rintro e w38 ⟨rfl, hb⟩; refine ⟨_, rfl, ?_⟩; replace HO_0 := Aside0.mk (Kd.V_below HO_0.out hb); replace HB := Aside0.mk (below_step HB.out hb); (try clear hb)) | ((with_reducible refine gate_dst (N := 63) rfl ?_); (try (refine gate_guard (by rfl) ?_; dsimp only)); refine Kd.R_lit (Kd.int .u64) _ 23 ?hg (N := 63) ?hd (xs := ([t282, t283] : List Int)) (inner := [.int .u64 t282, .int .u64 t283]) (ok := fun _ => True) (okp := fun _ => True) ?hr ?hp (fun _ hk => hk) trivial (Below.refl _ _) (Nat.le_refl _) (by simp) ?_; (case hd => rfl); (case hg => rfl); (case hr => (go_simp; done)); (case hp => exact (Reps.one (show Kd.M (Kd.int .u64) _ _ _ t282 [.int .u64 t282] from rfl) (Reps.one (show Kd.M (Kd.int .u64) _ _ _ t283 [.int .u64 t283] from rfl) (Reps.none _ _)))); intro v285 w39 ho40 hb hg_ hnew_; clear hg_ hnew_; ((rw [← Ny284.out] at ho40)); replace HO_0 := Aside0.mk (Kd.V_elder' HO_0.out (Kd.R_base ho40) hb); replace HO286 := Aside0.mk (Kd.R_lower (Kd.R_newM (M := fun k_ => (w.heap.size ≤ k_)) ho40 (below_size HB.out) (fun k_ h_ => h_)) (below_size HB.out)); replace HB := Aside0.mk (below_step HB.out hb); clear hb ho40; obtain ⟨Ao42, co42, eo42⟩ := Kd.R_slice HO286.out; subst eo42) | ((with_reducible refine gate_builtin (b := .append) (xs := #[.tmp 47, .tmp 64]) rfl ?_); (try (refine gate_guard (by rfl) ?_; dsimp only)); at_builtin; refine Kd.N_append (Kd.slice 23 (Kd.int .u64)) (w0 := w) w.heap.size rfl (.tmp 47) (.tmp 64) 22 40 (.slice none 0 0) 24 rfl Tryd.underlying22 info40 rfl (by decide) (by omega) (.slice none 0 0) ([] : List (List Int)) y284 [.slice Ao42 y284.length co42] (fun k_ => (P0_ k_ ∨ w.heap.size ≤ k_)) (fun k_ => ((fun k_ => (P0_ k_ ∨ w.heap.size ≤ k_))) k_ ∧ some k_ ≠ (.slice none 0 0 : Value).ownBlock) rfl rfl ?aP (fun _ hk => hk) ?aF ?aO ?aB ?aS ?aL ?_; (case aP => (exact (Kd.FK_slice_mk (Kd.R_reads' (Kd.R_mono (ok' := (fun k_ => ((fun k_ => (P0_ k_ ∨ w.heap.size ≤ k_))) k_ ∧ some k_ ≠ (.slice none 0 0 : Value).ownBlock)) (HO286.out) (fun k_ hk => ⟨(.inr (hk.1)), (by simp [Value.ownBlock])⟩))).2.1 (Kd.R_F (Kd.R_mono (ok' := (fun k_ => ((fun k_ => (P0_ k_ ∨ w.heap.size ≤ k_))) k_ ∧ some k_ ≠ (.slice none 0 0 : Value).ownBlock)) (HO286.out) (fun k_ hk => ⟨(.inr (hk.1)), (by simp [Value.ownBlock])⟩)))))); (case aB => exact HB.out); (case aF => exact (fun k_ hk => (.inr (Nat.le_trans (below_size HB.out) hk)))); (case aO => exact ((Kd.N_nil _ _ _ _ (fun k_ => (P0_ k_ ∨ w.heap.size ≤ k_))))); (case aS => exact (below_size HB.out)); (case aL => have := LMc24.out; omega); intro v288 w41 ho hb hg hat; rw [← Ny287.out] at ho; replace HO_0 := Aside0.mk (Kd.V_afterv (Kd.V_apart_nil HO_0.out) hg hat); replace HB := Aside0.mk (hb); replace HO289 := Aside0.mk (ho); clear HO286 ho hb hg hat) | ((with_reducible refine gate_builtin (b := .append) (xs := #[.tmp 66, .tmp 67]) rfl ?_); (try (refine gate_guard (by rfl) ?_; dsimp only)); at_builtin; refine Kd.N_append_rows (Kd.slice 23 (Kd.int .u64)) (w0 := w) w.heap.size rfl (.tmp 66) (.tmp 67) 22 40 (.slice none 0 0) 24 rfl Tryd.underlying22 info40 rfl (by decide) (by omega) v288 y287 l0 _ _ _ (fun k_ => (P0_ k_ ∨ w.heap.size ≤ k_)) (fun k_ => ((fun k_ => (P0_ k_ ∨ w.heap.size ≤ k_))) k_ ∧ some k_ ≠ (v288 : Value).ownBlock) rfl rfl ?aO ?aR (fun _ hk => hk) ?aF ?aB ?aS ?aL ?_; (case aR => exact (by skip; exact Kd.V_F (Kd.V_mono (ok' := (fun k_ => ((fun k_ => (P0_ k_ ∨ w.heap.size ≤ k_))) k_ ∧ some k_ ≠ (v288 : Value).ownBlock)) (HO_0.out) (fun k_ hk => ⟨hk.1.1, hk.2⟩)))); (case aB => exact HB.out); (case aF => exact (fun k_ hk => (.inr (Nat.le_trans (below_size HB.out) hk)))); (case aO => exact HO289.out); (case aS => exact (below_size HB.out)); (case aL => have := LMc25.out; omega); intro v291 w43 ho hb hg hat; rw [← Ny290.out] at ho; replace HO_0 := Aside0.mk (Kd.V_afterv (ok := (fun k_ => (P0_ k_ ∨ w.heap.size ≤ k_))) (by exact Kd.V_mono HO_0.out (fun _ hk => ⟨hk.1.1, hk.2⟩)) hg hat); replace HB := Aside0.mk (hb); replace HO292 := Aside0.mk (ho); clear HO289 ho hb hg hat) | ((with_reducible refine gate_callee (f := 21) rfl ?_); refine goesL_ (some 70) rfl rfl Tryd.func21 (by kernel_rfl) rfl #[.int .u64 a4] rfl (by (try simp only [List.map_toArray, List.map_cons, List.map_nil]); rfl) ?_; (with_reducible refine (capnpref02_Decode.calls kj7 a4 t293 t294 t295 t296 t297 t298 t299 t300 t301 t302 _ A26.out).mono ?_); rintro e w44 ⟨rfl, hb⟩; refine ⟨_, rfl, ?_⟩; replace HO_0 := Aside0.mk (Kd.V_below HO_0.out hb); replace HO292 := Aside0.mk (Kd.N_below HO292.out hb); replace HB := Aside0.mk (below_step HB.out hb); (try clear hb)) | ((with_reducible refine gate_dst (N := 16) rfl ?_); (try (refine gate_guard (by rfl) ?_; dsimp only)); refine box_event ?hg (N := 16) ?hd (cs := #[.int .i64 0, .int .i64 0, .int .i64 0, .int .i64 0, .int .i64 0, .int .i64 0, .bool false, .int .i64 0, .int .u32 0, .int .u32 0]) (t := 39) ?hr ?_; (case hd => rfl); (case hg => rfl); (case hr => (go_simp; done)); intro gb303 hg w45 hbox hb; replace HO_0 := Aside0.mk (Kd.V_below (Kd.V_elderB HO_0.out gb303 (Nat.le_of_eq hg.symm)) hb); replace HO292 := Aside0.mk (Kd.N_below (Kd.N_elderB HO292.out gb303 (Nat.le_of_eq hg.symm)) hb); replace BK303 := Aside0.mk (hbox); replace GE303 := Aside0.mk (ge_of HB.out hg); replace HB := Aside0.mk (below_step HB.out hb); clear hb hbox hg; obtain ⟨hcz46_0, hcz46_1, hcz46_2, hcz46_3, hcz46_4, hcz46_5, hcz46_6, hcz46_7, hcz46_8, hcz46_9⟩ := cells10 BK303.out; obtain ⟨hfz46_0, hfz46_1, hfz46_2, hfz46_3, hfz46_4, hfz46_5, hfz46_6, hfz46_7, hfz46_8, hfz46_9⟩ := frz10 BK303.out))
                  have n0_ : Aside0 (Kd.V (Kd.slice 23 (Kd.int .u64)) 40 (((((((((((w45.setCell ⟨gb303, 0, none⟩ (.int .i64 t293)).setCell ⟨gb303, 1, none⟩ (.int .i64 t294)).setCell ⟨gb303, 2, none⟩ (.int .i64 t295)).setCell ⟨gb303, 3, none⟩ (.int .i64 t296)).setCell ⟨gb303, 4, none⟩ (.int .i64 t297)).setCell ⟨gb303, 5, none⟩ (.int .i64 t298)).setCell ⟨gb303, 6, none⟩ (.bool t299)).setCell ⟨gb303, 7, none⟩ (.int .i64 t300)).setCell ⟨gb303, 8, none⟩ (.int .u32 t301)).setCell ⟨gb303, 9, none⟩ (.int .u32 t302)).setCell ⟨gb303, 1, none⟩ (.int .i64 0)) w.heap.size (fun k_ => (P0_ k_ ∨ w.heap.size ≤ k_) ∧ some k_ ≠ (v291 : Value).ownBlock ∧ k_ ≠ gb303) (.slice A0 l0.length c0) l0) := ⟨by exact Kd.V_mono (Kd.V_far (p := ⟨gb303, 1, none⟩) (Kd.V_far (p := ⟨gb303, 9, none⟩) (Kd.V_far (p := ⟨gb303, 8, none⟩) (Kd.V_far (p := ⟨gb303, 7, none⟩) (Kd.V_far (p := ⟨gb303, 6, none⟩) (Kd.V_far (p := ⟨gb303, 5, none⟩) (Kd.V_far (p := ⟨gb303, 4, none⟩) (Kd.V_far (p := ⟨gb303, 3, none⟩) (Kd.V_far (p := ⟨gb303, 2, none⟩) (Kd.V_far (p := ⟨gb303, 1, none⟩) (Kd.V_far (p := ⟨gb303, 0, none⟩) (Kd.V_mono HO_0.out (fun k_ hk => (⟨hk, hk.2⟩ : _ ∧ k_ ≠ gb303))) (fun _ hk => hk.2) (.int .i64 t293)) (fun _ hk => hk.2) (.int .i64 t294)) (fun _ hk => hk.2) (.int .i64 t295)) (fun _ hk => hk.2) (.int .i64 t296)) (fun _ hk => hk.2) (.int .i64 t297)) (fun _ hk => hk.2) (.int .i64 t298)) (fun _ hk => hk.2) (.bool t299)) (fun _ hk => hk.2) (.int .i64 t300)) (fun _ hk => hk.2) (.int .u32 t301)) (fun _ hk => hk.2) (.int .u32 t302)) (fun _ hk => hk.2) (.int .i64 0)) (fun _ hk => ⟨hk.1.1.1, ⟨hk.1.1.2, hk.1.2⟩⟩)⟩
                  have n1_ : Aside0 (Kd.N (Kd.slice 23 (Kd.int .u64)) 40 (((((((((((w45.setCell ⟨gb303, 0, none⟩ (.int .i64 t293)).setCell ⟨gb303, 1, none⟩ (.int .i64 t294)).setCell ⟨gb303, 2, none⟩ (.int .i64 t295)).setCell ⟨gb303, 3, none⟩ (.int .i64 t296)).setCell ⟨gb303, 4, none⟩ (.int .i64 t297)).setCell ⟨gb303, 5, none⟩ (.int .i64 t298)).setCell ⟨gb303, 6, none⟩ (.bool t299)).setCell ⟨gb303, 7, none⟩ (.int .i64 t300)).setCell ⟨gb303, 8, none⟩ (.int .u32 t301)).setCell ⟨gb303, 9, none⟩ (.int .u32 t302)).setCell ⟨gb303, 1, none⟩ (.int .i64 0)) w.heap.size (fun k_ => (P0_ k_ ∨ w.heap.size ≤ k_) ∧ k_ ≠ gb303) v291 y290) := ⟨by exact Kd.N_mono (Kd.N_far (p := ⟨gb303, 1, none⟩) (Kd.N_far (p := ⟨gb303, 9, none⟩) (Kd.N_far (p := ⟨gb303, 8, none⟩) (Kd.N_far (p := ⟨gb303, 7, none⟩) (Kd.N_far (p := ⟨gb303, 6, none⟩) (Kd.N_far (p := ⟨gb303, 5, none⟩) (Kd.N_far (p := ⟨gb303, 4, none⟩) (Kd.N_far (p := ⟨gb303, 3, none⟩) (Kd.N_far (p := ⟨gb303, 2, none⟩) (Kd.N_far (p := ⟨gb303, 1, none⟩) (Kd.N_far (p := ⟨gb303, 0, none⟩) (Kd.N_mono HO292.out (fun k_ hk => (⟨hk, hk.2⟩ : _ ∧ k_ ≠ gb303))) (fun _ hk => hk.2) (.int .i64 t293)) (fun _ hk => hk.2) (.int .i64 t294)) (fun _ hk => hk.2) (.int .i64 t295)) (fun _ hk => hk.2) (.int .i64 t296)) (fun _ hk => hk.2) (.int .i64 t297)) (fun _ hk => hk.2) (.int .i64 t298)) (fun _ hk => hk.2) (.bool t299)) (fun _ hk => hk.2) (.int .i64 t300)) (fun _ hk => hk.2) (.int .u32 t301)) (fun _ hk => hk.2) (.int .u32 t302)) (fun _ hk => hk.2) (.int .i64 0)) (fun _ hk => ⟨hk.1.1, hk.1.2⟩)⟩
                  have n2_ : Aside0 ((((((((((((w45.setCell ⟨gb303, 0, none⟩ (.int .i64 t293)).setCell ⟨gb303, 1, none⟩ (.int .i64 t294)).setCell ⟨gb303, 2, none⟩ (.int .i64 t295)).setCell ⟨gb303, 3, none⟩ (.int .i64 t296)).setCell ⟨gb303, 4, none⟩ (.int .i64 t297)).setCell ⟨gb303, 5, none⟩ (.int .i64 t298)).setCell ⟨gb303, 6, none⟩ (.bool t299)).setCell ⟨gb303, 7, none⟩ (.int .i64 t300)).setCell ⟨gb303, 8, none⟩ (.int .u32 t301)).setCell ⟨gb303, 9, none⟩ (.int .u32 t302)).setCell ⟨gb303, 1, none⟩ (.int .i64 0)).heap[gb303]? = some (.cells #[.int .i64 t293, .int .i64 0, .int .i64 t295, .int .i64 t296, .int .i64 t297, .int .i64 t298, .bool t299, .int .i64 t300, .int .u32 t301, .int .u32 t302] 39 (0, 0))) := ⟨by refine blk_put (cs := #[.int .i64 t293, .int .i64 t294, .int .i64 t295, .int .i64 t296, .int .i64 t297, .int .i64 t298, .bool t299, .int .i64 t300, .int .u32 t301, .int .u32 t302]) ?_ 1 _ rfl; exact put10 BK303.out⟩
                  have n3_ : Aside0 (Below w.heap.size w (((((((((((w45.setCell ⟨gb303, 0, none⟩ (.int .i64 t293)).setCell ⟨gb303, 1, none⟩ (.int .i64 t294)).setCell ⟨gb303, 2, none⟩ (.int .i64 t295)).setCell ⟨gb303, 3, none⟩ (.int .i64 t296)).setCell ⟨gb303, 4, none⟩ (.int .i64 t297)).setCell ⟨gb303, 5, none⟩ (.int .i64 t298)).setCell ⟨gb303, 6, none⟩ (.bool t299)).setCell ⟨gb303, 7, none⟩ (.int .i64 t300)).setCell ⟨gb303, 8, none⟩ (.int .u32 t301)).setCell ⟨gb303, 9, none⟩ (.int .u32 t302)).setCell ⟨gb303, 1, none⟩ (.int .i64 0))) := ⟨by repeat ((with_reducible first | exact HB.out | refine below_set ?_ GE303.out))⟩
                  (try clear HO_0)
                  (try clear HO292)
                  (try clear BK303)
                  (try clear HB)
                  generalize (((((((((((w45.setCell ⟨gb303, 0, none⟩ (.int .i64 t293)).setCell ⟨gb303, 1, none⟩ (.int .i64 t294)).setCell ⟨gb303, 2, none⟩ (.int .i64 t295)).setCell ⟨gb303, 3, none⟩ (.int .i64 t296)).setCell ⟨gb303, 4, none⟩ (.int .i64 t297)).setCell ⟨gb303, 5, none⟩ (.int .i64 t298)).setCell ⟨gb303, 6, none⟩ (.bool t299)).setCell ⟨gb303, 7, none⟩ (.int .i64 t300)).setCell ⟨gb303, 8, none⟩ (.int .u32 t301)).setCell ⟨gb303, 9, none⟩ (.int .u32 t302)).setCell ⟨gb303, 1, none⟩ (.int .i64 0)) = w47 at n0_ n1_ n2_ n3_ ⊢
                  have HO_0 := n0_
                  have HO292 := n1_
                  have BK303 := n2_
                  have HB := n3_
                  (try clear n0_; try clear n1_; try clear n2_; try clear n3_)
                  have n0_ := Aside0.mk (Kd.V_drew HO_0.out)
                  have n1_ := Aside0.mk (Kd.N_drew HO292.out)
                  have n2_ := Aside0.mk (blk_drew BK303.out)
                  have n3_ := Aside0.mk (below_drew1 HB.out)
                  clear HO_0
                  clear HO292
                  clear BK303
                  clear HB
                  have HO_0 := n0_
                  have HO292 := n1_
                  have BK303 := n2_
                  have HB := n3_
                  (try clear n0_; try clear n1_; try clear n2_; try clear n3_)
                  refine start_ (n := 11) (S := fun w' => w'.cell? ⟨gb303, 0, none⟩ = some (.int .i64 t293) ∧ w'.cell? ⟨gb303, 1, none⟩ = some (.int .i64 0) ∧ w'.cell? ⟨gb303, 2, none⟩ = some (.int .i64 t295) ∧ w'.cell? ⟨gb303, 3, none⟩ = some (.int .i64 t296) ∧ w'.cell? ⟨gb303, 4, none⟩ = some (.int .i64 t297) ∧ w'.cell? ⟨gb303, 5, none⟩ = some (.int .i64 t298) ∧ w'.cell? ⟨gb303, 6, none⟩ = some (.bool t299) ∧ w'.cell? ⟨gb303, 7, none⟩ = some (.int .i64 t300) ∧ w'.cell? ⟨gb303, 8, none⟩ = some (.int .u32 t301) ∧ w'.cell? ⟨gb303, 9, none⟩ = some (.int .u32 t302)) (ds := []) #[false, false, false, false, false, false, false, false, false, false, false] (by kernel_rfl) rfl rfl ⟨(blk_cell BK303.out 0).trans rfl, (blk_cell BK303.out 1).trans rfl, (blk_cell BK303.out 2).trans rfl, (blk_cell BK303.out 3).trans rfl, (blk_cell BK303.out 4).trans rfl, (blk_cell BK303.out 5).trans rfl, (blk_cell BK303.out 6).trans rfl, (blk_cell BK303.out 7).trans rfl, (blk_cell BK303.out 8).trans rfl, (blk_cell BK303.out 9).trans rfl⟩ (fun hHeld => ?_); refine with_tabW capnplaw07_FarPointersAreFollowed.tab8 capnplaw07_FarPointersAreFollowed.bits8 (fun HT_ HW_ => ?_)
                  generalize w47.drew = w48 at HO_0 HO292 BK303 HB hHeld ⊢
                  refine pure_ (i := 0) (N := some 72) (v := ?_) (a' := ?_) #[true, false, false, false, false, false, false, false, false, false, false] rfl rfl (any_of HT_.out (by kernel_rfl)) (fun _ _ _ h => h) (Or.inl ⟨by rfl, ?_⟩) ?_ ?_
                  rotate_left
                  · intro w'
                    go_simp
                    with_reducible rfl
                  rotate_left
                  · simp only [Act.put, List.setIfInBounds_toArray, List.set_cons_zero, List.set_cons_succ, i64_w, i32_w]
                    rfl
                  refine pure_ (i := 1) (N := some 73) (v := ?_) (a' := ?_) #[true, true, false, false, false, false, false, false, false, false, false] rfl rfl (any_of HT_.out (by kernel_rfl)) (fun _ _ _ h => h) (Or.inl ⟨by rfl, ?_⟩) ?_ ?_
                  rotate_left
                  · intro w'
                    go_simp
                    with_reducible rfl
                  rotate_left
                  · simp only [Act.put, List.setIfInBounds_toArray, List.set_cons_zero, List.set_cons_succ, i64_w, i32_w]
                    rfl
                  refine pure_ (i := 2) (N := some 74) (v := ?_) (a' := ?_) #[true, true, true, false, false, false, false, false, false, false, false] rfl rfl (any_of HT_.out (by kernel_rfl)) (fun _ _ _ h => h) (Or.inl ⟨by rfl, ?_⟩) ?_ ?_
                  rotate_left
                  · intro w'
                    go_simp
                    with_reducible rfl
                  rotate_left
                  · simp only [Act.put, List.setIfInBounds_toArray, List.set_cons_zero, List.set_cons_succ, i64_w, i32_w]
                    rfl
                  refine pure_ (i := 3) (N := some 75) (v := ?_) (a' := ?_) #[true, true, true, true, false, false, false, false, false, false, false] rfl rfl (any_of HT_.out (by kernel_rfl)) (fun _ _ _ h => h) (Or.inl ⟨by rfl, ?_⟩) ?_ ?_
                  rotate_left
                  · intro w'
                    go_simp
                    with_reducible rfl
                  rotate_left
                  · simp only [Act.put, List.setIfInBounds_toArray, List.set_cons_zero, List.set_cons_succ, i64_w, i32_w]
                    rfl
                  refine pure_ (i := 4) (N := some 76) (v := ?_) (a' := ?_) #[true, true, true, true, true, false, false, false, false, false, false] rfl rfl (any_of HT_.out (by kernel_rfl)) (fun _ _ _ h => h) (Or.inl ⟨by rfl, ?_⟩) ?_ ?_
                  rotate_left
                  · intro w'
                    go_simp
                    with_reducible rfl
                  rotate_left
                  · simp only [Act.put, List.setIfInBounds_toArray, List.set_cons_zero, List.set_cons_succ, i64_w, i32_w]
                    rfl
                  refine pure_ (i := 5) (N := some 77) (v := ?_) (a' := ?_) #[true, true, true, true, true, true, false, false, false, false, false] rfl rfl (any_of HT_.out (by kernel_rfl)) (fun _ _ _ h => h) (Or.inl ⟨by rfl, ?_⟩) ?_ ?_
                  rotate_left
                  · intro w'
                    go_simp
                    with_reducible rfl
                  rotate_left
                  · simp only [Act.put, List.setIfInBounds_toArray, List.set_cons_zero, List.set_cons_succ, i64_w, i32_w]
                    rfl
                  refine take_ (i := 7) (N := some 79) (v := ?_) (a' := ?_) #[true, true, true, true, true, true, false, true, false, false, false] rfl rfl (take_ofW HT_.out HW_.out (by kernel_rfl)) (fun _ _ _ h => h) (Or.inl ⟨by rfl, ?_⟩) hHeld ?_ ?_
                  rotate_left
                  · rintro w' ⟨s0, s1, s2, s3, s4, s5, s6, s7, s8, s9⟩
                    go_simp
                    with_reducible rfl
                  rotate_left
                  · simp only [Act.put, List.setIfInBounds_toArray, List.set_cons_zero, List.set_cons_succ, i64_w, i32_w]
                    rfl
                  refine one_ (i := 6) (N := some 78) #[true, true, true, true, true, true, true, true, false, false, false] rfl rfl (one_of HT_.out (by kernel_rfl)) (by decide) (fun K hK => ?_)
                  refine goes_ Tryd.func20 (by kernel_rfl) rfl #[.agg #[.int .i64 2, .int .i64 0, .int .i64 0, .int .i64 0, .int .i64 0, .int .i64 0, .bool false, .int .i64 (wrap64 (Int.tmod a6 536870912)), .int .u32 (Int.tmod a5 2147483648), .int .u32 0]] (by rfl) rfl rfl (by (try simp only [List.map_toArray, List.map_cons, List.map_nil]); rfl) ?_
                  with_reducible refine (capnplaw07_word.calls kj7 2 0 0 0 0 0 false (wrap64 (Int.tmod a6 536870912)) (Int.tmod a5 2147483648) 0 t304 _ A27.out).mono ?_
                  rintro e w49 ⟨rfl, hb⟩
                  refine ⟨_, rfl, ?_⟩
                  have n0_ := Aside0.mk (Kd.V_below HO_0.out hb)
                  have n1_ := Aside0.mk (Kd.N_below HO292.out hb)
                  have n2_ := Aside0.mk (blk_below BK303.out hb)
                  have n3_ := Aside0.mk (below_step HB.out hb)
                  clear HO_0
                  clear HO292
                  clear BK303
                  clear HB
                  have HO_0 := n0_
                  have HO292 := n1_
                  have BK303 := n2_
                  have HB := n3_
                  (try clear n0_; try clear n1_; try clear n2_; try clear n3_)
                  (try clear hb)
                  (skip)
                  (skip)
                  (skip)
                  refine hK.out _ _ ⟨(blk_cell BK303.out 0).trans rfl, (blk_cell BK303.out 1).trans rfl, (blk_cell BK303.out 2).trans rfl, (blk_cell BK303.out 3).trans rfl, (blk_cell BK303.out 4).trans rfl, (blk_cell BK303.out 5).trans rfl, (blk_cell BK303.out 6).trans rfl, (blk_cell BK303.out 7).trans rfl, (blk_cell BK303.out 8).trans rfl, (blk_cell BK303.out 9).trans rfl⟩ (fun hHeld => ?_)
                  clear hK K
                  refine norm_ (a' := ?_) ?_ ?_
                  rotate_left
                  · show Act.put _ (some 78) _ = _
                    simp only [Act.put, List.setIfInBounds_toArray, List.set_cons_zero, List.set_cons_succ, i64_w, i32_w]
                    rfl
                  refine one_ (i := 8) (N := some 80) #[true, true, true, true, true, true, true, true, true, false, false] rfl rfl (one_of HT_.out (by kernel_rfl)) (by decide) (fun K hK => ?_)
                  refine goes_ Tryd.func20 (by kernel_rfl) rfl #[.agg #[.int .i64 t293, .int .i64 0, .int .i64 t295, .int .i64 t296, .int .i64 t297, .int .i64 t298, .bool t299, .int .i64 t300, .int .u32 t301, .int .u32 t302]] (by rfl) rfl rfl (by (try simp only [List.map_toArray, List.map_cons, List.map_nil]); rfl) ?_
                  with_reducible refine (capnplaw07_word.calls kj7 t293 0 t295 t296 t297 t298 t299 t300 t301 t302 t305 _ A28.out).mono ?_
                  rintro e w50 ⟨rfl, hb⟩
                  refine ⟨_, rfl, ?_⟩
                  have n0_ := Aside0.mk (Kd.V_below HO_0.out hb)
                  have n1_ := Aside0.mk (Kd.N_below HO292.out hb)
                  have n2_ := Aside0.mk (blk_below BK303.out hb)
                  have n3_ := Aside0.mk (below_step HB.out hb)
                  clear HO_0
                  clear HO292
                  clear BK303
                  clear HB
                  have HO_0 := n0_
                  have HO292 := n1_
                  have BK303 := n2_
                  have HB := n3_
                  (try clear n0_; try clear n1_; try clear n2_; try clear n3_)
                  (try clear hb)
                  (skip)
                  (skip)
                  (skip)
                  refine hK.out _ _ ⟨(blk_cell BK303.out 0).trans rfl, (blk_cell BK303.out 1).trans rfl, (blk_cell BK303.out 2).trans rfl, (blk_cell BK303.out 3).trans rfl, (blk_cell BK303.out 4).trans rfl, (blk_cell BK303.out 5).trans rfl, (blk_cell BK303.out 6).trans rfl, (blk_cell BK303.out 7).trans rfl, (blk_cell BK303.out 8).trans rfl, (blk_cell BK303.out 9).trans rfl⟩ (fun hHeld => ?_)
                  clear hK K
                  refine norm_ (a' := ?_) ?_ ?_
                  rotate_left
                  · show Act.put _ (some 80) _ = _
                    simp only [Act.put, List.setIfInBounds_toArray, List.set_cons_zero, List.set_cons_succ, i64_w, i32_w]
                    rfl
                  refine one_ (i := 9) (N := some 81) #[true, true, true, true, true, true, true, true, true, true, false] rfl rfl (one_of HT_.out (by kernel_rfl)) (by decide) (fun K hK => ?_)
                  refine Kd.R_lit_step (Kd.int .u64) _ 23 ?hg (N := 81) ?hd (xs := ([0, 0, 0, t304, t305] : List Int)) (inner := [.int .u64 0, .int .u64 0, .int .u64 0, .int .u64 t304, .int .u64 t305]) (ok := fun _ => True) (okp := fun _ => True) ?hr ?hp (fun _ hk => hk) trivial (Below.refl _ _) (Nat.le_refl _) (by simp) ?_; (case hd => rfl); (case hg => rfl); (case hr => (go_simp; done)); (case hp => exact (Reps.one (show Kd.M (Kd.int .u64) _ _ _ 0 [.int .u64 0] from rfl) (Reps.one (show Kd.M (Kd.int .u64) _ _ _ 0 [.int .u64 0] from rfl) (Reps.one (show Kd.M (Kd.int .u64) _ _ _ 0 [.int .u64 0] from rfl) (Reps.one (show Kd.M (Kd.int .u64) _ _ _ t304 [.int .u64 t304] from rfl) (Reps.one (show Kd.M (Kd.int .u64) _ _ _ t305 [.int .u64 t305] from rfl) (Reps.none _ _)))))))
                  intro v307 w51 ho52 hb hg_ hnew_
                  clear hg_ hnew_
                  ((rw [← Ny306.out] at ho52))
                  have n0_ := Aside0.mk (Kd.V_elder' HO_0.out (Kd.R_base ho52) hb)
                  have n1_ := Aside0.mk (Kd.N_elder' HO292.out (Kd.R_base ho52) hb)
                  have n2_ := Aside0.mk (Kd.R_lower (Kd.R_newM (M := fun k_ => (w.heap.size ≤ k_)) ho52 (below_size HB.out) (fun k_ h_ => h_)) (below_size HB.out))
                  have n3_ := Aside0.mk (blk_below BK303.out hb)
                  have n4_ := Aside0.mk (below_step HB.out hb)
                  clear HO_0
                  clear HO292
                  clear BK303
                  clear HB
                  have HO_0 := n0_
                  have HO292 := n1_
                  have HO308 := n2_
                  have BK303 := n3_
                  have HB := n4_
                  (try clear n0_; try clear n1_; try clear n2_; try clear n3_; try clear n4_)
                  clear hb ho52
                  refine hK.out _ _ ⟨(blk_cell BK303.out 0).trans rfl, (blk_cell BK303.out 1).trans rfl, (blk_cell BK303.out 2).trans rfl, (blk_cell BK303.out 3).trans rfl, (blk_cell BK303.out 4).trans rfl, (blk_cell BK303.out 5).trans rfl, (blk_cell BK303.out 6).trans rfl, (blk_cell BK303.out 7).trans rfl, (blk_cell BK303.out 8).trans rfl, (blk_cell BK303.out 9).trans rfl⟩ (fun hHeld => ?_)
                  clear hK K
                  refine norm_ (a' := ?_) ?_ ?_
                  rotate_left
                  · show Act.put _ (some 81) _ = _
                    simp only [Act.put, List.setIfInBounds_toArray, List.set_cons_zero, List.set_cons_succ, i64_w, i32_w]
                    rfl
                  refine pure_ (i := 10) (N := some 17) (v := ?_) (a' := ?_) #[true, true, true, true, true, true, true, true, true, true, true] rfl rfl (any_of HT_.out (by kernel_rfl)) (fun _ _ _ h => h) (Or.inl ⟨by rfl, ?_⟩) ?_ ?_
                  rotate_left
                  · intro w'
                    go_simp
                    with_reducible rfl
                  rotate_left
                  · simp only [Act.put, List.setIfInBounds_toArray, List.set_cons_zero, List.set_cons_succ, i64_w, i32_w]
                    rfl
                  refine done_ (done_of HT_.out (by kernel_rfl)) ?_
                  have p32 : 0 ≤ ((ji29) : Int) := of_decide_eq_true (by (with_reducible assumption))
                  have q32 : ((ji29) : Int) < ((y306.length : Int) : Int) := of_decide_eq_true (by (with_reducible assumption))
                  obtain ⟨go32, co32, eo32, gb32, gl32, cl32, HG32⟩ := Kd.R_form HO308.out (by omega)
                  (cases eo32)
                  have GB32 := Aside0.mk gb32
                  clear gb32 gl32 HG32
                  obtain ⟨hx32_0, hf32_0⟩ := Kd.R_celln 0 HO308.out ((ji29) : Int) p32 q32
                  replace p32 := eq_true p32
                  replace q32 := eq_true q32
                  have n_ := Aside0.mk (Kd.R_mono (ok' := (fun k_ => (w.heap.size ≤ k_))) HO308.out (fun k_ hk => hk.1))
                  clear HO308
                  have HO308 := n_
                  clear n_
                  obtain ⟨hy53_, hz53_⟩ := Kd.R_celln 0 HO308.out ((ji29) : Int) (of_decide_eq_true (by (with_reducible assumption))) (of_decide_eq_true (by (with_reducible assumption)))
                  have HP53 := Kd.R_putg HO308.out ((ji29) : Int) a1
                  go_upto_region 13 with (first | ((with_reducible refine gate_store (t := 23) (p := 86) rfl ?_); refine store_event (t := 23) (p := 86) (v := ?vo_w54) (w1 := (w51.setCell ⟨go32, ((ji29) : Int).toNat, none⟩ (.int .u64 a1))) ?hg ?ho ?hn ?hr ?_; (case ho => rfl); (case hg => rfl); (case hn => rfl); (case hr => (go_simp; done)); intro w54 hw; have hg : w51.grownBy w54 (some go32) := (by rw [hw]; exact HP53.2); have hp_ : Kd.R (Kd.int .u64) 23 w54 w.heap.size (fun k_ => (w.heap.size ≤ k_)) (.slice (some ⟨go32, 0, none⟩) y306.length co32) y309 := (by rw [hw, Ny309.out]; exact HP53.1); clear HP53; replace HO_0 := Aside0.mk (Kd.V_afterv (v := (.slice (some ⟨go32, 0, none⟩) y306.length co32)) (v1 := (.slice (some ⟨go32, 0, none⟩) y306.length co32)) (ok := (fun k_ => (P0_ k_ ∨ w.heap.size ≤ k_) ∧ some k_ ≠ (v291 : Value).ownBlock ∧ k_ ≠ gb303)) HO_0.out hg (.inl rfl)); replace HO292 := Aside0.mk (Kd.N_afterv (v := (.slice (some ⟨go32, 0, none⟩) y306.length co32)) (v1 := (.slice (some ⟨go32, 0, none⟩) y306.length co32)) (ok := (fun k_ => (P0_ k_ ∨ w.heap.size ≤ k_) ∧ k_ ≠ gb303)) HO292.out hg (.inl rfl)); replace BK303 := Aside0.mk (blk_grown BK303.out hg (Kd.R_ne HO308.out BK303.out (by decide))); replace HO308 := Aside0.mk (hp_); replace HB := Aside0.mk ((by rw [hw]; exact below_set (HB.out) GB32.out : Below w.heap.size w w54)); clear hg hw hp_) | ((with_reducible refine gate_builtin (b := .append) (xs := #[.tmp 87, .tmp 89]) rfl ?_); (try (refine gate_guard (by rfl) ?_; dsimp only)); at_builtin; refine Kd.N_append (Kd.slice 23 (Kd.int .u64)) (w0 := w) w.heap.size rfl (.tmp 87) (.tmp 89) 22 40 (.slice none 0 0) 24 rfl Tryd.underlying22 info40 rfl (by decide) (by omega) v291 y290 y309 [.slice (some ⟨go32, 0, none⟩) y306.length co32] (fun k_ => (P0_ k_ ∨ w.heap.size ≤ k_) ∧ k_ ≠ gb303) (fun k_ => ((fun k_ => (P0_ k_ ∨ w.heap.size ≤ k_) ∧ k_ ≠ gb303)) k_ ∧ some k_ ≠ (v291 : Value).ownBlock) rfl rfl ?aP (fun _ hk => hk) ?aF ?aO ?aB ?aS ?aL ?_; (case aP => (have hq_ := (Kd.R_mono (ok' := (fun k_ => ((fun k_ => (P0_ k_ ∨ w.heap.size ≤ k_) ∧ k_ ≠ gb303)) k_ ∧ some k_ ≠ (v291 : Value).ownBlock)) (Kd.R_types (Kd.R_apart' (HO308.out) (Kd.N_typed HO292.out) (by decide)) BK303.out (by decide)) (fun k_ hk => ⟨⟨(.inr (hk.1.1)), hk.2⟩, hk.1.2⟩)); have e_ := (Kd.R_reads' hq_).1; rw [e_] at hq_ ⊢; exact Kd.FK_slice_mk (Kd.R_reads' hq_).2.1 (Kd.R_F hq_))); (case aB => exact HB.out); (case aF => exact (fun k_ hk => ⟨(.inr (Nat.le_trans (below_size HB.out) hk)), Kd.freshB BK303.out k_ hk⟩)); (case aO => exact (by exact Kd.N_mono HO292.out (fun _ hk => ⟨hk.1.1, hk.1.2⟩))); (case aS => exact (below_size HB.out)); (case aL => have := LMc33.out; omega); intro v311 w55 ho hb hg hat; rw [← Ny310.out] at ho; replace HO_0 := Aside0.mk (Kd.V_afterv (ok := (fun k_ => (P0_ k_ ∨ w.heap.size ≤ k_) ∧ some k_ ≠ (.slice (some ⟨go32, 0, none⟩) y306.length co32 : Value).ownBlock ∧ k_ ≠ gb303)) (by exact Kd.V_mono HO_0.out (fun _ hk => ⟨⟨hk.1.1, ⟨hk.2, hk.1.2.2⟩⟩, hk.1.2.1⟩)) hg hat); replace BK303 := Aside0.mk (blk_grown BK303.out hg (Kd.N_ne HO292.out BK303.out (by decide))); replace HB := Aside0.mk (hb); replace HO312 := Aside0.mk (ho); clear HO292 HO308 ho hb hg hat; obtain ⟨Ao56, co56, eo56⟩ := Kd.N_slice HO312.out; subst eo56) | ((with_reducible refine gate_callee (f := 14) rfl ?_); refine goesL_ (some 93) rfl rfl Tryd.func14 (by kernel_rfl) rfl #[.slice Ao56 y310.length co56, .int .i64 0, .int .i64 0] rfl (by (try simp only [List.map_toArray, List.map_cons, List.map_nil]); rfl) ?_; (with_reducible refine (far_Follow.calls (gb := gb) _ _ y310 0 0 t313 t314 t315 t316 _ ?side1 ?side2 ?side3 A34.out).mono ?_); (case side1 => exact Glob.below HG.out HB.out); (case side2 => repeat ((exact (Kd.N_reads' HO312.out).2.2))); (case side3 => exact (Kd.N_reads' HO312.out).2.1); rintro e w57 ⟨rfl, hb⟩; refine ⟨_, rfl, ?_⟩; replace HO_0 := Aside0.mk (Kd.V_below HO_0.out hb); replace HO312 := Aside0.mk (Kd.N_below HO312.out hb); replace BK303 := Aside0.mk (blk_below BK303.out hb); replace HB := Aside0.mk (below_step HB.out hb); (try clear hb)) | ((with_reducible refine gate_callee (f := 14) rfl ?_); refine goesL_ (some 106) rfl rfl Tryd.func14 (by kernel_rfl) rfl #[.slice Ao56 y310.length co56, .int .i64 (wrap64 (1 + (l0.length : Int))), .int .i64 (wrap64 (ji29))] rfl (by (try simp only [List.map_toArray, List.map_cons, List.map_nil]); rfl) ?_; (with_reducible refine (far_Follow.calls (gb := gb) _ _ y310 (wrap64 (1 + (l0.length : Int))) (wrap64 (ji29)) t317 t318 t319 t320 _ ?side1 ?side2 ?side3 A35.out).mono ?_); (case side1 => exact Glob.below HG.out HB.out); (case side2 => repeat ((exact (Kd.N_reads' HO312.out).2.2))); (case side3 => exact (Kd.N_reads' HO312.out).2.1); rintro e w58 ⟨rfl, hb⟩; refine ⟨_, rfl, ?_⟩; replace HO_0 := Aside0.mk (Kd.V_below HO_0.out hb); replace HO312 := Aside0.mk (Kd.N_below HO312.out hb); replace BK303 := Aside0.mk (blk_below BK303.out hb); replace HB := Aside0.mk (below_step HB.out hb); (try clear hb)))
                  (skip)
                  go_cut [151] (fun v151 wc => ∃ (kq : Nat) (x151_35 : Bool), v151 = .bool x151_35 ∧ Aside0 (capnplaw07_FarPointersAreFollowed.j1 kq a5 a6 y310 x151_35 t293 0 t295 t296 t297 t298 t299 t300 t301 t302 = some r) ∧ Aside0 (kq ≤ kj7) ∧ Aside0 (Kd.N (Kd.slice 23 (Kd.int .u64)) 40 wc w.heap.size (fun k_ => (P0_ k_ ∨ w.heap.size ≤ k_) ∧ k_ ≠ gb303) (.slice Ao56 y310.length co56) y310) ∧ Aside0 (wc.heap[gb303]? = some (.cells #[.int .i64 t293, .int .i64 0, .int .i64 t295, .int .i64 t296, .int .i64 t297, .int .i64 t298, .bool t299, .int .i64 t300, .int .u32 t301, .int .u32 t302] 39 (0, 0))) ∧ Aside0 (Below w.heap.size w wc))
                  case first =>
                    have H := HC36.out
                    clear HC36
                    by_cases c59 : t313 = a1
                    · rw [if_pos c59] at H
                      have c59b1 : (t313 != a1) = false := bne_eq_false_iff_eq.mpr c59
                      clear c59
                      (skip)
                      by_cases c60 : t313 = t317
                      · rw [if_pos c60] at H
                        have c60b1 : (t313 != t317) = false := bne_eq_false_iff_eq.mpr c60
                        clear c60
                        by_cases c61 : t314 = t318
                        · rw [if_pos c61] at H
                          have c61b1 : (t314 != t318) = false := bne_eq_false_iff_eq.mpr c61
                          clear c61
                          by_cases c62 : t315 = t319
                          · rw [if_pos c62] at H
                            have c62b1 : (t315 != t319) = false := bne_eq_false_iff_eq.mpr c62
                            clear c62
                            by_cases c63 : t316 = 0
                            · rw [if_pos c63] at H
                              have c63b1 : (t316 != 0) = false := bne_eq_false_iff_eq.mpr c63
                              clear c63
                              by_cases c64 : t320 = 0
                              · rw [if_pos c64] at H
                                have c64b1 : (t320 != 0) = false := bne_eq_false_iff_eq.mpr c64
                                clear c64
                                by_cases c65 : t314 = (wrap64 (1 + (l0.length : Int)))
                                · rw [if_pos c65] at H
                                  have c65b1 : (t314 != (wrap64 (1 + (l0.length : Int)))) = false := bne_eq_false_iff_eq.mpr c65
                                  clear c65
                                  have H' := Aside0.mk H
                                  clear H
                                  go_wp2
                                  try subst hji29
                                  go_meet
                                  case rel => exact ⟨_, ((t315 != (wrap64 ((wrap64 ((Int.tmod a3 3))) + 1)))), (by rfl), H', ⟨by omega⟩, ⟨by exact HO312.out⟩, ⟨by exact BK303.out⟩, ⟨by repeat ((with_reducible exact HB.out))⟩⟩
                                · rw [if_neg c65] at H
                                  have c65b1 : (t314 != (wrap64 (1 + (l0.length : Int)))) = true := bne_iff_ne.mpr c65
                                  have H' := Aside0.mk H
                                  clear H
                                  go_wp2
                                  try subst hji29
                                  go_meet
                                  case rel => exact ⟨_, (true), (by rfl), H', ⟨by omega⟩, ⟨by exact HO312.out⟩, ⟨by exact BK303.out⟩, ⟨by repeat ((with_reducible exact HB.out))⟩⟩
                              · rw [if_neg c64] at H
                                have c64b1 : (t320 != 0) = true := bne_iff_ne.mpr c64
                                have H' := Aside0.mk H
                                clear H
                                go_wp2
                                try subst hji29
                                go_meet
                                case rel => exact ⟨_, (true), (by rfl), H', ⟨by omega⟩, ⟨by exact HO312.out⟩, ⟨by exact BK303.out⟩, ⟨by repeat ((with_reducible exact HB.out))⟩⟩
                            · rw [if_neg c63] at H
                              have c63b1 : (t316 != 0) = true := bne_iff_ne.mpr c63
                              have H' := Aside0.mk H
                              clear H
                              go_wp2
                              try subst hji29
                              go_meet
                              case rel => exact ⟨_, (true), (by rfl), H', ⟨by omega⟩, ⟨by exact HO312.out⟩, ⟨by exact BK303.out⟩, ⟨by repeat ((with_reducible exact HB.out))⟩⟩
                          · rw [if_neg c62] at H
                            have c62b1 : (t315 != t319) = true := bne_iff_ne.mpr c62
                            have H' := Aside0.mk H
                            clear H
                            go_wp2
                            try subst hji29
                            go_meet
                            case rel => exact ⟨_, (true), (by rfl), H', ⟨by omega⟩, ⟨by exact HO312.out⟩, ⟨by exact BK303.out⟩, ⟨by repeat ((with_reducible exact HB.out))⟩⟩
                        · rw [if_neg c61] at H
                          have c61b1 : (t314 != t318) = true := bne_iff_ne.mpr c61
                          have H' := Aside0.mk H
                          clear H
                          go_wp2
                          try subst hji29
                          go_meet
                          case rel => exact ⟨_, (true), (by rfl), H', ⟨by omega⟩, ⟨by exact HO312.out⟩, ⟨by exact BK303.out⟩, ⟨by repeat ((with_reducible exact HB.out))⟩⟩
                      · rw [if_neg c60] at H
                        have c60b1 : (t313 != t317) = true := bne_iff_ne.mpr c60
                        have H' := Aside0.mk H
                        clear H
                        go_wp2
                        try subst hji29
                        go_meet
                        case rel => exact ⟨_, (true), (by rfl), H', ⟨by omega⟩, ⟨by exact HO312.out⟩, ⟨by exact BK303.out⟩, ⟨by repeat ((with_reducible exact HB.out))⟩⟩
                    · rw [if_neg c59] at H
                      have c59b1 : (t313 != a1) = true := bne_iff_ne.mpr c59
                      (skip)
                      have H' := Aside0.mk H
                      clear H
                      go_wp2
                      try subst hji29
                      go_meet
                      case rel => exact ⟨_, (true), (by rfl), H', ⟨by omega⟩, ⟨by exact HO312.out⟩, ⟨by exact BK303.out⟩, ⟨by repeat ((with_reducible exact HB.out))⟩⟩
                  case rest =>
                    clear HC36
                    skip
                    skip
                    skip
                    skip
                    skip
                    skip
                    skip
                    skip
                    skip
                    skip
                    skip
                    skip
                    skip
                    skip
                    skip
                    skip
                    skip
                    skip
                    skip
                    skip
                    skip
                    skip
                    skip
                    skip
                    try clear c30b0
                    skip
                    try clear c31b0
                    try clear p32
                    try clear q32
                    skip
                    skip
                    skip
                    skip
                    skip
                    skip
                    skip
                    skip
                    skip
                    skip
                    skip
                    skip
                    skip
                    skip
                    skip
                    skip
                    skip
                    skip
                    skip
                    skip
                    skip
                    skip
                    skip
                    skip
                    skip
                    try clear hcz46_0
                    try clear hcz46_1
                    try clear hcz46_2
                    try clear hcz46_3
                    try clear hcz46_4
                    try clear hcz46_5
                    try clear hcz46_6
                    try clear hcz46_7
                    try clear hcz46_8
                    try clear hcz46_9
                    try clear hfz46_0
                    try clear hfz46_1
                    try clear hfz46_2
                    try clear hfz46_3
                    try clear hfz46_4
                    try clear hfz46_5
                    try clear hfz46_6
                    try clear hfz46_7
                    try clear hfz46_8
                    try clear hfz46_9
                    try clear hx32_0
                    skip
                    skip
                    skip
                    obtain ⟨kq, x151_35, rfl, HA, HJ35, HO_15, BK303, HB⟩ := hcut
                    cases kq with
                    | zero => exact absurd HA.out (by simp [capnplaw07_FarPointersAreFollowed.j1])
                    | succ kj35 =>
                      have H := HA.out
                      clear HA
                      simp only [capnplaw07_FarPointersAreFollowed.j1] at H
                      by_cases c66 : x151_35 = true
                      · subst c66
                        have H1 : (some false) = some r := by rw [if_pos rfl] at H; exact H
                        clear H
                        have H := H1
                        clear H1
                        obtain rfl := Option.some.inj H
                        go_wp2
                        go_ret
                        exact ⟨by rfl, by repeat ((with_reducible exact HB.out))⟩
                      · replace c66 := Bool.eq_false_iff.mpr c66
                        subst c66
                        have H1 : ((far_Follow.f y310 0 1).bind fun bt321 => (if t293 > 1 then (some (bt321.2.2.2 == 3)) else (if bt321.2.2.2 = 0 then ((capnplaw07_word.f kj35 t293 0 t295 t296 t297 t298 t299 t300 t301 t302).bind fun t325 => (if bt321.1 = t325 then (if bt321.2.1 = (wrap64 (Int.tmod a5 2147483648)) then (some (bt321.2.2.1 == (wrap64 (Int.tmod a6 536870912)))) else (some false)) else (some false))) else (some false)))) = some r := by rw [if_neg (show ¬ (false = true) by decide)] at H; exact H
                        clear H
                        have H := H1
                        clear H1
                        replace H := Option.bind_eq_some_iff.mp H
                        obtain ⟨⟨t321, t322, t323, t324⟩, A670, H⟩ := H
                        dsimp only at H
                        have A67 := Aside0.mk A670
                        clear A670
                        by_cases c68 : t293 > 1
                        · rw [if_pos c68] at H
                          have c68b0 : decide (1 < t293) = true := decide_eq_true c68
                          clear c68
                          obtain rfl := Option.some.inj H
                          go_wp2_with (((with_reducible refine gate_callee (f := 14) rfl ?_); refine goesL_ (some 154) rfl rfl Tryd.func14 (by kernel_rfl) rfl #[.slice Ao56 y310.length co56, .int .i64 0, .int .i64 1] rfl (by (try simp only [List.map_toArray, List.map_cons, List.map_nil]); rfl) ?_; (with_reducible refine (far_Follow.calls (gb := gb) _ _ y310 0 1 t321 t322 t323 t324 _ ?side1 ?side2 ?side3 A67.out).mono ?_); (case side1 => exact Glob.below HG.out HB.out); (case side2 => repeat ((exact (Kd.N_reads' HO_15.out).2.2))); (case side3 => exact (Kd.N_reads' HO_15.out).2.1); rintro e w69 ⟨rfl, hb⟩; refine ⟨_, rfl, ?_⟩; replace BK303 := Aside0.mk (blk_below BK303.out hb); replace HB := Aside0.mk (below_step HB.out hb); (try clear HO_15); (try clear hb); have hcz70_0 : w69.cell? ⟨gb303, 0, none⟩ = some (.int .i64 t293) := (blk_cell BK303.out 0).trans rfl))
                          go_ret
                          exact ⟨by rfl, by repeat ((with_reducible exact HB.out))⟩
                        · rw [if_neg c68] at H
                          have c68b0 : decide (1 < t293) = false := decide_eq_false c68
                          clear c68
                          by_cases c71 : t324 = 0
                          · rw [if_pos c71] at H
                            have c71b0 : (t324 == 0) = true := beq_iff_eq.mpr c71
                            clear c71
                            replace H := Option.bind_eq_some_iff.mp H
                            obtain ⟨t325, A720, H⟩ := H
                            have A72 := Aside0.mk A720
                            clear A720
                            by_cases c73 : t321 = t325
                            · rw [if_pos c73] at H
                              have c73b0 : (t321 == t325) = true := beq_iff_eq.mpr c73
                              clear c73
                              by_cases c74 : t322 = (wrap64 (Int.tmod a5 2147483648))
                              · rw [if_pos c74] at H
                                have c74b0 : (t322 == (wrap64 (Int.tmod a5 2147483648))) = true := beq_iff_eq.mpr c74
                                clear c74
                                obtain rfl := Option.some.inj H
                                go_wp2_with (first | ((with_reducible refine gate_callee (f := 14) rfl ?_); refine goesL_ (some 154) rfl rfl Tryd.func14 (by kernel_rfl) rfl #[.slice Ao56 y310.length co56, .int .i64 0, .int .i64 1] rfl (by (try simp only [List.map_toArray, List.map_cons, List.map_nil]); rfl) ?_; (with_reducible refine (far_Follow.calls (gb := gb) _ _ y310 0 1 t321 t322 t323 t324 _ ?side1 ?side2 ?side3 A67.out).mono ?_); (case side1 => exact Glob.below HG.out HB.out); (case side2 => repeat ((exact (Kd.N_reads' HO_15.out).2.2))); (case side3 => exact (Kd.N_reads' HO_15.out).2.1); rintro e w75 ⟨rfl, hb⟩; refine ⟨_, rfl, ?_⟩; replace BK303 := Aside0.mk (blk_below BK303.out hb); replace HB := Aside0.mk (below_step HB.out hb); (try clear HO_15); (try clear hb); obtain ⟨hcz76_0, hcz76_1, hcz76_2, hcz76_3, hcz76_4, hcz76_5, hcz76_6, hcz76_7, hcz76_8, hcz76_9⟩ := cells10 BK303.out) | (go_at_call 20; (with_reducible refine (capnplaw07_word.calls kj35 t293 0 t295 t296 t297 t298 t299 t300 t301 t302 t325 _ A72.out).mono ?_); rintro e w77 ⟨rfl, hb⟩; replace BK303 := Aside0.mk (blk_below BK303.out hb); replace HB := Aside0.mk (below_step HB.out hb); (try clear HO_15); (try clear hb)))
                                go_ret
                                exact ⟨by rfl, by repeat ((with_reducible exact HB.out))⟩
                              · rw [if_neg c74] at H
                                have c74b0 : (t322 == (wrap64 (Int.tmod a5 2147483648))) = false := beq_eq_false_iff_ne.mpr c74
                                obtain rfl := Option.some.inj H
                                go_wp2_with (first | ((with_reducible refine gate_callee (f := 14) rfl ?_); refine goesL_ (some 154) rfl rfl Tryd.func14 (by kernel_rfl) rfl #[.slice Ao56 y310.length co56, .int .i64 0, .int .i64 1] rfl (by (try simp only [List.map_toArray, List.map_cons, List.map_nil]); rfl) ?_; (with_reducible refine (far_Follow.calls (gb := gb) _ _ y310 0 1 t321 t322 t323 t324 _ ?side1 ?side2 ?side3 A67.out).mono ?_); (case side1 => exact Glob.below HG.out HB.out); (case side2 => repeat ((exact (Kd.N_reads' HO_15.out).2.2))); (case side3 => exact (Kd.N_reads' HO_15.out).2.1); rintro e w78 ⟨rfl, hb⟩; refine ⟨_, rfl, ?_⟩; replace BK303 := Aside0.mk (blk_below BK303.out hb); replace HB := Aside0.mk (below_step HB.out hb); (try clear HO_15); (try clear hb); obtain ⟨hcz79_0, hcz79_1, hcz79_2, hcz79_3, hcz79_4, hcz79_5, hcz79_6, hcz79_7, hcz79_8, hcz79_9⟩ := cells10 BK303.out) | (go_at_call 20; (with_reducible refine (capnplaw07_word.calls kj35 t293 0 t295 t296 t297 t298 t299 t300 t301 t302 t325 _ A72.out).mono ?_); rintro e w80 ⟨rfl, hb⟩; replace BK303 := Aside0.mk (blk_below BK303.out hb); replace HB := Aside0.mk (below_step HB.out hb); (try clear HO_15); (try clear hb)))
                                go_ret
                                exact ⟨by rfl, by repeat ((with_reducible exact HB.out))⟩
                            · rw [if_neg c73] at H
                              have c73b0 : (t321 == t325) = false := beq_eq_false_iff_ne.mpr c73
                              obtain rfl := Option.some.inj H
                              go_wp2_with (first | ((with_reducible refine gate_callee (f := 14) rfl ?_); refine goesL_ (some 154) rfl rfl Tryd.func14 (by kernel_rfl) rfl #[.slice Ao56 y310.length co56, .int .i64 0, .int .i64 1] rfl (by (try simp only [List.map_toArray, List.map_cons, List.map_nil]); rfl) ?_; (with_reducible refine (far_Follow.calls (gb := gb) _ _ y310 0 1 t321 t322 t323 t324 _ ?side1 ?side2 ?side3 A67.out).mono ?_); (case side1 => exact Glob.below HG.out HB.out); (case side2 => repeat ((exact (Kd.N_reads' HO_15.out).2.2))); (case side3 => exact (Kd.N_reads' HO_15.out).2.1); rintro e w81 ⟨rfl, hb⟩; refine ⟨_, rfl, ?_⟩; replace BK303 := Aside0.mk (blk_below BK303.out hb); replace HB := Aside0.mk (below_step HB.out hb); (try clear HO_15); (try clear hb); obtain ⟨hcz82_0, hcz82_1, hcz82_2, hcz82_3, hcz82_4, hcz82_5, hcz82_6, hcz82_7, hcz82_8, hcz82_9⟩ := cells10 BK303.out) | (go_at_call 20; (with_reducible refine (capnplaw07_word.calls kj35 t293 0 t295 t296 t297 t298 t299 t300 t301 t302 t325 _ A72.out).mono ?_); rintro e w83 ⟨rfl, hb⟩; replace BK303 := Aside0.mk (blk_below BK303.out hb); replace HB := Aside0.mk (below_step HB.out hb); (try clear HO_15); (try clear hb)))
                              go_ret
                              exact ⟨by rfl, by repeat ((with_reducible exact HB.out))⟩
                          · rw [if_neg c71] at H
                            have c71b0 : (t324 == 0) = false := beq_eq_false_iff_ne.mpr c71
                            obtain rfl := Option.some.inj H
                            go_wp2_with (((with_reducible refine gate_callee (f := 14) rfl ?_); refine goesL_ (some 154) rfl rfl Tryd.func14 (by kernel_rfl) rfl #[.slice Ao56 y310.length co56, .int .i64 0, .int .i64 1] rfl (by (try simp only [List.map_toArray, List.map_cons, List.map_nil]); rfl) ?_; (with_reducible refine (far_Follow.calls (gb := gb) _ _ y310 0 1 t321 t322 t323 t324 _ ?side1 ?side2 ?side3 A67.out).mono ?_); (case side1 => exact Glob.below HG.out HB.out); (case side2 => repeat ((exact (Kd.N_reads' HO_15.out).2.2))); (case side3 => exact (Kd.N_reads' HO_15.out).2.1); rintro e w84 ⟨rfl, hb⟩; refine ⟨_, rfl, ?_⟩; replace BK303 := Aside0.mk (blk_below BK303.out hb); replace HB := Aside0.mk (below_step HB.out hb); (try clear HO_15); (try clear hb); have hcz85_0 : w84.cell? ⟨gb303, 0, none⟩ = some (.int .i64 t293) := (blk_cell BK303.out 0).trans rfl))
                            go_ret
                            exact ⟨by rfl, by repeat ((with_reducible exact HB.out))⟩
                · rw [if_neg c33] at H
                  exact absurd H (by simp)
              · rw [if_neg c31] at H
                exact absurd H (by simp)
            · rw [if_neg c30] at H
              exact absurd H (by simp)
          · rw [if_neg c25] at H
            exact absurd H (by simp)
        · rw [if_neg c24] at H
          exact absurd H (by simp)

end Go.Proofs.YtcjhejopcghgnaaDoor.P

set_option linter.unusedVariables false
set_option linter.unusedSimpArgs false
namespace Go.Proofs.YtcjhejopcghgnaaDoor.P
open Go.RowKit Go.Proofs.YtcjhejopcghgnaaDoorW.PrintWords Go.Proofs.YtcjhejopcghgnaaDoorW.PrintLast Go.Proofs.YtcjhejopcghgnaaDoorW.PrintMore
theorem word7_has (p : PT) (hv : vldP p) (hs : 0 ≤ p.2.2.2.2.2.2.2.2.1 ∧ p.2.2.2.2.2.2.2.2.1 ≤ 4294967295) (hl : 0 ≤ p.2.2.2.2.2.2.2.2.2 ∧ p.2.2.2.2.2.2.2.2.2 ≤ 4294967295) : Has (fun k => capnplaw07_word.f k p.1 p.2.1 p.2.2.1 p.2.2.2.1 p.2.2.2.2.1 p.2.2.2.2.2.1 p.2.2.2.2.2.2.1 p.2.2.2.2.2.2.2.1 p.2.2.2.2.2.2.2.2.1 p.2.2.2.2.2.2.2.2.2) (pakI p) := by
  obtain ⟨k0, o, d, q, e, c, b, pd, sg, lo⟩ := p
  refine ⟨1, fun k hk => ?_⟩
  show capnplaw07_word.f k k0 o d q e c b pd sg lo = _
  unfold capnplaw07_word.f
  rw [rEncode_eq k0 o d q e c b pd sg lo hs hl k (by omega), if_pos hv]
  rfl
theorem FarPointersAreFollowed_pure (l : List (List Int)) (h : Segs l) (w : Int) (hw : 0 ≤ w ∧ w ≤ 18446744073709551615) (sg : Int) (hsg : 0 ≤ sg ∧ sg ≤ 255) (pad : Int) (hpad : 0 ≤ pad ∧ pad ≤ 65535) (tag : Int) (htag : 0 ≤ tag ∧ tag ≤ 18446744073709551615) (dst : Int) (hto : 0 ≤ dst ∧ dst ≤ 4294967295) (base : Int) (hbase : 0 ≤ base ∧ base ≤ 4294967295) :
    ∃ k, capnplaw07_FarPointersAreFollowed.f k l w sg pad tag dst base = some true := by
  refine Has.ex (g := fun k => capnplaw07_FarPointersAreFollowed.f k l w sg pad tag dst base) ?_
  simp only [capnplaw07_FarPointersAreFollowed.f]
  have out : Has (fun k => capnplaw07_FarPointersAreFollowed.j0 k l w pad tag dst base true) true := by
    refine Has.step (fun k => by rw [capnplaw07_FarPointersAreFollowed.j0]) ?_
    exact Has.pos rfl (Has.bind awake_has (Has.some_ _))
  refine Has.bind awake_has (Has.pos rfl (Has.bind (Few_has h) ?_))
  by_cases hf : Few l
  case neg => exact Has.neg (by simpa using hf) out
  refine Has.pos (by simpa using hf) ?_
  by_cases hn : (l.length : Int) = 0
  case pos => exact Has.pos hn out
  refine Has.neg hn ?_
  have hw' : 0 ≤ w ∧ w < 18446744073709551616 := by omega
  rw [rIsFar_eq hw']
  simp only [Option.bind_some]
  by_cases hfar : w % 4 = 2
  case pos => simp only [show (w % 4 == 2) = true from by simpa using hfar]; exact out
  simp only [show (w % 4 == 2) = false from by simpa using hfar]
  have hfl := hf.1
  refine Has.step (fun k => by rw [capnplaw07_FarPointersAreFollowed.j0]) ?_
  refine Has.neg (by simp) ?_
  rw [Int.tmod_eq_emod_of_nonneg hpad.1, Int.tmod_eq_emod_of_nonneg hto.1, Int.tmod_eq_emod_of_nonneg hbase.1]
  have hp : 0 ≤ pad % 3 ∧ pad % 3 < 3 := by omega
  have ht : 0 ≤ dst % 2147483648 ∧ dst % 2147483648 < 2147483648 := by omega
  have hb : 0 ≤ base % 536870912 ∧ base % 536870912 < 536870912 := by omega
  generalize pad % 3 = p at hp
  generalize et : dst % 2147483648 = t2 at ht
  generalize eb : base % 536870912 = b2 at hb
  rw [w64 (x := p) (by omega), w64 (x := b2) (by omega), show (1 + (l.length : Int)) % 4294967296 = 1 + l.length by omega, w64 (x := 1 + (l.length : Int)) (by omega), w64 (x := p + 1) (by omega)]
  have hn1 : 0 ≤ 1 + (l.length : Int) ∧ 1 + (l.length : Int) ≤ 4294967295 := by omega
  refine Has.bind (word7_has (2, 0, 0, 0, 0, 0, false, p, 1 + l.length, 0) (far_word (by omega) hn1) hn1 (by simp)) ?_
  refine Has.bind (word7_has (2, 0, 0, 0, 0, 0, true, 3, 1 + l.length, 0) (far_word (by omega) hn1) hn1 (by simp)) ?_
  have f1 := far_parts (b := false) (pd := p) (sg := 1 + l.length) (by omega) hn1 rfl
  have r1 := pakI_range (2, 0, 0, 0, 0, 0, false, p, 1 + l.length, 0)
  have f2 := far_parts (b := true) (pd := 3) (sg := 1 + l.length) (by omega) hn1 rfl
  have r2 := pakI_range (2, 0, 0, 0, 0, 0, true, 3, 1 + l.length, 0)
  generalize pakI (2, 0, 0, 0, 0, 0, false, p, 1 + l.length, 0) = x1 at f1 r1
  generalize pakI (2, 0, 0, 0, 0, 0, true, 3, 1 + l.length, 0) = x2 at f2 r2
  refine Has.pos (by simp) ?_
  simp only [Option.bind_some, List.nil_append]
  refine Has.pos (by simp; omega) ?_
  simp only [Option.bind_some, List.cons_append, List.nil_append]
  have htag' : 0 ≤ tag ∧ tag < 18446744073709551616 := by omega
  refine Has.bind ⟨201, fun k hk => rDecode_eq htag' k (by omega)⟩ ?_
  refine Has.bind (word7_has (2, 0, 0, 0, 0, 0, false, b2, t2, 0) (far_word (by omega) (by omega)) (by simp only; omega) (by simp)) ?_
  have f3 := far_parts (b := false) (pd := b2) (sg := t2) (by omega) (by omega) rfl
  have r3 := pakI_range (2, 0, 0, 0, 0, 0, false, b2, t2, 0)
  generalize pakI (2, 0, 0, 0, 0, 0, false, b2, t2, 0) = x3 at f3 r3
  have hv := decI_valid htag'
  generalize decI tag = d at hv
  obtain ⟨k0, o, dd, q, e, c, b, pd, sg', lo⟩ := d
  simp only
  have hv0 : vldP (k0, 0, dd, q, e, c, b, pd, sg', lo) := by
    unfold vldP at hv ⊢
    simp only at hv ⊢
    rcases hv with h | h | h | h
    · exact .inl ⟨h.1, by omega, by omega, h.2.2.2⟩
    · exact .inr (.inl ⟨h.1, by omega, by omega, h.2.2.2⟩)
    · exact .inr (.inr (.inl ⟨h.1, trivial, h.2.2⟩))
    · exact .inr (.inr (.inr ⟨h.1, trivial, h.2.2⟩))
  have hs' : (0 ≤ sg' ∧ sg' ≤ 4294967295) ∧ 0 ≤ lo ∧ lo ≤ 4294967295 := by
    unfold vldP at hv0
    simp only at hv0
    omega
  refine Has.bind (word7_has (k0, 0, dd, q, e, c, b, pd, sg', lo) hv0 hs'.1 hs'.2) ?_
  have r4 := pakI_range (k0, 0, dd, q, e, c, b, pd, sg', lo)
  have d4 := dec_pak hv0
  have k4 := dec_kind r4
  rw [d4] at k4
  have w4 := word7_has (k0, 0, dd, q, e, c, b, pd, sg', lo) hv0 hs'.1 hs'.2
  try simp only at w4
  try simp only at k4
  generalize pakI (k0, 0, dd, q, e, c, b, pd, sg', lo) = x4 at r4 d4 k4 w4
  refine Has.pos hp.1 (Has.pos (by simp; omega) (Has.pos (by simp; omega) ?_))
  try simp only [Option.bind_some]
  have hlast : ∃ last : List Int, ([0, 0, 0, x3, x4] : List Int).set p.toNat w = last ∧ last.length = 5 ∧ rd last p = w ∧ rd last 3 = x3 ∧ rd last 4 = x4 ∧ ∀ x ∈ last, 0 ≤ x ∧ x < 18446744073709551616 := by
    obtain rfl | rfl | rfl : p = 0 ∨ p = 1 ∨ p = 2 := by omega
    all_goals
      refine ⟨_, rfl, rfl, rfl, rfl, rfl, fun x hx => ?_⟩
      simp only [Int.toNat_zero, Int.toNat_one, List.set_cons_zero, List.set_cons_succ, List.mem_cons, List.not_mem_nil, or_false, show (2 : Int).toNat = 2 from rfl] at hx
      omega
  obtain ⟨last, e0, e1, e2, e3, e4, e5⟩ := hlast
  rw [e0]
  have hS : Segs ([x1, x2] :: l ++ [last]) := (h.cons (by omega) (Words.of (by simp) (fun x hx => by simp at hx; omega))).app (by simp; omega) (Words.of (by omega) e5)
  simp only [List.cons_append] at hS ⊢
  have q0 : rd_L5 ([x1, x2] :: (l ++ [last])) 0 = [x1, x2] := rfl
  have q1 : rd_L5 ([x1, x2] :: (l ++ [last])) (1 + (l.length : Int)) = last := by
    have := rd_app_last (l := [x1, x2] :: l) (y := last) (i := 1 + l.length) (by simp; omega)
    simpa using this
  generalize [x1, x2] :: (l ++ [last]) = all at hS q0 q1
  have len : (all.length : Int) > 1 + l.length := by
    by_cases hc : (1 + (l.length : Int)).toNat < all.length
    · omega
    · exfalso
      unfold rd_L5 at q1
      rw [List.getD_eq_getElem?_getD, List.getElem?_eq_none (by omega)] at q1
      simp only [Option.getD_none] at q1
      rw [← q1] at e1
      simp at e1
  have n0 : inB all 0 0 1 := by
    unfold inB
    rw [q0]
    simp
    omega
  have n1 : inB all 0 1 1 := by
    unfold inB
    rw [q0]
    simp
    omega
  have n2 : inB all (1 + l.length) p 1 := by
    unfold inB
    rw [q1, e1]
    omega
  have n3 : inB all (1 + l.length) 3 2 := by
    unfold inB
    rw [q1, e1]
    omega
  have v0 : wd all 0 0 = x1 := by unfold wd; rw [q0]; rfl
  have v1 : wd all 0 1 = x2 := by unfold wd; rw [q0]; rfl
  have v2 : wd all (1 + l.length) p = w := by unfold wd; rw [q1]; exact e2
  have v3 : wd all (1 + l.length) 3 = x3 := by unfold wd; rw [q1]; exact e3
  have v4 : wd all (1 + l.length) (3 + 1) = x4 := by unfold wd; rw [q1]; exact e4
  have g1 : fol all 0 0 = (w, 1 + (l.length : Int), p + 1, 0) := by
    unfold fol
    rw [if_pos n0, v0, if_pos f1.1, f1.2.1]
    simp only [Bool.false_eq_true, if_false, show ¬ ((0 : Int) = 1) by decide]
    unfold sgl
    rw [f1.2.2.1, f1.2.2.2, if_pos n2, v2, if_neg hfar]
  have g2 : fol all (1 + l.length) p = (w, 1 + (l.length : Int), p + 1, 0) := by
    unfold fol
    rw [if_pos n2, v2, if_neg hfar]
  have g3 : fol all 0 1 = if k0 ≤ 1 then (x4, t2, b2, 0) else (0, 0, 0, 3) := by
    unfold fol
    rw [if_pos n1, v1, if_pos f2.1, f2.2.1]
    simp only [if_true]
    unfold dbl
    rw [f2.2.2.1, f2.2.2.2, if_pos n3, v3, v4, d4, f3.2.2.1, f3.2.2.2]
    simp only [Bool.false_eq_true, if_false] at f3
    by_cases hk : k0 ≤ 1
    · rw [if_pos hk, if_pos ⟨f3.1, f3.2.1, by omega, rfl⟩]
    · rw [if_neg hk, if_neg (fun h => hk (by omega))]
  rw [Follow_eq hS, Follow_eq hS, g1, g2]
  simp only [Option.bind_some]
  refine Has.pos trivial (Has.pos trivial (Has.pos trivial (Has.pos trivial (Has.pos trivial (Has.pos trivial (Has.pos trivial ?_))))))
  refine Has.step (fun k => by rw [capnplaw07_FarPointersAreFollowed.j1]) ?_
  refine Has.neg (by simp) ?_
  rw [Follow_eq hS, g3]
  simp only [Option.bind_some]
  by_cases hk : k0 > 1
  · rw [if_neg (show ¬ k0 ≤ 1 by omega)]
    exact Has.pos hk (Has.some_ _)
  · rw [if_pos (show k0 ≤ 1 by omega)]
    refine Has.neg hk (Has.pos rfl (Has.bind w4 (Has.pos rfl ?_)))
    rw [Int.tmod_eq_emod_of_nonneg hto.1, Int.tmod_eq_emod_of_nonneg hbase.1, et, eb, w64 (x := t2) (by omega), w64 (x := b2) (by omega)]
    exact Has.pos rfl ((Has.some_ _).eq (by simp))
end Go.Proofs.YtcjhejopcghgnaaDoor.P

namespace Go.Proofs.YtcjhejopcghgnaaDoor.farPointersAreFollowed
open Go.ChangeShapes Go.WideShapes Go.ChangeAt Go.RowKit Go.Proofs.YtcjhejopcghgnaaDoor.P Go.Proofs.YtcjhejopcghgnaaDoorW.PrintWords
open Go.ChangeMaps (open_string shut_string)
open Go.Proofs.YtcjhejopcghgnaaDoor.P
set_option linter.unusedVariables false
theorem own : ownKnob Tryd.prog.godebug = none := by kernel_rfl
theorem laidOut : laidOutB Tryd.prog = true := by kernel_rfl
theorem door_met (os : Os) (args : Array Value) : laidMetH Tryd.prog Rows.farPointersAreFollowedRow.laid ((World.doorLaid Tryd.prog 600 os).forCall (fun _ _ => 0) ⟨#[], args, []⟩).memory :=
  laidMetH_of_parts3 (fuel := 8) (laidMet_of_run' 8 (by kernel_rfl) (by kernel_rfl)) (by kernel_rfl) (by kernel_rfl)
set_option maxRecDepth 100000 in
set_option maxHeartbeats 1000000 in
theorem reads (os : Os) {H : Type} (enc : TypeId × Value → H) : DataW.whole enc Tryd.prog ((World.doorLaid Tryd.prog 600 os).forCall (fun _ _ => 0) ⟨#[], #[.slice none 0 0, .int .u64 0, .int .u8 0, .int .u16 0, .int .u64 0, .int .u32 0, .int .u32 0], []⟩).memory Tryd.f4.params.toList Rows.farPointersAreFollowedSpec.vars false (#[.slice none 0 0, .int .u64 0, .int .u8 0, .int .u16 0, .int .u64 0, .int .u32 0, .int .u32 0] : Array Value).toList 8 = some ([.nil, .lit (.int .u64 0), .lit (.int .u8 0), .lit (.int .u16 0), .lit (.int .u64 0), .lit (.int .u32 0), .lit (.int .u32 0)], [], []) := by kernel_rfl
set_option maxRecDepth 100000 in
set_option maxHeartbeats 1000000 in
theorem lifted (os : Os) (started : os.Started) (H : Type) (enc : TypeId × Value → H) (F : Stop.Interp) :
    ReturnsInHanded {} Tryd.checked os 4 .any ((OpenSpec.ofChange Rows.farPointersAreFollowedSpec).preRow enc Tryd.prog Tryd.f4 Rows.farPointersAreFollowedRow.domain false Rows.farPointersAreFollowedRow.laid) (((OpenSpec.ofChange Rows.farPointersAreFollowedSpec).at F).post enc Tryd.prog Tryd.f4 false true false false) := by
  refine returnsInHanded_of_row (C := Tryd.checked) (s := (OpenSpec.ofChange Rows.farPointersAreFollowedSpec)) own started (by kernel_rfl) Tryd.func4
    (witness_row_atRef (enc := enc) (C := Tryd.checked) false (World.doorLaid Tryd.prog 600 os) #[.slice none 0 0, .int .u64 0, .int .u8 0, .int .u16 0, .int .u64 0, .int .u32 0, .int .u32 0] rfl (by kernel_rfl) (by kernel_rfl) (by kernel_rfl)
      (OpenSpec.preRow_of_cond 8 (reads os enc) (by kernel_rfl) (fun k hk => by cases hk) (by kernel_rfl) (door_met os _))) ?_
  intro W base args ds gs before hval0 hW _ hcond _ hL _ _
  have hval : ∀ (j : Nat) t v, Tryd.f4.params[j]? = some t → args[j]? = some v → Value.okWide Tryd.prog W .any base t v := hval0
  have hW' := hW
  obtain ⟨p, q, hA0, hV, rfl, hfz, hnd⟩ := hW
  have hA : DataW.TrodAll enc Tryd.prog W 0 (fun _ => true) true Tryd.f4.params.toList args.toList ds p := hA0
  rw [Tryd.params4] at hA hval
  obtain ⟨v0, vs0, d0, ds0, p0, q0, hargs, rfl, rfl, h0, r0⟩ := trodAll_cons hA
  obtain ⟨v1, vs1, d1, ds1, p1, q1, rfl, rfl, rfl, h1, r1⟩ := trodAll_cons r0
  obtain ⟨v2, vs2, d2, ds2, p2, q2, rfl, rfl, rfl, h2, r2⟩ := trodAll_cons r1
  obtain ⟨v3, vs3, d3, ds3, p3, q3, rfl, rfl, rfl, h3, r3⟩ := trodAll_cons r2
  obtain ⟨v4, vs4, d4, ds4, p4, q4, rfl, rfl, rfl, h4, r4⟩ := trodAll_cons r3
  obtain ⟨v5, vs5, d5, ds5, p5, q5, rfl, rfl, rfl, h5, r5⟩ := trodAll_cons r4
  obtain ⟨v6, vs6, d6, ds6, p6, q6, rfl, rfl, rfl, h6, r6⟩ := trodAll_cons r5
  obtain ⟨rfl, rfl, rfl⟩ := trodAll_nil r6
  obtain rfl : args = #[v0, v1, v2, v3, v4, v5, v6] := by cases args; simp_all
  obtain ⟨rfl, rfl⟩ := trodVars_none hV
  have k0 := h0
  have lt0 : ∀ x ∈ p0, x.block < W.heap.size := by obtain ⟨m, hm⟩ := k0; exact DataW.trod_lt m _ _ _ hm
  obtain ⟨x0, y0, z0, rfl⟩ := okWide_slice Tryd.underlying22 (hval 0 22 v0 rfl rfl)
  obtain ⟨fuel0, hf0⟩ := h0
  obtain ⟨l0, ⟨A0, c0, hcs0, hl0, hr0⟩, s0⟩ := (Opens.slice Tryd.underlying22 (by kernel_rfl) (fun _ => (Opens.slice Tryd.underlying40 (by kernel_rfl) (fun _ => (OpensAt.int Tryd.underlying23)) _)) _ _ _ hf0 : ∃ a, (Kd.slice 40 _).K W a _ ∧ _)
  simp only [Value.cells, List.cons.injEq, Value.slice.injEq, and_true] at hcs0
  obtain ⟨rfl, rfl, rfl⟩ := hcs0
  have k1 := h1
  have lt1 : ∀ x ∈ p1, x.block < W.heap.size := by obtain ⟨m, hm⟩ := k1; exact DataW.trod_lt m _ _ _ hm
  obtain ⟨a1, rfl, _, _, w1⟩ := open_int Tryd.underlying23 (hval 1 23 v1 rfl rfl) h1
  have k2 := h2
  have lt2 : ∀ x ∈ p2, x.block < W.heap.size := by obtain ⟨m, hm⟩ := k2; exact DataW.trod_lt m _ _ _ hm
  obtain ⟨a2, rfl, _, _, w2⟩ := open_int Tryd.underlying5 (hval 2 5 v2 rfl rfl) h2
  have k3 := h3
  have lt3 : ∀ x ∈ p3, x.block < W.heap.size := by obtain ⟨m, hm⟩ := k3; exact DataW.trod_lt m _ _ _ hm
  obtain ⟨a3, rfl, _, _, w3⟩ := open_int Tryd.underlying35 (hval 3 35 v3 rfl rfl) h3
  have k4 := h4
  have lt4 : ∀ x ∈ p4, x.block < W.heap.size := by obtain ⟨m, hm⟩ := k4; exact DataW.trod_lt m _ _ _ hm
  obtain ⟨a4, rfl, _, _, w4⟩ := open_int Tryd.underlying23 (hval 4 23 v4 rfl rfl) h4
  have k5 := h5
  have lt5 : ∀ x ∈ p5, x.block < W.heap.size := by obtain ⟨m, hm⟩ := k5; exact DataW.trod_lt m _ _ _ hm
  obtain ⟨a5, rfl, _, _, w5⟩ := open_int Tryd.underlying36 (hval 5 36 v5 rfl rfl) h5
  have k6 := h6
  have lt6 : ∀ x ∈ p6, x.block < W.heap.size := by obtain ⟨m, hm⟩ := k6; exact DataW.trod_lt m _ _ _ hm
  obtain ⟨a6, rfl, _, _, w6⟩ := open_int Tryd.underlying36 (hval 6 36 v6 rfl rfl) h6
  have hG : Glob false W := ⟨dec_of_laid hL (by first | exact List.mem_cons_self | (exact List.mem_cons_of_mem _ List.mem_cons_self)), fun h => by cases h⟩
  obtain ⟨k, hp⟩ := FarPointersAreFollowed_pure l0 (plain_slice hr0 s0 (fun _ _ _ s k => by obtain ⟨_, _, rfl, _, hC⟩ := k; exact plain_slice hC s (fun _ _ _ s _ => bounds_u64 s.2))) a1 (bounds_u64 w1) a2 (bounds_u8 w2) a3 (bounds_u16 w3) a4 (bounds_u64 w4) a5 (bounds_u32 w5) a6 (bounds_u32 w6)
  refine (capnplaw07_FarPointersAreFollowed.calls k (fun k_ => k_ < W.heap.size) _ _ l0 a1 a2 a3 a4 a5 a6 true W hG (V_came (Kd.heap_slice _ (Kd.heap_int _)) hr0 hl0) hp).mono fun e W' ⟨he, bel⟩ => ?_
  subst he
  exact ⟨_, rfl, _, _, _, [], _, [], hW', trodAll_mk1 (shut_bool Tryd.underlying4 _), (trodAll_cons_mk (Below.trod laidOut (by kernel_rfl) (of_decide_eq_true (by kernel_rfl)) k0 bel lt0) (trodAll_cons_mk (Below.trod laidOut (by kernel_rfl) (of_decide_eq_true (by kernel_rfl)) k1 bel lt1) (trodAll_cons_mk (Below.trod laidOut (by kernel_rfl) (of_decide_eq_true (by kernel_rfl)) k2 bel lt2) (trodAll_cons_mk (Below.trod laidOut (by kernel_rfl) (of_decide_eq_true (by kernel_rfl)) k3 bel lt3) (trodAll_cons_mk (Below.trod laidOut (by kernel_rfl) (of_decide_eq_true (by kernel_rfl)) k4 bel lt4) (trodAll_cons_mk (Below.trod laidOut (by kernel_rfl) (of_decide_eq_true (by kernel_rfl)) k5 bel lt5) (trodAll_cons_mk (Below.trod laidOut (by kernel_rfl) (of_decide_eq_true (by kernel_rfl)) k6 bel lt6) trodAll_mk0))))))), rfl, bel.frame _, fun h => by cases h⟩
theorem over : Rows.farPointersAreFollowedRow.holds Tryd.pinned (OpenSpec.ofChange Rows.farPointersAreFollowedSpec) :=
  OpenClaim.holds_of_cond 4 Tryd.f4 rfl rfl rfl rfl rfl rfl rfl ⟨rfl, rfl, rfl, rfl, rfl⟩ rfl rfl rfl rfl rfl (by kernel_rfl) Tryd.func4 (by kernel_rfl)
    (of_decide_eq_true (by kernel_rfl)) (by unfold Func.isWrapper; first | (rw [if_pos (by decide +kernel)]; kernel_rfl) | (rw [if_neg (by decide +kernel)]; exact ⟨rfl, rfl⟩))
    (fun os started H enc _ F => by rw [OpenClaim.pre_eq_preRow]; exact lifted os started H enc F)
theorem card_holds : Rows.FarPointersAreFollowedCardSaid :=
  Claim7.holds_tied_plain_at .later [] [.funcs] true (true, "0407ccd01fd84b1ba019f912a12938fec7519b4bc3503758b1d06eee7da07cad") false
    over (fun _ h => by cases h) (by kernel_rfl) (fun _ h => by cases h) farPointersAreFollowed_row_tie rfl ⟨rfl, rfl⟩ (by kernel_rfl) rfl
    (fun f fn hf hfn => by
      obtain rfl : f = 4 := Option.some.inj ((show Tryd.prog.funcNamed "capnp/capnplaw07.FarPointersAreFollowed" = some 4 by kernel_rfl).symm.trans hf) |>.symm
      obtain rfl : fn = Tryd.f4 := (Option.some.inj (Tryd.func4.symm.trans hfn)).symm
      exact ⟨by kernel_rfl, fun j t ht => by
        rw [Tryd.params4] at ht
        have hm : t ∈ [22, 23, 5, 35, 23, 36, 36] := by simpa using Array.mem_of_getElem? ht
        have hall : ([22, 23, 5, 35, 23, 36, 36].all fun u => !Tryd.prog.wantsStandIn u) = true := by kernel_rfl
        exact (show Tryd.prog.wantsStandIn t = false by simpa using List.all_eq_true.1 hall t hm)⟩)
    (by kernel_rfl)
#print axioms card_holds
end Go.Proofs.YtcjhejopcghgnaaDoor.farPointersAreFollowed
namespace Go.Proofs.YtcjhejopcghgnaaDoor
theorem farPointersAreFollowed_holds : Go.Proofs.YtcjhejopcghgnaaDoor.Rows.FarPointersAreFollowedCardSaid := farPointersAreFollowed.card_holds
end Go.Proofs.YtcjhejopcghgnaaDoor
