/- This text proves that the law FarMatchesReference of the given program returns true on every input that its statement covers, as the statement says it. Its conditions are the statement's own. -/
import Derived.Test.YtcjhejopcghgnaaDoorBFA1
import Derived.Test.YtcjhejopcghgnaaDoorBFA2
import Derived.Test.YtcjhejopcghgnaaDoorBFA3
import Derived.Test.YtcjhejopcghgnaaDoorBFA4
import Derived.Test.YtcjhejopcghgnaaDoorRows
import Derived.Test.YtcjhejopcghgnaaDoorCards
import Derived.Test.YtcjhejopcghgnaaDoorTie
import Derived.WalkKit
import Derived.ProofKit
import Derived.OpenShut
import Derived.ChangeOld
import Derived.SizedLaws
import Derived.SevenTiedAt
import Derived.Deep.DeepHandedRow
import Derived.Deep.DeepWitnessRowRef
namespace Go.Proofs.YtcjhejopcghgnaaDoor.P
open Go.RowKit Go.Proofs.YtcjhejopcghgnaaDoorW.PrintWords Go.Proofs.YtcjhejopcghgnaaDoorW.PrintLast Go.Proofs.YtcjhejopcghgnaaDoorW.PrintMore
attribute [local go_sem] max2_int min2_int max_two min_two max_three min_three max_four min_four   -- for this text's walks alone
set_option linter.unusedVariables false
set_option linter.unusedSimpArgs false

variable {gb : Bool}
/-! ### capnplaw07_FarMatchesReference: function 3 -/
mutual
def capnplaw07_FarMatchesReference.j0 : Nat → List (List Int) → Int → Int → Int → Bool → Option (Bool)
  | 0, _, _, _, _, _ => none
  | k + 1, x0, x1, x2, x3, x27 => if x27 = true then ((capnplaw07_awake.f k).bind fun t262 => (some t262)) else ((far_Follow.f x0 x1 x2).bind fun bt263 => ((capnpref07_Follow.f k x0 x1 x2).bind fun bt267 => (if bt263.1 = bt267.1 then (if bt263.2.1 = bt267.2.1 then (if bt263.2.2.1 = bt267.2.2.1 then (if bt263.2.2.2 = bt267.2.2.2 then ((far_IsFar.f x3).bind fun t271 => ((capnpref07_IsFar.f x3).bind fun t272 => (capnplaw07_FarMatchesReference.j1 k x3 (t271 != t272)))) else (capnplaw07_FarMatchesReference.j1 k x3 true)) else (capnplaw07_FarMatchesReference.j1 k x3 true)) else (capnplaw07_FarMatchesReference.j1 k x3 true)) else (capnplaw07_FarMatchesReference.j1 k x3 true))))
def capnplaw07_FarMatchesReference.j1 : Nat → Int → Bool → Option (Bool)
  | 0, _, _ => none
  | k + 1, x3, x71 => if x71 = true then (some false) else ((capnpref07_IsFar.f x3).bind fun t273 => (if t273 = true then ((far_Landing.f x3).bind fun bt274 => ((capnpref07_Landing.f x3).bind fun bt276 => (if bt274.1 = bt276.1 then (some (bt274.2 == bt276.2)) else (some false)))) else (some true)))
end
def capnplaw07_FarMatchesReference.f (k : Nat) (l0 : List (List Int)) (a1 : Int) (a2 : Int) (a3 : Int) : Option (Bool) := (capnplaw07_awake.f k).bind fun t260 => (if t260 = true then ((capnpref04_Few.f k l0).bind fun t261 => (capnplaw07_FarMatchesReference.j0 k l0 a1 a2 a3 (!t261))) else (capnplaw07_FarMatchesReference.j0 k l0 a1 a2 a3 true))
theorem capnplaw07_FarMatchesReference.mono_l : ∀ k, (∀ y0 y1 y2 y3 y4, LeO (capnplaw07_FarMatchesReference.j0 k y0 y1 y2 y3 y4) (capnplaw07_FarMatchesReference.j0 (k + 1) y0 y1 y2 y3 y4)) ∧ (∀ y0 y1, LeO (capnplaw07_FarMatchesReference.j1 k y0 y1) (capnplaw07_FarMatchesReference.j1 (k + 1) y0 y1))
  | 0 => ⟨fun _ _ _ _ _ r h => by simp [capnplaw07_FarMatchesReference.j0] at h, fun _ _ r h => by simp [capnplaw07_FarMatchesReference.j1] at h⟩
  | k + 1 => by
    obtain ⟨ih0, ih1⟩ := capnplaw07_FarMatchesReference.mono_l k
    refine ⟨?_, ?_⟩
    · intro y0 y1 y2 y3 y4
      unfold capnplaw07_FarMatchesReference.j0
      repeat' first
      | (with_reducible exact ih0 _ _ _ _ _)
      | (with_reducible exact ih1 _ _)
      | (with_reducible exact capnplaw07_awake.mono _)
      | (with_reducible exact capnpref04_Few.mono _ _)
      | (with_reducible exact capnpref07_Follow.mono _ _ _ _)
      | (with_reducible exact LeO.refl _)
      | (with_reducible exact LeO.none _)
      | (with_reducible refine LeO.ite ?_ ?_)
      | (with_reducible refine LeO.bind ?_ (fun _ => ?_))
      | exact ih0 _ _ _ _ _
      | exact ih1 _ _
      | exact capnplaw07_awake.mono _
      | exact capnpref04_Few.mono _ _
      | exact capnpref07_Follow.mono _ _ _ _
      | exact LeO.none _
      | refine LeO.ite ?_ ?_
      | refine LeO.bind ?_ (fun _ => ?_)
    · intro y0 y1
      unfold capnplaw07_FarMatchesReference.j1
      repeat' first
      | (with_reducible exact ih0 _ _ _ _ _)
      | (with_reducible exact ih1 _ _)
      | (with_reducible exact capnplaw07_awake.mono _)
      | (with_reducible exact capnpref04_Few.mono _ _)
      | (with_reducible exact capnpref07_Follow.mono _ _ _ _)
      | (with_reducible exact LeO.refl _)
      | (with_reducible exact LeO.none _)
      | (with_reducible refine LeO.ite ?_ ?_)
      | (with_reducible refine LeO.bind ?_ (fun _ => ?_))
      | exact ih0 _ _ _ _ _
      | exact ih1 _ _
      | exact capnplaw07_awake.mono _
      | exact capnpref04_Few.mono _ _
      | exact capnpref07_Follow.mono _ _ _ _
      | exact LeO.none _
      | refine LeO.ite ?_ ?_
      | refine LeO.bind ?_ (fun _ => ?_)
theorem capnplaw07_FarMatchesReference.mono : ∀ a0 a1 a2 a3 k, LeO (capnplaw07_FarMatchesReference.f k a0 a1 a2 a3) (capnplaw07_FarMatchesReference.f (k + 1) a0 a1 a2 a3) := by
  intro a0 a1 a2 a3 k
  obtain ⟨ih0, ih1⟩ := capnplaw07_FarMatchesReference.mono_l k
  unfold capnplaw07_FarMatchesReference.f
  repeat' first
      | (with_reducible exact ih0 _ _ _ _ _)
      | (with_reducible exact ih1 _ _)
      | (with_reducible exact capnplaw07_awake.mono _)
      | (with_reducible exact capnpref04_Few.mono _ _)
      | (with_reducible exact capnpref07_Follow.mono _ _ _ _)
      | (with_reducible exact LeO.refl _)
      | (with_reducible exact LeO.none _)
      | (with_reducible refine LeO.ite ?_ ?_)
      | (with_reducible refine LeO.bind ?_ (fun _ => ?_))
      | exact ih0 _ _ _ _ _
      | exact ih1 _ _
      | exact capnplaw07_awake.mono _
      | exact capnpref04_Few.mono _ _
      | exact capnpref07_Follow.mono _ _ _ _
      | exact LeO.none _
      | refine LeO.ite ?_ ?_
      | refine LeO.bind ?_ (fun _ => ?_)
set_option maxHeartbeats 8000000 in
set_option maxRecDepth 100000 in
theorem capnplaw07_FarMatchesReference.calls (k : Nat) (A0 : Option Addr) (c0 : Nat) (l0 : List (List Int)) (a1 : Int) (a2 : Int) (a3 : Int) (r : Bool) (w : World) (hG : Glob gb w) (hr0 : Kd.C (Kd.slice 23 (Kd.int .u64)) w A0 l0.length l0) (hc0 : l0.length ≤ c0) (h : capnplaw07_FarMatchesReference.f k l0 a1 a2 a3 = some r) :
    Calls Tryd.prog 3 #[.slice A0 l0.length c0, .int .i64 a1, .int .i64 a2, .int .u64 a3] w fun e w' => e = .returned (.bool r) ∧ Below w.heap.size w w' := by
  have HG := Aside0.mk hG
  clear hG
  have HR0 := Aside0.mk hr0
  have HC0 := Aside0.mk hc0
  clear hr0 hc0
  have HB := Aside0.mk (Below.refl w.heap.size w)
  have H : ((capnplaw07_awake.f k).bind fun t260 => (if t260 = true then ((capnpref04_Few.f k l0).bind fun t261 => (capnplaw07_FarMatchesReference.j0 k l0 a1 a2 a3 (!t261))) else (capnplaw07_FarMatchesReference.j0 k l0 a1 a2 a3 true))) = some r := h
  clear h
  have HC5 := Aside0.mk H
  clear H
  go_enter Tryd.func3, Tryd.ntmps3
  go_upto_region 1 with (fail)
  go_cut [27] (fun v27 wc => ∃ (kq : Nat) (x27_4 : Bool), v27 = .bool x27_4 ∧ Aside0 (capnplaw07_FarMatchesReference.j0 kq l0 a1 a2 a3 x27_4 = some r) ∧ Aside0 (kq ≤ k) ∧ Aside0 (Below w.heap.size w wc))
  case first =>
    have H := HC5.out
    clear HC5
    replace H := Option.bind_eq_some_iff.mp H
    obtain ⟨t260, A60, H⟩ := H
    replace H : (if t260 = true then ((capnpref04_Few.f k l0).bind fun t261 => (capnplaw07_FarMatchesReference.j0 k l0 a1 a2 a3 (!t261))) else (capnplaw07_FarMatchesReference.j0 k l0 a1 a2 a3 true)) = some r := H
    have A6 := Aside0.mk A60
    clear A60
    by_cases c7 : t260 = true
    · subst c7
      have H1 : ((capnpref04_Few.f k l0).bind fun t261 => (capnplaw07_FarMatchesReference.j0 k l0 a1 a2 a3 (!t261))) = some r := by rw [if_pos rfl] at H; exact H
      clear H
      have H := H1
      clear H1
      replace H := Option.bind_eq_some_iff.mp H
      obtain ⟨t261, A80, H⟩ := H
      replace H : (capnplaw07_FarMatchesReference.j0 k l0 a1 a2 a3 (!t261)) = some r := H
      have A8 := Aside0.mk A80
      clear A80
      have H' := Aside0.mk H
      clear H
      go_wp2_with (first | ((with_reducible refine gate_callee (f := 12) rfl ?_); refine goesL_ (some 21) rfl rfl Tryd.func12 (by kernel_rfl) rfl #[] rfl (by (try simp only [List.map_toArray, List.map_cons, List.map_nil]); first | done | rfl | (simp only [List.length_drop, List.length_take]; rfl)) ?_; (with_reducible refine (capnplaw07_awake.calls (gb := gb) k  true _ ?side1 A6.out).mono ?_); (case side1 => exact Glob.below HG.out (by repeat (first | (with_reducible first | exact HB.out | apply below_alloc | apply pw_below_drewN | apply below_drew1) | exact HB.out))); rintro e w9 ⟨rfl, hb⟩; refine ⟨_, rfl, ?_⟩; have n0_ := Aside0.mk (below_step (by repeat (first | (with_reducible first | exact HB.out | apply below_alloc | apply pw_below_drewN | apply below_drew1) | exact HB.out)) hb); clear HB; have HB := n0_; clear n0_; (try clear hb); (try clear hb2); (try clear hk); (try clear hi)) | (go_at_call 13; (with_reducible refine (capnpref04_Few.calls k _ _ l0 t261 _ ?side1 ?side2 A8.out).mono ?_); (case side1 => repeat (first | exact (Kd.C_below HR0.out HB.out) | (with_reducible refine Kd.C_alloc ?_ _) | (with_reducible refine Kd.C_drewN ?_ _) | (with_reducible refine Kd.C_drew ?_))); (case side2 => exact HC0.out); rintro e w' ⟨rfl, ⟨nd, rfl⟩⟩))
      go_meet
      case rel => exact ⟨_, (!t261), (by first | rfl | (simp; done) | (simp [*]; done)), H', ⟨by first | omega | exact Nat.le_refl _⟩, ⟨by repeat (first | (with_reducible first | exact HB.out | apply below_alloc | apply pw_below_drewN | apply below_drew1) | exact HB.out)⟩⟩
    · replace c7 := Bool.eq_false_iff.mpr c7
      subst c7
      have H1 : (capnplaw07_FarMatchesReference.j0 k l0 a1 a2 a3 true) = some r := by rw [if_neg (show ¬ (false = true) by decide)] at H; exact H
      clear H
      have H := H1
      clear H1
      have H' := Aside0.mk H
      clear H
      go_wp2_with (first | ((with_reducible refine gate_callee (f := 12) rfl ?_); refine goesL_ (some 21) rfl rfl Tryd.func12 (by kernel_rfl) rfl #[] rfl (by (try simp only [List.map_toArray, List.map_cons, List.map_nil]); first | done | rfl | (simp only [List.length_drop, List.length_take]; rfl)) ?_; (with_reducible refine (capnplaw07_awake.calls (gb := gb) k  false _ ?side1 A6.out).mono ?_); (case side1 => exact Glob.below HG.out (by repeat (first | (with_reducible first | exact HB.out | apply below_alloc | apply pw_below_drewN | apply below_drew1) | exact HB.out))); rintro e w10 ⟨rfl, hb⟩; refine ⟨_, rfl, ?_⟩; have n0_ := Aside0.mk (below_step (by repeat (first | (with_reducible first | exact HB.out | apply below_alloc | apply pw_below_drewN | apply below_drew1) | exact HB.out)) hb); clear HB; have HB := n0_; clear n0_; (try clear hb); (try clear hb2); (try clear hk); (try clear hi)))
      go_meet
      case rel => exact ⟨_, (true), (by first | rfl | (simp; done) | (simp [*]; done)), H', ⟨by first | omega | exact Nat.le_refl _⟩, ⟨by repeat (first | (with_reducible first | exact HB.out | apply below_alloc | apply pw_below_drewN | apply below_drew1) | exact HB.out)⟩⟩
  case rest =>
    clear HC5
    try clear c1
    try clear p2
    try clear c3
    try clear c7
    obtain ⟨kq, x27_4, rfl, HA, HJ4, HB⟩ := hcut
    cases kq with
    | zero => exact absurd HA.out (by simp [capnplaw07_FarMatchesReference.j0])
    | succ kj4 =>
      have H := HA.out
      clear HA
      simp only [capnplaw07_FarMatchesReference.j0] at H
      by_cases c11 : x27_4 = true
      · subst c11
        have H1 : ((capnplaw07_awake.f kj4).bind fun t262 => (some t262)) = some r := by rw [if_pos rfl] at H; exact H
        clear H
        have H := H1
        clear H1
        replace H := Option.bind_eq_some_iff.mp H
        obtain ⟨t262, A120, H⟩ := H
        replace H : (some t262) = some r := H
        have A12 := Aside0.mk A120
        clear A120
        obtain rfl := Option.some.inj H
        go_wp2_with (first | ((with_reducible refine gate_callee (f := 12) rfl ?_); refine goesL_ (some 28) rfl rfl Tryd.func12 (by kernel_rfl) rfl #[] rfl (by (try simp only [List.map_toArray, List.map_cons, List.map_nil]); first | done | rfl | (simp only [List.length_drop, List.length_take]; rfl)) ?_; (with_reducible refine (capnplaw07_awake.calls (gb := gb) kj4  t262 _ ?side1 A12.out).mono ?_); (case side1 => exact Glob.below HG.out (by repeat (first | (with_reducible first | exact HB.out | apply below_alloc | apply pw_below_drewN | apply below_drew1) | exact HB.out))); rintro e w13 ⟨rfl, hb⟩; refine ⟨_, rfl, ?_⟩; have n0_ := Aside0.mk (below_step (by repeat (first | (with_reducible first | exact HB.out | apply below_alloc | apply pw_below_drewN | apply below_drew1) | exact HB.out)) hb); clear HB; have HB := n0_; clear n0_; (try clear hb); (try clear hb2); (try clear hk); (try clear hi)))
        go_ret
        exact ⟨by first | rfl | (simp [errW_none, errW_some] <;> rfl) | (simp [*, errW_none, errW_some] <;> rfl), by repeat (first | (with_reducible first | exact HB.out | apply below_alloc | apply pw_below_drewN | apply below_drew1) | exact HB.out)⟩
      · replace c11 := Bool.eq_false_iff.mpr c11
        subst c11
        have H1 : ((far_Follow.f l0 a1 a2).bind fun bt263 => ((capnpref07_Follow.f kj4 l0 a1 a2).bind fun bt267 => (if bt263.1 = bt267.1 then (if bt263.2.1 = bt267.2.1 then (if bt263.2.2.1 = bt267.2.2.1 then (if bt263.2.2.2 = bt267.2.2.2 then ((far_IsFar.f a3).bind fun t271 => ((capnpref07_IsFar.f a3).bind fun t272 => (capnplaw07_FarMatchesReference.j1 kj4 a3 (t271 != t272)))) else (capnplaw07_FarMatchesReference.j1 kj4 a3 true)) else (capnplaw07_FarMatchesReference.j1 kj4 a3 true)) else (capnplaw07_FarMatchesReference.j1 kj4 a3 true)) else (capnplaw07_FarMatchesReference.j1 kj4 a3 true)))) = some r := by rw [if_neg (show ¬ (false = true) by decide)] at H; exact H
        clear H
        have H := H1
        clear H1
        replace H := Option.bind_eq_some_iff.mp H
        obtain ⟨⟨t263, t264, t265, t266⟩, A140, H⟩ := H
        replace H : ((capnpref07_Follow.f kj4 l0 a1 a2).bind fun bt267 => (if t263 = bt267.1 then (if t264 = bt267.2.1 then (if t265 = bt267.2.2.1 then (if t266 = bt267.2.2.2 then ((far_IsFar.f a3).bind fun t271 => ((capnpref07_IsFar.f a3).bind fun t272 => (capnplaw07_FarMatchesReference.j1 kj4 a3 (t271 != t272)))) else (capnplaw07_FarMatchesReference.j1 kj4 a3 true)) else (capnplaw07_FarMatchesReference.j1 kj4 a3 true)) else (capnplaw07_FarMatchesReference.j1 kj4 a3 true)) else (capnplaw07_FarMatchesReference.j1 kj4 a3 true))) = some r := H
        have A14 := Aside0.mk A140
        clear A140
        replace H := Option.bind_eq_some_iff.mp H
        obtain ⟨⟨t267, t268, t269, t270⟩, A150, H⟩ := H
        replace H : (if t263 = t267 then (if t264 = t268 then (if t265 = t269 then (if t266 = t270 then ((far_IsFar.f a3).bind fun t271 => ((capnpref07_IsFar.f a3).bind fun t272 => (capnplaw07_FarMatchesReference.j1 kj4 a3 (t271 != t272)))) else (capnplaw07_FarMatchesReference.j1 kj4 a3 true)) else (capnplaw07_FarMatchesReference.j1 kj4 a3 true)) else (capnplaw07_FarMatchesReference.j1 kj4 a3 true)) else (capnplaw07_FarMatchesReference.j1 kj4 a3 true)) = some r := H
        have A15 := Aside0.mk A150
        clear A150
        have HC16 := Aside0.mk H
        clear H
        go_upto_region 5 with (first | ((with_reducible refine gate_callee (f := 14) rfl ?_); refine goesL_ (some 33) rfl rfl Tryd.func14 (by kernel_rfl) rfl #[.slice A0 l0.length c0, .int .i64 a1, .int .i64 a2] rfl (by (try simp only [List.map_toArray, List.map_cons, List.map_nil]); first | done | rfl | (simp only [List.length_drop, List.length_take]; rfl)) ?_; (with_reducible refine (far_Follow.calls (gb := gb) _ _ l0 a1 a2 t263 t264 t265 t266 _ ?side1 ?side2 ?side3 A14.out).mono ?_); (case side1 => exact Glob.below HG.out (by repeat (first | (with_reducible first | exact HB.out | apply below_alloc | apply pw_below_drewN | apply below_drew1) | exact HB.out))); (case side2 => repeat (first | exact (Kd.C_below HR0.out HB.out) | (with_reducible refine Kd.C_alloc ?_ _) | (with_reducible refine Kd.C_drewN ?_ _) | (with_reducible refine Kd.C_drew ?_))); (case side3 => exact HC0.out); rintro e w17 ⟨rfl, hb⟩; refine ⟨_, rfl, ?_⟩; have n0_ := Aside0.mk (below_step (by repeat (first | (with_reducible first | exact HB.out | apply below_alloc | apply pw_below_drewN | apply below_drew1) | exact HB.out)) hb); clear HB; have HB := n0_; clear n0_; (try clear hb); (try clear hb2); (try clear hk); (try clear hi)) | ((with_reducible refine gate_callee (f := 15) rfl ?_); refine goesL_ (some 42) rfl rfl Tryd.func15 (by kernel_rfl) rfl #[.slice A0 l0.length c0, .int .i64 a1, .int .i64 a2] rfl (by (try simp only [List.map_toArray, List.map_cons, List.map_nil]); first | done | rfl | (simp only [List.length_drop, List.length_take]; rfl)) ?_; (with_reducible refine (capnpref07_Follow.calls kj4 _ _ l0 a1 a2 t267 t268 t269 t270 _ ?side1 ?side2 A15.out).mono ?_); (case side1 => repeat (first | exact (Kd.C_below HR0.out HB.out) | (with_reducible refine Kd.C_alloc ?_ _) | (with_reducible refine Kd.C_drewN ?_ _) | (with_reducible refine Kd.C_drew ?_))); (case side2 => exact HC0.out); rintro e w18 ⟨rfl, hb⟩; refine ⟨_, rfl, ?_⟩; have n0_ := Aside0.mk (below_step (by repeat (first | (with_reducible first | exact HB.out | apply below_alloc | apply pw_below_drewN | apply below_drew1) | exact HB.out)) hb); clear HB; have HB := n0_; clear n0_; (try clear hb); (try clear hb2); (try clear hk); (try clear hi)))
        (try simp only [Act.put, List.setIfInBounds_toArray, List.set_cons_zero, List.set_cons_succ])
        go_cut [71] (fun v71 wc => ∃ (kq : Nat) (x71_15 : Bool), v71 = .bool x71_15 ∧ Aside0 (capnplaw07_FarMatchesReference.j1 kq a3 x71_15 = some r) ∧ Aside0 (kq ≤ kj4) ∧ Aside0 (Below w.heap.size w wc))
        case first =>
          have H := HC16.out
          clear HC16
          by_cases c19 : t263 = t267
          · rw [if_pos c19] at H
            have c19b0 : (t263 == t267) = true := beq_iff_eq.mpr c19
            have c19b1 : (t263 != t267) = false := bne_eq_false_iff_eq.mpr c19
            clear c19
            (first | rw [c19b0] | (simp only [i64_w, i32_w]; rw [c19b0]) | skip)
            by_cases c20 : t264 = t268
            · rw [if_pos c20] at H
              have c20b0 : (t264 == t268) = true := beq_iff_eq.mpr c20
              have c20b1 : (t264 != t268) = false := bne_eq_false_iff_eq.mpr c20
              clear c20
              by_cases c21 : t265 = t269
              · rw [if_pos c21] at H
                have c21b0 : (t265 == t269) = true := beq_iff_eq.mpr c21
                have c21b1 : (t265 != t269) = false := bne_eq_false_iff_eq.mpr c21
                clear c21
                by_cases c22 : t266 = t270
                · rw [if_pos c22] at H
                  have c22b0 : (t266 == t270) = true := beq_iff_eq.mpr c22
                  have c22b1 : (t266 != t270) = false := bne_eq_false_iff_eq.mpr c22
                  clear c22
                  replace H := Option.bind_eq_some_iff.mp H
                  obtain ⟨t271, A230, H⟩ := H
                  replace H : ((capnpref07_IsFar.f a3).bind fun t272 => (capnplaw07_FarMatchesReference.j1 kj4 a3 (t271 != t272))) = some r := H
                  have A23 := Aside0.mk A230
                  clear A230
                  replace H := Option.bind_eq_some_iff.mp H
                  obtain ⟨t272, A240, H⟩ := H
                  replace H : (capnplaw07_FarMatchesReference.j1 kj4 a3 (t271 != t272)) = some r := H
                  have A24 := Aside0.mk A240
                  clear A240
                  have H' := Aside0.mk H
                  clear H
                  go_wp2_with (first | (go_at_call 16; (with_reducible refine (far_IsFar.calls (gb := gb) a3 t271 _ ?side1 A23.out).mono ?_); (case side1 => exact Glob.below HG.out (by repeat (first | (with_reducible first | exact HB.out | apply below_alloc | apply pw_below_drewN | apply below_drew1) | exact HB.out))); rintro e w25 ⟨rfl, hb⟩; have n0_ := Aside0.mk (below_step (by repeat (first | (with_reducible first | exact HB.out | apply below_alloc | apply pw_below_drewN | apply below_drew1) | exact HB.out)) hb); clear HB; have HB := n0_; clear n0_; (try clear hb); (try clear hb2); (try clear hk); (try clear hi)) | (go_at_call 17; (with_reducible refine (capnpref07_IsFar.calls a3 t272 _ A24.out).mono ?_); rintro e w' ⟨rfl, ⟨nd, rfl⟩⟩))
                  go_meet
                  case rel => exact ⟨_, ((t271 != t272)), (by first | rfl | (simp; done) | (simp [*]; done)), H', ⟨by have := HJ4.out; first | omega | exact Nat.le_refl _⟩, ⟨by repeat (first | (with_reducible first | exact HB.out | apply below_alloc | apply pw_below_drewN | apply below_drew1) | exact HB.out)⟩⟩
                · rw [if_neg c22] at H
                  have c22b0 : (t266 == t270) = false := beq_eq_false_iff_ne.mpr c22
                  have c22b1 : (t266 != t270) = true := bne_iff_ne.mpr c22
                  have H' := Aside0.mk H
                  clear H
                  go_wp2
                  go_meet
                  case rel => exact ⟨_, (true), (by first | rfl | (simp; done) | (simp [*]; done)), H', ⟨by have := HJ4.out; first | omega | exact Nat.le_refl _⟩, ⟨by repeat (first | (with_reducible first | exact HB.out | apply below_alloc | apply pw_below_drewN | apply below_drew1) | exact HB.out)⟩⟩
              · rw [if_neg c21] at H
                have c21b0 : (t265 == t269) = false := beq_eq_false_iff_ne.mpr c21
                have c21b1 : (t265 != t269) = true := bne_iff_ne.mpr c21
                have H' := Aside0.mk H
                clear H
                go_wp2
                go_meet
                case rel => exact ⟨_, (true), (by first | rfl | (simp; done) | (simp [*]; done)), H', ⟨by have := HJ4.out; first | omega | exact Nat.le_refl _⟩, ⟨by repeat (first | (with_reducible first | exact HB.out | apply below_alloc | apply pw_below_drewN | apply below_drew1) | exact HB.out)⟩⟩
            · rw [if_neg c20] at H
              have c20b0 : (t264 == t268) = false := beq_eq_false_iff_ne.mpr c20
              have c20b1 : (t264 != t268) = true := bne_iff_ne.mpr c20
              have H' := Aside0.mk H
              clear H
              go_wp2
              go_meet
              case rel => exact ⟨_, (true), (by first | rfl | (simp; done) | (simp [*]; done)), H', ⟨by have := HJ4.out; first | omega | exact Nat.le_refl _⟩, ⟨by repeat (first | (with_reducible first | exact HB.out | apply below_alloc | apply pw_below_drewN | apply below_drew1) | exact HB.out)⟩⟩
          · rw [if_neg c19] at H
            have c19b0 : (t263 == t267) = false := beq_eq_false_iff_ne.mpr c19
            have c19b1 : (t263 != t267) = true := bne_iff_ne.mpr c19
            (first | rw [c19b0] | (simp only [i64_w, i32_w]; rw [c19b0]) | skip)
            have H' := Aside0.mk H
            clear H
            go_wp2
            go_meet
            case rel => exact ⟨_, (true), (by first | rfl | (simp; done) | (simp [*]; done)), H', ⟨by have := HJ4.out; first | omega | exact Nat.le_refl _⟩, ⟨by repeat (first | (with_reducible first | exact HB.out | apply below_alloc | apply pw_below_drewN | apply below_drew1) | exact HB.out)⟩⟩
        case rest =>
          clear HC16
          try clear c1
          try clear c2
          try clear p2
          try clear c3
          try clear c7
          try clear c11
          try clear c12
          try clear c14
          try clear c15
          try clear c19
          try clear c19b0
          try clear c19b1
          try clear c20
          try clear c20b0
          try clear c20b1
          try clear c21
          try clear c21b0
          try clear c21b1
          try clear c22
          try clear c22b0
          try clear c22b1
          try clear p2
          obtain ⟨kq, x71_15, rfl, HA, HJ15, HB⟩ := hcut
          cases kq with
          | zero => exact absurd HA.out (by simp [capnplaw07_FarMatchesReference.j1])
          | succ kj15 =>
            have H := HA.out
            clear HA
            simp only [capnplaw07_FarMatchesReference.j1] at H
            by_cases c26 : x71_15 = true
            · subst c26
              have H1 : (some false) = some r := by rw [if_pos rfl] at H; exact H
              clear H
              have H := H1
              clear H1
              obtain rfl := Option.some.inj H
              go_wp2
              go_ret
              exact ⟨by first | rfl | (simp [errW_none, errW_some] <;> rfl) | (simp [*, errW_none, errW_some] <;> rfl), by repeat (first | (with_reducible first | exact HB.out | apply below_alloc | apply pw_below_drewN | apply below_drew1) | exact HB.out)⟩
            · replace c26 := Bool.eq_false_iff.mpr c26
              subst c26
              have H1 : ((capnpref07_IsFar.f a3).bind fun t273 => (if t273 = true then ((far_Landing.f a3).bind fun bt274 => ((capnpref07_Landing.f a3).bind fun bt276 => (if bt274.1 = bt276.1 then (some (bt274.2 == bt276.2)) else (some false)))) else (some true))) = some r := by rw [if_neg (show ¬ (false = true) by decide)] at H; exact H
              clear H
              have H := H1
              clear H1
              replace H := Option.bind_eq_some_iff.mp H
              obtain ⟨t273, A270, H⟩ := H
              replace H : (if t273 = true then ((far_Landing.f a3).bind fun bt274 => ((capnpref07_Landing.f a3).bind fun bt276 => (if bt274.1 = bt276.1 then (some (bt274.2 == bt276.2)) else (some false)))) else (some true)) = some r := H
              have A27 := Aside0.mk A270
              clear A270
              by_cases c28 : t273 = true
              · subst c28
                have H1 : ((far_Landing.f a3).bind fun bt274 => ((capnpref07_Landing.f a3).bind fun bt276 => (if bt274.1 = bt276.1 then (some (bt274.2 == bt276.2)) else (some false)))) = some r := by rw [if_pos rfl] at H; exact H
                clear H
                have H := H1
                clear H1
                replace H := Option.bind_eq_some_iff.mp H
                obtain ⟨⟨t274, t275⟩, A290, H⟩ := H
                replace H : ((capnpref07_Landing.f a3).bind fun bt276 => (if t274 = bt276.1 then (some (t275 == bt276.2)) else (some false))) = some r := H
                have A29 := Aside0.mk A290
                clear A290
                replace H := Option.bind_eq_some_iff.mp H
                obtain ⟨⟨t276, t277⟩, A300, H⟩ := H
                replace H : (if t274 = t276 then (some (t275 == t277)) else (some false)) = some r := H
                have A30 := Aside0.mk A300
                clear A300
                by_cases c31 : t274 = t276
                · rw [if_pos c31] at H
                  have c31b0 : (t274 == t276) = true := beq_iff_eq.mpr c31
                  have c31b1 : (t274 != t276) = false := bne_eq_false_iff_eq.mpr c31
                  clear c31
                  obtain rfl := Option.some.inj H
                  go_wp2_with (first | ((with_reducible refine gate_callee (f := 17) rfl ?_); refine goesL_ (some 73) rfl rfl Tryd.func17 (by kernel_rfl) rfl #[.int .u64 a3] rfl (by (try simp only [List.map_toArray, List.map_cons, List.map_nil]); first | done | rfl | (simp only [List.length_drop, List.length_take]; rfl)) ?_; (with_reducible refine (capnpref07_IsFar.calls a3 true _ A27.out).mono ?_); rintro e w' ⟨rfl, ⟨nd, rfl⟩⟩; refine ⟨_, rfl, ?_⟩) | ((with_reducible refine gate_callee (f := 18) rfl ?_); refine goesL_ (some 77) rfl rfl Tryd.func18 (by kernel_rfl) rfl #[.int .u64 a3] rfl (by (try simp only [List.map_toArray, List.map_cons, List.map_nil]); first | done | rfl | (simp only [List.length_drop, List.length_take]; rfl)) ?_; (with_reducible refine (far_Landing.calls (gb := gb) a3 t274 t275 _ ?side1 A29.out).mono ?_); (case side1 => exact Glob.below HG.out (by repeat (first | (with_reducible first | exact HB.out | apply below_alloc | apply pw_below_drewN | apply below_drew1) | exact HB.out))); rintro e w32 ⟨rfl, hb⟩; refine ⟨_, rfl, ?_⟩; have n0_ := Aside0.mk (below_step (by repeat (first | (with_reducible first | exact HB.out | apply below_alloc | apply pw_below_drewN | apply below_drew1) | exact HB.out)) hb); clear HB; have HB := n0_; clear n0_; (try clear hb); (try clear hb2); (try clear hk); (try clear hi)) | ((with_reducible refine gate_callee (f := 19) rfl ?_); refine goesL_ (some 82) rfl rfl Tryd.func19 (by kernel_rfl) rfl #[.int .u64 a3] rfl (by (try simp only [List.map_toArray, List.map_cons, List.map_nil]); first | done | rfl | (simp only [List.length_drop, List.length_take]; rfl)) ?_; (with_reducible refine (capnpref07_Landing.calls a3 t276 t277 _ A30.out).mono ?_); rintro e w' ⟨rfl, ⟨nd, rfl⟩⟩; refine ⟨_, rfl, ?_⟩))
                  go_ret
                  exact ⟨by first | rfl | (simp [errW_none, errW_some] <;> rfl) | (simp [*, errW_none, errW_some] <;> rfl), by repeat (first | (with_reducible first | exact HB.out | apply below_alloc | apply pw_below_drewN | apply below_drew1) | exact HB.out)⟩
                · rw [if_neg c31] at H
                  have c31b0 : (t274 == t276) = false := beq_eq_false_iff_ne.mpr c31
                  have c31b1 : (t274 != t276) = true := bne_iff_ne.mpr c31
                  obtain rfl := Option.some.inj H
                  go_wp2_with (first | ((with_reducible refine gate_callee (f := 17) rfl ?_); refine goesL_ (some 73) rfl rfl Tryd.func17 (by kernel_rfl) rfl #[.int .u64 a3] rfl (by (try simp only [List.map_toArray, List.map_cons, List.map_nil]); first | done | rfl | (simp only [List.length_drop, List.length_take]; rfl)) ?_; (with_reducible refine (capnpref07_IsFar.calls a3 true _ A27.out).mono ?_); rintro e w' ⟨rfl, ⟨nd, rfl⟩⟩; refine ⟨_, rfl, ?_⟩) | ((with_reducible refine gate_callee (f := 18) rfl ?_); refine goesL_ (some 77) rfl rfl Tryd.func18 (by kernel_rfl) rfl #[.int .u64 a3] rfl (by (try simp only [List.map_toArray, List.map_cons, List.map_nil]); first | done | rfl | (simp only [List.length_drop, List.length_take]; rfl)) ?_; (with_reducible refine (far_Landing.calls (gb := gb) a3 t274 t275 _ ?side1 A29.out).mono ?_); (case side1 => exact Glob.below HG.out (by repeat (first | (with_reducible first | exact HB.out | apply below_alloc | apply pw_below_drewN | apply below_drew1) | exact HB.out))); rintro e w33 ⟨rfl, hb⟩; refine ⟨_, rfl, ?_⟩; have n0_ := Aside0.mk (below_step (by repeat (first | (with_reducible first | exact HB.out | apply below_alloc | apply pw_below_drewN | apply below_drew1) | exact HB.out)) hb); clear HB; have HB := n0_; clear n0_; (try clear hb); (try clear hb2); (try clear hk); (try clear hi)) | ((with_reducible refine gate_callee (f := 19) rfl ?_); refine goesL_ (some 82) rfl rfl Tryd.func19 (by kernel_rfl) rfl #[.int .u64 a3] rfl (by (try simp only [List.map_toArray, List.map_cons, List.map_nil]); first | done | rfl | (simp only [List.length_drop, List.length_take]; rfl)) ?_; (with_reducible refine (capnpref07_Landing.calls a3 t276 t277 _ A30.out).mono ?_); rintro e w' ⟨rfl, ⟨nd, rfl⟩⟩; refine ⟨_, rfl, ?_⟩))
                  go_ret
                  exact ⟨by first | rfl | (simp [errW_none, errW_some] <;> rfl) | (simp [*, errW_none, errW_some] <;> rfl), by repeat (first | (with_reducible first | exact HB.out | apply below_alloc | apply pw_below_drewN | apply below_drew1) | exact HB.out)⟩
              · replace c28 := Bool.eq_false_iff.mpr c28
                subst c28
                have H1 : (some true) = some r := by rw [if_neg (show ¬ (false = true) by decide)] at H; exact H
                clear H
                have H := H1
                clear H1
                obtain rfl := Option.some.inj H
                go_wp2_with (first | ((with_reducible refine gate_callee (f := 17) rfl ?_); refine goesL_ (some 73) rfl rfl Tryd.func17 (by kernel_rfl) rfl #[.int .u64 a3] rfl (by (try simp only [List.map_toArray, List.map_cons, List.map_nil]); first | done | rfl | (simp only [List.length_drop, List.length_take]; rfl)) ?_; (with_reducible refine (capnpref07_IsFar.calls a3 false _ A27.out).mono ?_); rintro e w' ⟨rfl, ⟨nd, rfl⟩⟩; refine ⟨_, rfl, ?_⟩))
                go_ret
                exact ⟨by first | rfl | (simp [errW_none, errW_some] <;> rfl) | (simp [*, errW_none, errW_some] <;> rfl), by repeat (first | (with_reducible first | exact HB.out | apply below_alloc | apply pw_below_drewN | apply below_drew1) | exact HB.out)⟩

end Go.Proofs.YtcjhejopcghgnaaDoor.P

set_option linter.unusedVariables false
set_option linter.unusedSimpArgs false
namespace Go.Proofs.YtcjhejopcghgnaaDoor.P
open Go.RowKit Go.Proofs.YtcjhejopcghgnaaDoorW.PrintWords Go.Proofs.YtcjhejopcghgnaaDoorW.PrintLast Go.Proofs.YtcjhejopcghgnaaDoorW.PrintMore
theorem FarMatchesReference_pure (l : List (List Int)) (h : Segs l) (s : Int) (hs : -9223372036854775808 ≤ s ∧ s ≤ 9223372036854775807) (a : Int) (ha : -9223372036854775808 ≤ a ∧ a ≤ 9223372036854775807) (w : Int) (hw : 0 ≤ w ∧ w ≤ 18446744073709551615) :
    ∃ k, capnplaw07_FarMatchesReference.f k l s a w = some true := by
  refine Has.ex (g := fun k => capnplaw07_FarMatchesReference.f k l s a w) ?_
  have hw' : 0 ≤ w ∧ w < 18446744073709551616 := by omega
  simp only [capnplaw07_FarMatchesReference.f]
  refine Has.bind awake_has (Has.pos rfl (Has.bind (Few_has h) ?_))
  refine Has.step (fun k => by rw [capnplaw07_FarMatchesReference.j0]) ?_
  by_cases hf : Few l
  case neg =>
    rw [decide_eq_false hf]
    exact Has.pos rfl (Has.bind awake_has (Has.some_ _))
  rw [decide_eq_true hf]
  refine Has.neg (by simp) ?_
  rw [Follow_eq h]
  simp only [Option.bind_some]
  refine Has.bind (rFollow_has h s a) ?_
  refine Has.pos rfl (Has.pos rfl (Has.pos rfl (Has.pos rfl ?_)))
  simp only [IsFar_eq hw', rIsFar_eq hw', Option.bind_some]
  refine Has.step (fun k => by rw [capnplaw07_FarMatchesReference.j1]) ?_
  refine Has.neg (by simp) ?_
  simp only [rIsFar_eq hw', Option.bind_some]
  by_cases hx : w % 4 = 2
  case neg => exact Has.neg (by simpa using hx) (Has.some_ _)
  refine Has.pos (by simpa using hx) (Has.const ?_)
  rw [Landing_eq hw' hx, rLanding_eq hw']
  simp
end Go.Proofs.YtcjhejopcghgnaaDoor.P

namespace Go.Proofs.YtcjhejopcghgnaaDoor.farMatchesReference
open Go.ChangeShapes Go.WideShapes Go.ChangeAt Go.RowKit Go.Proofs.YtcjhejopcghgnaaDoor.P Go.Proofs.YtcjhejopcghgnaaDoorW.PrintWords
open Go.ChangeMaps (open_string shut_string)
open Go.Proofs.YtcjhejopcghgnaaDoor.P
set_option linter.unusedVariables false
theorem own : ownKnob Tryd.prog.godebug = none := by kernel_rfl
theorem laidOut : laidOutB Tryd.prog = true := by kernel_rfl
theorem door_met (os : Os) (args : Array Value) : laidMetH Tryd.prog Rows.farMatchesReferenceRow.laid ((World.doorLaid Tryd.prog 600 os).forCall (fun _ _ => 0) ⟨#[], args, []⟩).memory :=
  laidMetH_of_parts3 (fuel := 8) (laidMet_of_run' 8 (by kernel_rfl) (by kernel_rfl)) (by kernel_rfl) (by kernel_rfl)
set_option maxRecDepth 100000 in
set_option maxHeartbeats 1000000 in
theorem reads (os : Os) {H : Type} (enc : TypeId × Value → H) : DataW.whole enc Tryd.prog ((World.doorLaid Tryd.prog 600 os).forCall (fun _ _ => 0) ⟨#[], #[.slice none 0 0, .int .i64 0, .int .i64 0, .int .u64 0], []⟩).memory Tryd.f3.params.toList Rows.farMatchesReferenceSpec.vars false (#[.slice none 0 0, .int .i64 0, .int .i64 0, .int .u64 0] : Array Value).toList 8 = some ([.nil, .lit (.int .i64 0), .lit (.int .i64 0), .lit (.int .u64 0)], [], []) := by kernel_rfl
set_option maxRecDepth 100000 in
set_option maxHeartbeats 1000000 in
theorem lifted (os : Os) (started : os.Started) (H : Type) (enc : TypeId × Value → H) (F : Stop.Interp) :
    ReturnsInHanded {} Tryd.checked os 3 .any ((OpenSpec.ofChange Rows.farMatchesReferenceSpec).preRow enc Tryd.prog Tryd.f3 Rows.farMatchesReferenceRow.domain false Rows.farMatchesReferenceRow.laid) (((OpenSpec.ofChange Rows.farMatchesReferenceSpec).at F).post enc Tryd.prog Tryd.f3 false true false false) := by
  refine returnsInHanded_of_row (C := Tryd.checked) (s := (OpenSpec.ofChange Rows.farMatchesReferenceSpec)) own started (by kernel_rfl) Tryd.func3
    (witness_row_atRef (enc := enc) (C := Tryd.checked) false (World.doorLaid Tryd.prog 600 os) #[.slice none 0 0, .int .i64 0, .int .i64 0, .int .u64 0] rfl (by kernel_rfl) (by kernel_rfl) (by kernel_rfl)
      (OpenSpec.preRow_of_cond 8 (reads os enc) (by kernel_rfl) (fun k hk => by cases hk) (by kernel_rfl) (door_met os _))) ?_
  intro W base args ds gs before hval0 hW _ hcond _ hL _ _
  have hval : ∀ (j : Nat) t v, Tryd.f3.params[j]? = some t → args[j]? = some v → Value.okWide Tryd.prog W .any base t v := hval0
  have hW' := hW
  obtain ⟨p, q, hA0, hV, rfl, hfz, hnd⟩ := hW
  have hA : DataW.TrodAll enc Tryd.prog W 0 (fun _ => true) true Tryd.f3.params.toList args.toList ds p := hA0
  rw [Tryd.params3] at hA hval
  obtain ⟨v0, vs0, d0, ds0, p0, q0, hargs, rfl, rfl, h0, r0⟩ := trodAll_cons hA
  obtain ⟨v1, vs1, d1, ds1, p1, q1, rfl, rfl, rfl, h1, r1⟩ := trodAll_cons r0
  obtain ⟨v2, vs2, d2, ds2, p2, q2, rfl, rfl, rfl, h2, r2⟩ := trodAll_cons r1
  obtain ⟨v3, vs3, d3, ds3, p3, q3, rfl, rfl, rfl, h3, r3⟩ := trodAll_cons r2
  obtain ⟨rfl, rfl, rfl⟩ := trodAll_nil r3
  obtain rfl : args = #[v0, v1, v2, v3] := by cases args; simp_all
  obtain ⟨rfl, rfl⟩ := trodVars_none hV
  have k0 := h0
  have lt0 : ∀ x ∈ p0, x.block < W.heap.size := by obtain ⟨m, hm⟩ := k0; exact DataW.trod_lt m _ _ _ hm
  obtain ⟨x0, y0, z0, rfl⟩ := okWide_slice Tryd.underlying22 (hval 0 22 v0 rfl rfl)
  obtain ⟨fuel0, hf0⟩ := h0
  obtain ⟨l0, ⟨A0, c0, hcs0, hl0, hr0⟩, s0⟩ := (Opens.slice Tryd.underlying22 (by kernel_rfl) (fun _ => (Opens.slice Tryd.underlying40 (by kernel_rfl) (fun _ => (OpensAt.int Tryd.underlying23)) _)) _ _ _ hf0 : ∃ a, (Kd.slice 40 _).K W a _ ∧ _)
  simp only [Value.cells, List.cons.injEq, Value.slice.injEq, and_true] at hcs0
  obtain ⟨rfl, rfl, rfl⟩ := hcs0
  have k1 := h1
  have lt1 : ∀ x ∈ p1, x.block < W.heap.size := by obtain ⟨m, hm⟩ := k1; exact DataW.trod_lt m _ _ _ hm
  obtain ⟨a1, rfl, _, _, w1⟩ := open_int Tryd.underlying3 (hval 1 3 v1 rfl rfl) h1
  have k2 := h2
  have lt2 : ∀ x ∈ p2, x.block < W.heap.size := by obtain ⟨m, hm⟩ := k2; exact DataW.trod_lt m _ _ _ hm
  obtain ⟨a2, rfl, _, _, w2⟩ := open_int Tryd.underlying3 (hval 2 3 v2 rfl rfl) h2
  have k3 := h3
  have lt3 : ∀ x ∈ p3, x.block < W.heap.size := by obtain ⟨m, hm⟩ := k3; exact DataW.trod_lt m _ _ _ hm
  obtain ⟨a3, rfl, _, _, w3⟩ := open_int Tryd.underlying23 (hval 3 23 v3 rfl rfl) h3
  have hG : Glob false W := ⟨dec_of_laid hL (by first | exact List.mem_cons_self | (exact List.mem_cons_of_mem _ List.mem_cons_self)), fun h => by cases h⟩
  obtain ⟨k, hp⟩ := FarMatchesReference_pure l0 (plain_slice hr0 s0 (fun _ _ _ s k => by obtain ⟨_, _, rfl, _, hC⟩ := k; exact plain_slice hC s (fun _ _ _ s _ => bounds_u64 s.2))) a1 (bounds_i64 w1) a2 (bounds_i64 w2) a3 (bounds_u64 w3)
  refine (capnplaw07_FarMatchesReference.calls k _ _ l0 a1 a2 a3 true W hG hr0 hl0 hp).mono fun e W' ⟨he, bel⟩ => ?_
  subst he
  exact ⟨_, rfl, _, _, _, [], _, [], hW', trodAll_mk1 (shut_bool Tryd.underlying4 _), (trodAll_cons_mk (Below.trod laidOut (by kernel_rfl) (of_decide_eq_true (by kernel_rfl)) k0 bel lt0) (trodAll_cons_mk (Below.trod laidOut (by kernel_rfl) (of_decide_eq_true (by kernel_rfl)) k1 bel lt1) (trodAll_cons_mk (Below.trod laidOut (by kernel_rfl) (of_decide_eq_true (by kernel_rfl)) k2 bel lt2) (trodAll_cons_mk (Below.trod laidOut (by kernel_rfl) (of_decide_eq_true (by kernel_rfl)) k3 bel lt3) trodAll_mk0)))), rfl, bel.frame _, fun h => by cases h⟩
theorem over : Rows.farMatchesReferenceRow.holds Tryd.pinned (OpenSpec.ofChange Rows.farMatchesReferenceSpec) :=
  OpenClaim.holds_of_cond 3 Tryd.f3 rfl rfl rfl rfl rfl rfl rfl ⟨rfl, rfl, rfl, rfl, rfl⟩ rfl rfl rfl rfl rfl (by kernel_rfl) Tryd.func3 (by kernel_rfl)
    (of_decide_eq_true (by kernel_rfl)) (by unfold Func.isWrapper; first | (rw [if_pos (by decide +kernel)]; kernel_rfl) | (rw [if_neg (by decide +kernel)]; exact ⟨rfl, rfl⟩))
    (fun os started H enc _ F => by rw [OpenClaim.pre_eq_preRow]; exact lifted os started H enc F)
theorem card_holds : Rows.FarMatchesReferenceCardSaid :=
  Claim7.holds_tied_plain_at .later [] [.funcs] true (true, "0407ccd01fd84b1ba019f912a12938fec7519b4bc3503758b1d06eee7da07cad") false
    over (fun _ h => by cases h) (by kernel_rfl) (fun _ h => by cases h) farMatchesReference_row_tie rfl ⟨rfl, rfl⟩ (by kernel_rfl) rfl
    (fun f fn hf hfn => by
      obtain rfl : f = 3 := Option.some.inj ((show Tryd.prog.funcNamed "capnp/capnplaw07.FarMatchesReference" = some 3 by kernel_rfl).symm.trans hf) |>.symm
      obtain rfl : fn = Tryd.f3 := (Option.some.inj (Tryd.func3.symm.trans hfn)).symm
      exact ⟨by kernel_rfl, fun j t ht => by
        rw [Tryd.params3] at ht
        have hm : t ∈ [22, 3, 3, 23] := by simpa using Array.mem_of_getElem? ht
        have hall : ([22, 3, 3, 23].all fun u => !Tryd.prog.wantsStandIn u) = true := by kernel_rfl
        exact (show Tryd.prog.wantsStandIn t = false by simpa using List.all_eq_true.1 hall t hm)⟩)
    (by kernel_rfl)
#print axioms card_holds
end Go.Proofs.YtcjhejopcghgnaaDoor.farMatchesReference
namespace Go.Proofs.YtcjhejopcghgnaaDoor
theorem farMatchesReference_holds : Go.Proofs.YtcjhejopcghgnaaDoor.Rows.FarMatchesReferenceCardSaid := farMatchesReference.card_holds
end Go.Proofs.YtcjhejopcghgnaaDoor
