/- The texts of this session that come first, joined by wip/merge.py. -/
import Derived.Test.YtcjhejopcghgnaaDoorBFA1
import Derived.Test.YtcjhejopcghgnaaDoorBFA3
import Derived.Test.YtcjhejopcghgnaaDoorBFA2
import Derived.Test.YtcjhejopcghgnaaDoorProg
import Derived.ProofKit
import Derived.OpenShut
import Derived.LaidMore
import Derived.Stop.Joined
import Derived.Deep.Slices
import Derived.Test.YtcjhejopcghgnaaDoorWMore
import Derived.Test.YtcjhejopcghgnaaDoorRows
import Derived.Maps.OwnSet
import Derived.Maps.Keyed
import Derived.LaidSub
import Derived.Lib.LaidTab
namespace Go.Proofs.YtcjhejopcghgnaaDoor.P
open Go.RowKit Go.Proofs.YtcjhejopcghgnaaDoorW.PrintWords Go.Proofs.YtcjhejopcghgnaaDoorW.PrintLast Go.Proofs.YtcjhejopcghgnaaDoorW.PrintMore
attribute [local go_sem] max2_int min2_int max_two min_two max_three min_three max_four min_four   -- for this text's walks alone
set_option linter.unusedVariables false
set_option linter.unusedSimpArgs false

variable {gb : Bool}
/-! ### capnpref07_Follow: function 15 -/
def capnpref07_Follow.f (k : Nat) (l0 : List (List Int)) (a1 : Int) (a2 : Int) : Option (Int × Int × Int × Int) := (capnpref05_Word.f k l0 a1 a2).bind fun bt236 => (if bt236.2 = true then ((capnpref07_IsFar.f bt236.1).bind fun t238 => (if t238 = true then ((capnpref07_Landing.f bt236.1).bind fun bt239 => ((capnpref05_Word.f k l0 bt239.1 bt239.2).bind fun bt241 => (if bt241.2 = true then (if (Int.tmod (IntKind.u64.wrap (Int.tdiv bt236.1 4)) 2) = 0 then ((capnpref07_IsFar.f bt241.1).bind fun t243 => (if t243 = true then (some (0, 0, 0, 3)) else (some (bt241.1, bt239.1, wrap64 (bt239.2 + 1), 0)))) else ((capnpref05_Word.f k l0 bt239.1 (wrap64 (bt239.2 + 1))).bind fun bt244 => (if bt244.2 = true then ((capnpref02_Decode.f k bt244.1).bind fun bt246 => ((capnpref07_IsFar.f bt241.1).bind fun t257 => (if t257 = true then (if (Int.tmod (IntKind.u64.wrap (Int.tdiv bt241.1 4)) 2) = 1 then (some (0, 0, 0, 3)) else (if bt246.1 > 1 then (some (0, 0, 0, 3)) else (if bt246.2.1 = 0 then ((capnpref07_Landing.f bt241.1).bind fun bt258 => (some (bt244.1, bt258.1, bt258.2, 0))) else (some (0, 0, 0, 3))))) else (some (0, 0, 0, 3))))) else (some (0, 0, 0, 2))))) else (some (0, 0, 0, 2))))) else (some (bt236.1, a1, wrap64 (a2 + 1), 0)))) else (some (0, 0, 0, 2)))
theorem capnpref07_Follow.mono : ∀ a0 a1 a2 k, LeO (capnpref07_Follow.f k a0 a1 a2) (capnpref07_Follow.f (k + 1) a0 a1 a2) := by
  intro a0 a1 a2 k
  unfold capnpref07_Follow.f
  repeat' first
      | (with_reducible exact capnpref02_Decode.mono _ _)
      | (with_reducible exact capnpref05_Word.mono _ _ _ _)
      | (with_reducible exact LeO.refl _)
      | (with_reducible exact LeO.none _)
      | (with_reducible refine LeO.ite ?_ ?_)
      | (with_reducible refine LeO.bind ?_ (fun _ => ?_))
      | exact capnpref02_Decode.mono _ _
      | exact capnpref05_Word.mono _ _ _ _
      | exact LeO.none _
      | refine LeO.ite ?_ ?_
      | refine LeO.bind ?_ (fun _ => ?_)
set_option maxHeartbeats 8000000 in
set_option maxRecDepth 100000 in
theorem capnpref07_Follow.calls (k : Nat) (A0 : Option Addr) (c0 : Nat) (l0 : List (List Int)) (a1 : Int) (a2 : Int) (r1 : Int) (r2 : Int) (r3 : Int) (r4 : Int) (w : World) (hr0 : Kd.C (Kd.slice 23 (Kd.int .u64)) w A0 l0.length l0) (hc0 : l0.length ≤ c0) (h : capnpref07_Follow.f k l0 a1 a2 = some (r1, r2, r3, r4)) :
    Calls Tryd.prog 15 #[.slice A0 l0.length c0, .int .i64 a1, .int .i64 a2] w fun e w' => e = .returned (.tuple #[.int .u64 r1, .int .i64 r2, .int .i64 r3, .int .i64 r4]) ∧ Below w.heap.size w w' := by
  have hu39 := Tryd.underlying39
  have HR0 := Aside0.mk hr0
  have HC0 := Aside0.mk hc0
  clear hr0 hc0
  have HB := Aside0.mk (Below.refl w.heap.size w)
  have H : ((capnpref05_Word.f k l0 a1 a2).bind fun bt236 => (if bt236.2 = true then ((capnpref07_IsFar.f bt236.1).bind fun t238 => (if t238 = true then ((capnpref07_Landing.f bt236.1).bind fun bt239 => ((capnpref05_Word.f k l0 bt239.1 bt239.2).bind fun bt241 => (if bt241.2 = true then (if (Int.tmod (IntKind.u64.wrap (Int.tdiv bt236.1 4)) 2) = 0 then ((capnpref07_IsFar.f bt241.1).bind fun t243 => (if t243 = true then (some (0, 0, 0, 3)) else (some (bt241.1, bt239.1, wrap64 (bt239.2 + 1), 0)))) else ((capnpref05_Word.f k l0 bt239.1 (wrap64 (bt239.2 + 1))).bind fun bt244 => (if bt244.2 = true then ((capnpref02_Decode.f k bt244.1).bind fun bt246 => ((capnpref07_IsFar.f bt241.1).bind fun t257 => (if t257 = true then (if (Int.tmod (IntKind.u64.wrap (Int.tdiv bt241.1 4)) 2) = 1 then (some (0, 0, 0, 3)) else (if bt246.1 > 1 then (some (0, 0, 0, 3)) else (if bt246.2.1 = 0 then ((capnpref07_Landing.f bt241.1).bind fun bt258 => (some (bt244.1, bt258.1, bt258.2, 0))) else (some (0, 0, 0, 3))))) else (some (0, 0, 0, 3))))) else (some (0, 0, 0, 2))))) else (some (0, 0, 0, 2))))) else (some (bt236.1, a1, wrap64 (a2 + 1), 0)))) else (some (0, 0, 0, 2)))) = some (r1, r2, r3, r4) := h
  clear h
  replace H := Option.bind_eq_some_iff.mp H
  obtain ⟨⟨t236, t237⟩, A40, H⟩ := H
  replace H : (if t237 = true then ((capnpref07_IsFar.f t236).bind fun t238 => (if t238 = true then ((capnpref07_Landing.f t236).bind fun bt239 => ((capnpref05_Word.f k l0 bt239.1 bt239.2).bind fun bt241 => (if bt241.2 = true then (if (Int.tmod (IntKind.u64.wrap (Int.tdiv t236 4)) 2) = 0 then ((capnpref07_IsFar.f bt241.1).bind fun t243 => (if t243 = true then (some (0, 0, 0, 3)) else (some (bt241.1, bt239.1, wrap64 (bt239.2 + 1), 0)))) else ((capnpref05_Word.f k l0 bt239.1 (wrap64 (bt239.2 + 1))).bind fun bt244 => (if bt244.2 = true then ((capnpref02_Decode.f k bt244.1).bind fun bt246 => ((capnpref07_IsFar.f bt241.1).bind fun t257 => (if t257 = true then (if (Int.tmod (IntKind.u64.wrap (Int.tdiv bt241.1 4)) 2) = 1 then (some (0, 0, 0, 3)) else (if bt246.1 > 1 then (some (0, 0, 0, 3)) else (if bt246.2.1 = 0 then ((capnpref07_Landing.f bt241.1).bind fun bt258 => (some (bt244.1, bt258.1, bt258.2, 0))) else (some (0, 0, 0, 3))))) else (some (0, 0, 0, 3))))) else (some (0, 0, 0, 2))))) else (some (0, 0, 0, 2))))) else (some (t236, a1, wrap64 (a2 + 1), 0)))) else (some (0, 0, 0, 2))) = some (r1, r2, r3, r4) := H
  have A4 := Aside0.mk A40
  clear A40
  by_cases c5 : t237 = true
  · subst c5
    have H1 : ((capnpref07_IsFar.f t236).bind fun t238 => (if t238 = true then ((capnpref07_Landing.f t236).bind fun bt239 => ((capnpref05_Word.f k l0 bt239.1 bt239.2).bind fun bt241 => (if bt241.2 = true then (if (Int.tmod (IntKind.u64.wrap (Int.tdiv t236 4)) 2) = 0 then ((capnpref07_IsFar.f bt241.1).bind fun t243 => (if t243 = true then (some (0, 0, 0, 3)) else (some (bt241.1, bt239.1, wrap64 (bt239.2 + 1), 0)))) else ((capnpref05_Word.f k l0 bt239.1 (wrap64 (bt239.2 + 1))).bind fun bt244 => (if bt244.2 = true then ((capnpref02_Decode.f k bt244.1).bind fun bt246 => ((capnpref07_IsFar.f bt241.1).bind fun t257 => (if t257 = true then (if (Int.tmod (IntKind.u64.wrap (Int.tdiv bt241.1 4)) 2) = 1 then (some (0, 0, 0, 3)) else (if bt246.1 > 1 then (some (0, 0, 0, 3)) else (if bt246.2.1 = 0 then ((capnpref07_Landing.f bt241.1).bind fun bt258 => (some (bt244.1, bt258.1, bt258.2, 0))) else (some (0, 0, 0, 3))))) else (some (0, 0, 0, 3))))) else (some (0, 0, 0, 2))))) else (some (0, 0, 0, 2))))) else (some (t236, a1, wrap64 (a2 + 1), 0)))) = some (r1, r2, r3, r4) := by rw [if_pos rfl] at H; exact H
    clear H
    have H := H1
    clear H1
    replace H := Option.bind_eq_some_iff.mp H
    obtain ⟨t238, A60, H⟩ := H
    replace H : (if t238 = true then ((capnpref07_Landing.f t236).bind fun bt239 => ((capnpref05_Word.f k l0 bt239.1 bt239.2).bind fun bt241 => (if bt241.2 = true then (if (Int.tmod (IntKind.u64.wrap (Int.tdiv t236 4)) 2) = 0 then ((capnpref07_IsFar.f bt241.1).bind fun t243 => (if t243 = true then (some (0, 0, 0, 3)) else (some (bt241.1, bt239.1, wrap64 (bt239.2 + 1), 0)))) else ((capnpref05_Word.f k l0 bt239.1 (wrap64 (bt239.2 + 1))).bind fun bt244 => (if bt244.2 = true then ((capnpref02_Decode.f k bt244.1).bind fun bt246 => ((capnpref07_IsFar.f bt241.1).bind fun t257 => (if t257 = true then (if (Int.tmod (IntKind.u64.wrap (Int.tdiv bt241.1 4)) 2) = 1 then (some (0, 0, 0, 3)) else (if bt246.1 > 1 then (some (0, 0, 0, 3)) else (if bt246.2.1 = 0 then ((capnpref07_Landing.f bt241.1).bind fun bt258 => (some (bt244.1, bt258.1, bt258.2, 0))) else (some (0, 0, 0, 3))))) else (some (0, 0, 0, 3))))) else (some (0, 0, 0, 2))))) else (some (0, 0, 0, 2))))) else (some (t236, a1, wrap64 (a2 + 1), 0))) = some (r1, r2, r3, r4) := H
    have A6 := Aside0.mk A60
    clear A60
    by_cases c7 : t238 = true
    · subst c7
      have H1 : ((capnpref07_Landing.f t236).bind fun bt239 => ((capnpref05_Word.f k l0 bt239.1 bt239.2).bind fun bt241 => (if bt241.2 = true then (if (Int.tmod (IntKind.u64.wrap (Int.tdiv t236 4)) 2) = 0 then ((capnpref07_IsFar.f bt241.1).bind fun t243 => (if t243 = true then (some (0, 0, 0, 3)) else (some (bt241.1, bt239.1, wrap64 (bt239.2 + 1), 0)))) else ((capnpref05_Word.f k l0 bt239.1 (wrap64 (bt239.2 + 1))).bind fun bt244 => (if bt244.2 = true then ((capnpref02_Decode.f k bt244.1).bind fun bt246 => ((capnpref07_IsFar.f bt241.1).bind fun t257 => (if t257 = true then (if (Int.tmod (IntKind.u64.wrap (Int.tdiv bt241.1 4)) 2) = 1 then (some (0, 0, 0, 3)) else (if bt246.1 > 1 then (some (0, 0, 0, 3)) else (if bt246.2.1 = 0 then ((capnpref07_Landing.f bt241.1).bind fun bt258 => (some (bt244.1, bt258.1, bt258.2, 0))) else (some (0, 0, 0, 3))))) else (some (0, 0, 0, 3))))) else (some (0, 0, 0, 2))))) else (some (0, 0, 0, 2))))) = some (r1, r2, r3, r4) := by rw [if_pos rfl] at H; exact H
      clear H
      have H := H1
      clear H1
      replace H := Option.bind_eq_some_iff.mp H
      obtain ⟨⟨t239, t240⟩, A80, H⟩ := H
      replace H : ((capnpref05_Word.f k l0 t239 t240).bind fun bt241 => (if bt241.2 = true then (if (Int.tmod (IntKind.u64.wrap (Int.tdiv t236 4)) 2) = 0 then ((capnpref07_IsFar.f bt241.1).bind fun t243 => (if t243 = true then (some (0, 0, 0, 3)) else (some (bt241.1, t239, wrap64 (t240 + 1), 0)))) else ((capnpref05_Word.f k l0 t239 (wrap64 (t240 + 1))).bind fun bt244 => (if bt244.2 = true then ((capnpref02_Decode.f k bt244.1).bind fun bt246 => ((capnpref07_IsFar.f bt241.1).bind fun t257 => (if t257 = true then (if (Int.tmod (IntKind.u64.wrap (Int.tdiv bt241.1 4)) 2) = 1 then (some (0, 0, 0, 3)) else (if bt246.1 > 1 then (some (0, 0, 0, 3)) else (if bt246.2.1 = 0 then ((capnpref07_Landing.f bt241.1).bind fun bt258 => (some (bt244.1, bt258.1, bt258.2, 0))) else (some (0, 0, 0, 3))))) else (some (0, 0, 0, 3))))) else (some (0, 0, 0, 2))))) else (some (0, 0, 0, 2)))) = some (r1, r2, r3, r4) := H
      have A8 := Aside0.mk A80
      clear A80
      replace H := Option.bind_eq_some_iff.mp H
      obtain ⟨⟨t241, t242⟩, A90, H⟩ := H
      replace H : (if t242 = true then (if (Int.tmod (IntKind.u64.wrap (Int.tdiv t236 4)) 2) = 0 then ((capnpref07_IsFar.f t241).bind fun t243 => (if t243 = true then (some (0, 0, 0, 3)) else (some (t241, t239, wrap64 (t240 + 1), 0)))) else ((capnpref05_Word.f k l0 t239 (wrap64 (t240 + 1))).bind fun bt244 => (if bt244.2 = true then ((capnpref02_Decode.f k bt244.1).bind fun bt246 => ((capnpref07_IsFar.f t241).bind fun t257 => (if t257 = true then (if (Int.tmod (IntKind.u64.wrap (Int.tdiv t241 4)) 2) = 1 then (some (0, 0, 0, 3)) else (if bt246.1 > 1 then (some (0, 0, 0, 3)) else (if bt246.2.1 = 0 then ((capnpref07_Landing.f t241).bind fun bt258 => (some (bt244.1, bt258.1, bt258.2, 0))) else (some (0, 0, 0, 3))))) else (some (0, 0, 0, 3))))) else (some (0, 0, 0, 2))))) else (some (0, 0, 0, 2))) = some (r1, r2, r3, r4) := H
      have A9 := Aside0.mk A90
      clear A90
      by_cases c10 : t242 = true
      · subst c10
        have H1 : (if (Int.tmod (IntKind.u64.wrap (Int.tdiv t236 4)) 2) = 0 then ((capnpref07_IsFar.f t241).bind fun t243 => (if t243 = true then (some (0, 0, 0, 3)) else (some (t241, t239, wrap64 (t240 + 1), 0)))) else ((capnpref05_Word.f k l0 t239 (wrap64 (t240 + 1))).bind fun bt244 => (if bt244.2 = true then ((capnpref02_Decode.f k bt244.1).bind fun bt246 => ((capnpref07_IsFar.f t241).bind fun t257 => (if t257 = true then (if (Int.tmod (IntKind.u64.wrap (Int.tdiv t241 4)) 2) = 1 then (some (0, 0, 0, 3)) else (if bt246.1 > 1 then (some (0, 0, 0, 3)) else (if bt246.2.1 = 0 then ((capnpref07_Landing.f t241).bind fun bt258 => (some (bt244.1, bt258.1, bt258.2, 0))) else (some (0, 0, 0, 3))))) else (some (0, 0, 0, 3))))) else (some (0, 0, 0, 2))))) = some (r1, r2, r3, r4) := by rw [if_pos rfl] at H; exact H
        clear H
        have H := H1
        clear H1
        by_cases c11 : (Int.tmod (IntKind.u64.wrap (Int.tdiv t236 4)) 2) = 0
        · rw [if_pos c11] at H
          have c11b0 : ((Int.tmod (IntKind.u64.wrap (Int.tdiv t236 4)) 2) == 0) = true := beq_iff_eq.mpr c11
          have c11b1 : ((Int.tmod (IntKind.u64.wrap (Int.tdiv t236 4)) 2) != 0) = false := bne_eq_false_iff_eq.mpr c11
          clear c11
          replace H := Option.bind_eq_some_iff.mp H
          obtain ⟨t243, A120, H⟩ := H
          replace H : (if t243 = true then (some (0, 0, 0, 3)) else (some (t241, t239, wrap64 (t240 + 1), 0))) = some (r1, r2, r3, r4) := H
          have A12 := Aside0.mk A120
          clear A120
          by_cases c13 : t243 = true
          · subst c13
            have H1 : (some (0, 0, 0, 3)) = some (r1, r2, r3, r4) := by rw [if_pos rfl] at H; exact H
            clear H
            have H := H1
            clear H1
            simp only [Option.some.injEq, Prod.mk.injEq] at H
            obtain ⟨rfl, rfl, rfl, rfl⟩ := H
            go_enter Tryd.func15, Tryd.ntmps15
            go_wp2_with (first | ((with_reducible refine gate_callee (f := 36) rfl ?_); refine goesL_ (some 25) rfl rfl Tryd.func36 (by kernel_rfl) rfl #[.slice A0 l0.length c0, .int .i64 a1, .int .i64 a2] rfl (by (try simp only [List.map_toArray, List.map_cons, List.map_nil]); first | done | rfl | (simp only [List.length_drop, List.length_take]; rfl)) ?_; (with_reducible refine (capnpref05_Word.calls k _ _ l0 a1 a2 t236 true _ ?side1 ?side2 A4.out).mono ?_); (case side1 => repeat (first | exact HR0.out | (with_reducible refine Kd.C_alloc ?_ _) | (with_reducible refine Kd.C_drewN ?_ _) | (with_reducible refine Kd.C_drew ?_))); (case side2 => exact HC0.out); rintro e w' ⟨rfl, ⟨nd, rfl⟩⟩; refine ⟨_, rfl, ?_⟩) | ((with_reducible refine gate_callee (f := 17) rfl ?_); refine goesL_ (some 31) rfl rfl Tryd.func17 (by kernel_rfl) rfl #[.int .u64 t236] rfl (by (try simp only [List.map_toArray, List.map_cons, List.map_nil]); first | done | rfl | (simp only [List.length_drop, List.length_take]; rfl)) ?_; (with_reducible refine (capnpref07_IsFar.calls t236 true _ A6.out).mono ?_); rintro e w' ⟨rfl, ⟨nd, rfl⟩⟩; refine ⟨_, rfl, ?_⟩) | ((with_reducible refine gate_callee (f := 19) rfl ?_); refine goesL_ (some 39) rfl rfl Tryd.func19 (by kernel_rfl) rfl #[.int .u64 t236] rfl (by (try simp only [List.map_toArray, List.map_cons, List.map_nil]); first | done | rfl | (simp only [List.length_drop, List.length_take]; rfl)) ?_; (with_reducible refine (capnpref07_Landing.calls t236 t239 t240 _ A8.out).mono ?_); rintro e w' ⟨rfl, ⟨nd, rfl⟩⟩; refine ⟨_, rfl, ?_⟩) | ((with_reducible refine gate_callee (f := 36) rfl ?_); refine goesL_ (some 46) rfl rfl Tryd.func36 (by kernel_rfl) rfl #[.slice A0 l0.length c0, .int .i64 t239, .int .i64 t240] rfl (by (try simp only [List.map_toArray, List.map_cons, List.map_nil]); first | done | rfl | (simp only [List.length_drop, List.length_take]; rfl)) ?_; (with_reducible refine (capnpref05_Word.calls k _ _ l0 t239 t240 t241 true _ ?side1 ?side2 A9.out).mono ?_); (case side1 => repeat (first | exact HR0.out | (with_reducible refine Kd.C_alloc ?_ _) | (with_reducible refine Kd.C_drewN ?_ _) | (with_reducible refine Kd.C_drew ?_))); (case side2 => exact HC0.out); rintro e w' ⟨rfl, ⟨nd, rfl⟩⟩; refine ⟨_, rfl, ?_⟩) | ((with_reducible refine gate_callee (f := 17) rfl ?_); refine goesL_ (some 56) rfl rfl Tryd.func17 (by kernel_rfl) rfl #[.int .u64 t241] rfl (by (try simp only [List.map_toArray, List.map_cons, List.map_nil]); first | done | rfl | (simp only [List.length_drop, List.length_take]; rfl)) ?_; (with_reducible refine (capnpref07_IsFar.calls t241 true _ A12.out).mono ?_); rintro e w' ⟨rfl, ⟨nd, rfl⟩⟩; refine ⟨_, rfl, ?_⟩))
            refine bodyPost_ret (results_list (rs := [.tmp 6, .tmp 7, .tmp 8, .tmp 9]) rfl (by simp) (.tmp (.tmp (.tmp (.tmp .nil))))) rfl ?_
            exact ⟨by first | rfl | (simp [errW_none, errW_some] <;> rfl) | (simp [*, errW_none, errW_some] <;> rfl), by repeat (first | (with_reducible first | exact HB.out | apply below_alloc | apply pw_below_drewN | apply below_drew1) | exact HB.out)⟩
          · replace c13 := Bool.eq_false_iff.mpr c13
            subst c13
            have H1 : (some (t241, t239, wrap64 (t240 + 1), 0)) = some (r1, r2, r3, r4) := by rw [if_neg (show ¬ (false = true) by decide)] at H; exact H
            clear H
            have H := H1
            clear H1
            simp only [Option.some.injEq, Prod.mk.injEq] at H
            obtain ⟨rfl, rfl, rfl, rfl⟩ := H
            go_enter Tryd.func15, Tryd.ntmps15
            go_wp2_with (first | ((with_reducible refine gate_callee (f := 36) rfl ?_); refine goesL_ (some 25) rfl rfl Tryd.func36 (by kernel_rfl) rfl #[.slice A0 l0.length c0, .int .i64 a1, .int .i64 a2] rfl (by (try simp only [List.map_toArray, List.map_cons, List.map_nil]); first | done | rfl | (simp only [List.length_drop, List.length_take]; rfl)) ?_; (with_reducible refine (capnpref05_Word.calls k _ _ l0 a1 a2 t236 true _ ?side1 ?side2 A4.out).mono ?_); (case side1 => repeat (first | exact HR0.out | (with_reducible refine Kd.C_alloc ?_ _) | (with_reducible refine Kd.C_drewN ?_ _) | (with_reducible refine Kd.C_drew ?_))); (case side2 => exact HC0.out); rintro e w' ⟨rfl, ⟨nd, rfl⟩⟩; refine ⟨_, rfl, ?_⟩) | ((with_reducible refine gate_callee (f := 17) rfl ?_); refine goesL_ (some 31) rfl rfl Tryd.func17 (by kernel_rfl) rfl #[.int .u64 t236] rfl (by (try simp only [List.map_toArray, List.map_cons, List.map_nil]); first | done | rfl | (simp only [List.length_drop, List.length_take]; rfl)) ?_; (with_reducible refine (capnpref07_IsFar.calls t236 true _ A6.out).mono ?_); rintro e w' ⟨rfl, ⟨nd, rfl⟩⟩; refine ⟨_, rfl, ?_⟩) | ((with_reducible refine gate_callee (f := 19) rfl ?_); refine goesL_ (some 39) rfl rfl Tryd.func19 (by kernel_rfl) rfl #[.int .u64 t236] rfl (by (try simp only [List.map_toArray, List.map_cons, List.map_nil]); first | done | rfl | (simp only [List.length_drop, List.length_take]; rfl)) ?_; (with_reducible refine (capnpref07_Landing.calls t236 t239 t240 _ A8.out).mono ?_); rintro e w' ⟨rfl, ⟨nd, rfl⟩⟩; refine ⟨_, rfl, ?_⟩) | ((with_reducible refine gate_callee (f := 36) rfl ?_); refine goesL_ (some 46) rfl rfl Tryd.func36 (by kernel_rfl) rfl #[.slice A0 l0.length c0, .int .i64 t239, .int .i64 t240] rfl (by (try simp only [List.map_toArray, List.map_cons, List.map_nil]); first | done | rfl | (simp only [List.length_drop, List.length_take]; rfl)) ?_; (with_reducible refine (capnpref05_Word.calls k _ _ l0 t239 t240 t241 true _ ?side1 ?side2 A9.out).mono ?_); (case side1 => repeat (first | exact HR0.out | (with_reducible refine Kd.C_alloc ?_ _) | (with_reducible refine Kd.C_drewN ?_ _) | (with_reducible refine Kd.C_drew ?_))); (case side2 => exact HC0.out); rintro e w' ⟨rfl, ⟨nd, rfl⟩⟩; refine ⟨_, rfl, ?_⟩) | ((with_reducible refine gate_callee (f := 17) rfl ?_); refine goesL_ (some 56) rfl rfl Tryd.func17 (by kernel_rfl) rfl #[.int .u64 t241] rfl (by (try simp only [List.map_toArray, List.map_cons, List.map_nil]); first | done | rfl | (simp only [List.length_drop, List.length_take]; rfl)) ?_; (with_reducible refine (capnpref07_IsFar.calls t241 false _ A12.out).mono ?_); rintro e w' ⟨rfl, ⟨nd, rfl⟩⟩; refine ⟨_, rfl, ?_⟩))
            refine bodyPost_ret (results_list (rs := [.tmp 6, .tmp 7, .tmp 8, .tmp 9]) rfl (by simp) (.tmp (.tmp (.tmp (.tmp .nil))))) rfl ?_
            exact ⟨by first | rfl | (simp [errW_none, errW_some] <;> rfl) | (simp [*, errW_none, errW_some] <;> rfl), by repeat (first | (with_reducible first | exact HB.out | apply below_alloc | apply pw_below_drewN | apply below_drew1) | exact HB.out)⟩
        · rw [if_neg c11] at H
          have c11b0 : ((Int.tmod (IntKind.u64.wrap (Int.tdiv t236 4)) 2) == 0) = false := beq_eq_false_iff_ne.mpr c11
          have c11b1 : ((Int.tmod (IntKind.u64.wrap (Int.tdiv t236 4)) 2) != 0) = true := bne_iff_ne.mpr c11
          replace H := Option.bind_eq_some_iff.mp H
          obtain ⟨⟨t244, t245⟩, A140, H⟩ := H
          replace H : (if t245 = true then ((capnpref02_Decode.f k t244).bind fun bt246 => ((capnpref07_IsFar.f t241).bind fun t257 => (if t257 = true then (if (Int.tmod (IntKind.u64.wrap (Int.tdiv t241 4)) 2) = 1 then (some (0, 0, 0, 3)) else (if bt246.1 > 1 then (some (0, 0, 0, 3)) else (if bt246.2.1 = 0 then ((capnpref07_Landing.f t241).bind fun bt258 => (some (t244, bt258.1, bt258.2, 0))) else (some (0, 0, 0, 3))))) else (some (0, 0, 0, 3))))) else (some (0, 0, 0, 2))) = some (r1, r2, r3, r4) := H
          have A14 := Aside0.mk A140
          clear A140
          by_cases c15 : t245 = true
          · subst c15
            have H1 : ((capnpref02_Decode.f k t244).bind fun bt246 => ((capnpref07_IsFar.f t241).bind fun t257 => (if t257 = true then (if (Int.tmod (IntKind.u64.wrap (Int.tdiv t241 4)) 2) = 1 then (some (0, 0, 0, 3)) else (if bt246.1 > 1 then (some (0, 0, 0, 3)) else (if bt246.2.1 = 0 then ((capnpref07_Landing.f t241).bind fun bt258 => (some (t244, bt258.1, bt258.2, 0))) else (some (0, 0, 0, 3))))) else (some (0, 0, 0, 3))))) = some (r1, r2, r3, r4) := by rw [if_pos rfl] at H; exact H
            clear H
            have H := H1
            clear H1
            replace H := Option.bind_eq_some_iff.mp H
            obtain ⟨⟨t246, t247, t248, t249, t250, t251, t252, t253, t254, t255⟩, A160, H⟩ := H
            replace H : ((capnpref07_IsFar.f t241).bind fun t257 => (if t257 = true then (if (Int.tmod (IntKind.u64.wrap (Int.tdiv t241 4)) 2) = 1 then (some (0, 0, 0, 3)) else (if t246 > 1 then (some (0, 0, 0, 3)) else (if t247 = 0 then ((capnpref07_Landing.f t241).bind fun bt258 => (some (t244, bt258.1, bt258.2, 0))) else (some (0, 0, 0, 3))))) else (some (0, 0, 0, 3)))) = some (r1, r2, r3, r4) := H
            have A16 := Aside0.mk A160
            clear A160
            replace H := Option.bind_eq_some_iff.mp H
            obtain ⟨t257, A170, H⟩ := H
            replace H : (if t257 = true then (if (Int.tmod (IntKind.u64.wrap (Int.tdiv t241 4)) 2) = 1 then (some (0, 0, 0, 3)) else (if t246 > 1 then (some (0, 0, 0, 3)) else (if t247 = 0 then ((capnpref07_Landing.f t241).bind fun bt258 => (some (t244, bt258.1, bt258.2, 0))) else (some (0, 0, 0, 3))))) else (some (0, 0, 0, 3))) = some (r1, r2, r3, r4) := H
            have A17 := Aside0.mk A170
            clear A170
            by_cases c18 : t257 = true
            · subst c18
              have H1 : (if (Int.tmod (IntKind.u64.wrap (Int.tdiv t241 4)) 2) = 1 then (some (0, 0, 0, 3)) else (if t246 > 1 then (some (0, 0, 0, 3)) else (if t247 = 0 then ((capnpref07_Landing.f t241).bind fun bt258 => (some (t244, bt258.1, bt258.2, 0))) else (some (0, 0, 0, 3))))) = some (r1, r2, r3, r4) := by rw [if_pos rfl] at H; exact H
              clear H
              have H := H1
              clear H1
              by_cases c19 : (Int.tmod (IntKind.u64.wrap (Int.tdiv t241 4)) 2) = 1
              · rw [if_pos c19] at H
                have c19b0 : ((Int.tmod (IntKind.u64.wrap (Int.tdiv t241 4)) 2) == 1) = true := beq_iff_eq.mpr c19
                have c19b1 : ((Int.tmod (IntKind.u64.wrap (Int.tdiv t241 4)) 2) != 1) = false := bne_eq_false_iff_eq.mpr c19
                clear c19
                simp only [Option.some.injEq, Prod.mk.injEq] at H
                obtain ⟨rfl, rfl, rfl, rfl⟩ := H
                go_enter Tryd.func15, Tryd.ntmps15
                go_wp2_with (first | ((with_reducible refine gate_callee (f := 36) rfl ?_); refine goesL_ (some 25) rfl rfl Tryd.func36 (by kernel_rfl) rfl #[.slice A0 l0.length c0, .int .i64 a1, .int .i64 a2] rfl (by (try simp only [List.map_toArray, List.map_cons, List.map_nil]); first | done | rfl | (simp only [List.length_drop, List.length_take]; rfl)) ?_; (with_reducible refine (capnpref05_Word.calls k _ _ l0 a1 a2 t236 true _ ?side1 ?side2 A4.out).mono ?_); (case side1 => repeat (first | exact HR0.out | (with_reducible refine Kd.C_alloc ?_ _) | (with_reducible refine Kd.C_drewN ?_ _) | (with_reducible refine Kd.C_drew ?_))); (case side2 => exact HC0.out); rintro e w' ⟨rfl, ⟨nd, rfl⟩⟩; refine ⟨_, rfl, ?_⟩) | ((with_reducible refine gate_callee (f := 17) rfl ?_); refine goesL_ (some 31) rfl rfl Tryd.func17 (by kernel_rfl) rfl #[.int .u64 t236] rfl (by (try simp only [List.map_toArray, List.map_cons, List.map_nil]); first | done | rfl | (simp only [List.length_drop, List.length_take]; rfl)) ?_; (with_reducible refine (capnpref07_IsFar.calls t236 true _ A6.out).mono ?_); rintro e w' ⟨rfl, ⟨nd, rfl⟩⟩; refine ⟨_, rfl, ?_⟩) | ((with_reducible refine gate_callee (f := 19) rfl ?_); refine goesL_ (some 39) rfl rfl Tryd.func19 (by kernel_rfl) rfl #[.int .u64 t236] rfl (by (try simp only [List.map_toArray, List.map_cons, List.map_nil]); first | done | rfl | (simp only [List.length_drop, List.length_take]; rfl)) ?_; (with_reducible refine (capnpref07_Landing.calls t236 t239 t240 _ A8.out).mono ?_); rintro e w' ⟨rfl, ⟨nd, rfl⟩⟩; refine ⟨_, rfl, ?_⟩) | ((with_reducible refine gate_callee (f := 36) rfl ?_); refine goesL_ (some 46) rfl rfl Tryd.func36 (by kernel_rfl) rfl #[.slice A0 l0.length c0, .int .i64 t239, .int .i64 t240] rfl (by (try simp only [List.map_toArray, List.map_cons, List.map_nil]); first | done | rfl | (simp only [List.length_drop, List.length_take]; rfl)) ?_; (with_reducible refine (capnpref05_Word.calls k _ _ l0 t239 t240 t241 true _ ?side1 ?side2 A9.out).mono ?_); (case side1 => repeat (first | exact HR0.out | (with_reducible refine Kd.C_alloc ?_ _) | (with_reducible refine Kd.C_drewN ?_ _) | (with_reducible refine Kd.C_drew ?_))); (case side2 => exact HC0.out); rintro e w' ⟨rfl, ⟨nd, rfl⟩⟩; refine ⟨_, rfl, ?_⟩) | ((with_reducible refine gate_callee (f := 36) rfl ?_); refine goesL_ (some 66) rfl rfl Tryd.func36 (by kernel_rfl) rfl #[.slice A0 l0.length c0, .int .i64 t239, .int .i64 (wrap64 (t240 + 1))] rfl (by (try simp only [List.map_toArray, List.map_cons, List.map_nil]); first | done | rfl | (simp only [List.length_drop, List.length_take]; rfl)) ?_; (with_reducible refine (capnpref05_Word.calls k _ _ l0 t239 (wrap64 (t240 + 1)) t244 true _ ?side1 ?side2 A14.out).mono ?_); (case side1 => repeat (first | exact HR0.out | (with_reducible refine Kd.C_alloc ?_ _) | (with_reducible refine Kd.C_drewN ?_ _) | (with_reducible refine Kd.C_drew ?_))); (case side2 => exact HC0.out); rintro e w' ⟨rfl, ⟨nd, rfl⟩⟩; refine ⟨_, rfl, ?_⟩) | ((with_reducible refine gate_callee (f := 21) rfl ?_); refine goesL_ (some 72) rfl rfl Tryd.func21 (by kernel_rfl) rfl #[.int .u64 t244] rfl (by (try simp only [List.map_toArray, List.map_cons, List.map_nil]); first | done | rfl | (simp only [List.length_drop, List.length_take]; rfl)) ?_; (with_reducible refine (capnpref02_Decode.calls k t244 t246 t247 t248 t249 t250 t251 t252 t253 t254 t255 _ A16.out).mono ?_); rintro e w20 ⟨rfl, hb⟩; refine ⟨_, rfl, ?_⟩; have n0_ := Aside0.mk (below_step (by repeat (first | (with_reducible first | exact HB.out | apply below_alloc | apply pw_below_drewN | apply below_drew1) | exact HB.out)) hb); clear HB; have HB := n0_; clear n0_; (try clear hb); (try clear hb2); (try clear hk); (try clear hi)) | ((with_reducible refine gate_dst (N := 18) rfl ?_); refine box_event ?hg (N := 18) ?hd (cs := #[.int .i64 0, .int .i64 0, .int .i64 0, .int .i64 0, .int .i64 0, .int .i64 0, .bool false, .int .i64 0, .int .u32 0, .int .u32 0]) (t := 39) ?hr ?_; (case hd => rfl); (case hg => rfl); (case hr => first | (go_simp; done) | (go_simp; rfl)); intro gb256 hg w21 hbox hb; have n0_ := Aside0.mk (below_step (by repeat (first | (with_reducible first | exact HB.out | apply below_alloc | apply pw_below_drewN | apply below_drew1) | exact HB.out)) hb); have n1_ := Aside0.mk (hbox); have n2_ := Aside0.mk ((by rw [hg]; exact (below_size (by repeat (first | (with_reducible first | exact HB.out | apply below_alloc | apply pw_below_drewN | apply below_drew1) | exact HB.out))) : w.heap.size ≤ gb256)); have n3_ := Aside0.mk ((by rw [hg]; exact (below_size (by repeat (first | (with_reducible first | exact HB.out | apply below_alloc | apply pw_below_drewN | apply below_drew1) | exact HB.out))) : w.heap.size ≤ gb256)); clear HB; have HB := n0_; have BK256 := n1_; have GW256 := n2_; have GE256 := n3_; clear n0_ n1_ n2_ n3_; clear hb hbox hg; have hcz22_0 : w21.cell? ⟨gb256, 0, none⟩ = some (.int .i64 0) := (blk_cell BK256.out 0).trans rfl; have hcz22_1 : w21.cell? ⟨gb256, 1, none⟩ = some (.int .i64 0) := (blk_cell BK256.out 1).trans rfl; have hcz22_2 : w21.cell? ⟨gb256, 2, none⟩ = some (.int .i64 0) := (blk_cell BK256.out 2).trans rfl; have hcz22_3 : w21.cell? ⟨gb256, 3, none⟩ = some (.int .i64 0) := (blk_cell BK256.out 3).trans rfl; have hcz22_4 : w21.cell? ⟨gb256, 4, none⟩ = some (.int .i64 0) := (blk_cell BK256.out 4).trans rfl; have hcz22_5 : w21.cell? ⟨gb256, 5, none⟩ = some (.int .i64 0) := (blk_cell BK256.out 5).trans rfl; have hcz22_6 : w21.cell? ⟨gb256, 6, none⟩ = some (.bool false) := (blk_cell BK256.out 6).trans rfl; have hcz22_7 : w21.cell? ⟨gb256, 7, none⟩ = some (.int .i64 0) := (blk_cell BK256.out 7).trans rfl; have hcz22_8 : w21.cell? ⟨gb256, 8, none⟩ = some (.int .u32 0) := (blk_cell BK256.out 8).trans rfl; have hcz22_9 : w21.cell? ⟨gb256, 9, none⟩ = some (.int .u32 0) := (blk_cell BK256.out 9).trans rfl; have hfz22_0 := blk_frozen BK256.out 0; have hfz22_1 := blk_frozen BK256.out 1; have hfz22_2 := blk_frozen BK256.out 2; have hfz22_3 := blk_frozen BK256.out 3; have hfz22_4 := blk_frozen BK256.out 4; have hfz22_5 := blk_frozen BK256.out 5; have hfz22_6 := blk_frozen BK256.out 6; have hfz22_7 := blk_frozen BK256.out 7; have hfz22_8 := blk_frozen BK256.out 8; have hfz22_9 := blk_frozen BK256.out 9) | ((with_reducible refine gate_callee (f := 17) rfl ?_); refine goesL_ (some 74) rfl rfl Tryd.func17 (by kernel_rfl) rfl #[.int .u64 t241] rfl (by (try simp only [List.map_toArray, List.map_cons, List.map_nil]); first | done | rfl | (simp only [List.length_drop, List.length_take]; rfl)) ?_; (with_reducible refine (capnpref07_IsFar.calls t241 true _ A17.out).mono ?_); rintro e w' ⟨rfl, ⟨nd, rfl⟩⟩; refine ⟨_, rfl, ?_⟩))
                refine bodyPost_ret (results_list (rs := [.tmp 6, .tmp 7, .tmp 8, .tmp 9]) rfl (by simp) (.tmp (.tmp (.tmp (.tmp .nil))))) rfl ?_
                exact ⟨by first | rfl | (simp [errW_none, errW_some] <;> rfl) | (simp [*, errW_none, errW_some] <;> rfl), by repeat (first | (with_reducible first | exact HB.out | apply below_alloc | apply pw_below_drewN | apply below_drew1 | refine below_set ?_ GE256.out) | exact HB.out)⟩
              · rw [if_neg c19] at H
                have c19b0 : ((Int.tmod (IntKind.u64.wrap (Int.tdiv t241 4)) 2) == 1) = false := beq_eq_false_iff_ne.mpr c19
                have c19b1 : ((Int.tmod (IntKind.u64.wrap (Int.tdiv t241 4)) 2) != 1) = true := bne_iff_ne.mpr c19
                by_cases c23 : t246 > 1
                · rw [if_pos c23] at H
                  have c23b0 : decide (1 < t246) = true := decide_eq_true c23
                  clear c23
                  simp only [Option.some.injEq, Prod.mk.injEq] at H
                  obtain ⟨rfl, rfl, rfl, rfl⟩ := H
                  go_enter Tryd.func15, Tryd.ntmps15
                  go_wp2_with (first | ((with_reducible refine gate_callee (f := 36) rfl ?_); refine goesL_ (some 25) rfl rfl Tryd.func36 (by kernel_rfl) rfl #[.slice A0 l0.length c0, .int .i64 a1, .int .i64 a2] rfl (by (try simp only [List.map_toArray, List.map_cons, List.map_nil]); first | done | rfl | (simp only [List.length_drop, List.length_take]; rfl)) ?_; (with_reducible refine (capnpref05_Word.calls k _ _ l0 a1 a2 t236 true _ ?side1 ?side2 A4.out).mono ?_); (case side1 => repeat (first | exact HR0.out | (with_reducible refine Kd.C_alloc ?_ _) | (with_reducible refine Kd.C_drewN ?_ _) | (with_reducible refine Kd.C_drew ?_))); (case side2 => exact HC0.out); rintro e w' ⟨rfl, ⟨nd, rfl⟩⟩; refine ⟨_, rfl, ?_⟩) | ((with_reducible refine gate_callee (f := 17) rfl ?_); refine goesL_ (some 31) rfl rfl Tryd.func17 (by kernel_rfl) rfl #[.int .u64 t236] rfl (by (try simp only [List.map_toArray, List.map_cons, List.map_nil]); first | done | rfl | (simp only [List.length_drop, List.length_take]; rfl)) ?_; (with_reducible refine (capnpref07_IsFar.calls t236 true _ A6.out).mono ?_); rintro e w' ⟨rfl, ⟨nd, rfl⟩⟩; refine ⟨_, rfl, ?_⟩) | ((with_reducible refine gate_callee (f := 19) rfl ?_); refine goesL_ (some 39) rfl rfl Tryd.func19 (by kernel_rfl) rfl #[.int .u64 t236] rfl (by (try simp only [List.map_toArray, List.map_cons, List.map_nil]); first | done | rfl | (simp only [List.length_drop, List.length_take]; rfl)) ?_; (with_reducible refine (capnpref07_Landing.calls t236 t239 t240 _ A8.out).mono ?_); rintro e w' ⟨rfl, ⟨nd, rfl⟩⟩; refine ⟨_, rfl, ?_⟩) | ((with_reducible refine gate_callee (f := 36) rfl ?_); refine goesL_ (some 46) rfl rfl Tryd.func36 (by kernel_rfl) rfl #[.slice A0 l0.length c0, .int .i64 t239, .int .i64 t240] rfl (by (try simp only [List.map_toArray, List.map_cons, List.map_nil]); first | done | rfl | (simp only [List.length_drop, List.length_take]; rfl)) ?_; (with_reducible refine (capnpref05_Word.calls k _ _ l0 t239 t240 t241 true _ ?side1 ?side2 A9.out).mono ?_); (case side1 => repeat (first | exact HR0.out | (with_reducible refine Kd.C_alloc ?_ _) | (with_reducible refine Kd.C_drewN ?_ _) | (with_reducible refine Kd.C_drew ?_))); (case side2 => exact HC0.out); rintro e w' ⟨rfl, ⟨nd, rfl⟩⟩; refine ⟨_, rfl, ?_⟩) | ((with_reducible refine gate_callee (f := 36) rfl ?_); refine goesL_ (some 66) rfl rfl Tryd.func36 (by kernel_rfl) rfl #[.slice A0 l0.length c0, .int .i64 t239, .int .i64 (wrap64 (t240 + 1))] rfl (by (try simp only [List.map_toArray, List.map_cons, List.map_nil]); first | done | rfl | (simp only [List.length_drop, List.length_take]; rfl)) ?_; (with_reducible refine (capnpref05_Word.calls k _ _ l0 t239 (wrap64 (t240 + 1)) t244 true _ ?side1 ?side2 A14.out).mono ?_); (case side1 => repeat (first | exact HR0.out | (with_reducible refine Kd.C_alloc ?_ _) | (with_reducible refine Kd.C_drewN ?_ _) | (with_reducible refine Kd.C_drew ?_))); (case side2 => exact HC0.out); rintro e w' ⟨rfl, ⟨nd, rfl⟩⟩; refine ⟨_, rfl, ?_⟩) | ((with_reducible refine gate_callee (f := 21) rfl ?_); refine goesL_ (some 72) rfl rfl Tryd.func21 (by kernel_rfl) rfl #[.int .u64 t244] rfl (by (try simp only [List.map_toArray, List.map_cons, List.map_nil]); first | done | rfl | (simp only [List.length_drop, List.length_take]; rfl)) ?_; (with_reducible refine (capnpref02_Decode.calls k t244 t246 t247 t248 t249 t250 t251 t252 t253 t254 t255 _ A16.out).mono ?_); rintro e w24 ⟨rfl, hb⟩; refine ⟨_, rfl, ?_⟩; have n0_ := Aside0.mk (below_step (by repeat (first | (with_reducible first | exact HB.out | apply below_alloc | apply pw_below_drewN | apply below_drew1) | exact HB.out)) hb); clear HB; have HB := n0_; clear n0_; (try clear hb); (try clear hb2); (try clear hk); (try clear hi)) | ((with_reducible refine gate_dst (N := 18) rfl ?_); refine box_event ?hg (N := 18) ?hd (cs := #[.int .i64 0, .int .i64 0, .int .i64 0, .int .i64 0, .int .i64 0, .int .i64 0, .bool false, .int .i64 0, .int .u32 0, .int .u32 0]) (t := 39) ?hr ?_; (case hd => rfl); (case hg => rfl); (case hr => first | (go_simp; done) | (go_simp; rfl)); intro gb256 hg w25 hbox hb; have n0_ := Aside0.mk (below_step (by repeat (first | (with_reducible first | exact HB.out | apply below_alloc | apply pw_below_drewN | apply below_drew1) | exact HB.out)) hb); have n1_ := Aside0.mk (hbox); have n2_ := Aside0.mk ((by rw [hg]; exact (below_size (by repeat (first | (with_reducible first | exact HB.out | apply below_alloc | apply pw_below_drewN | apply below_drew1) | exact HB.out))) : w.heap.size ≤ gb256)); have n3_ := Aside0.mk ((by rw [hg]; exact (below_size (by repeat (first | (with_reducible first | exact HB.out | apply below_alloc | apply pw_below_drewN | apply below_drew1) | exact HB.out))) : w.heap.size ≤ gb256)); clear HB; have HB := n0_; have BK256 := n1_; have GW256 := n2_; have GE256 := n3_; clear n0_ n1_ n2_ n3_; clear hb hbox hg; have hcz26_0 : w25.cell? ⟨gb256, 0, none⟩ = some (.int .i64 0) := (blk_cell BK256.out 0).trans rfl; have hcz26_1 : w25.cell? ⟨gb256, 1, none⟩ = some (.int .i64 0) := (blk_cell BK256.out 1).trans rfl; have hcz26_2 : w25.cell? ⟨gb256, 2, none⟩ = some (.int .i64 0) := (blk_cell BK256.out 2).trans rfl; have hcz26_3 : w25.cell? ⟨gb256, 3, none⟩ = some (.int .i64 0) := (blk_cell BK256.out 3).trans rfl; have hcz26_4 : w25.cell? ⟨gb256, 4, none⟩ = some (.int .i64 0) := (blk_cell BK256.out 4).trans rfl; have hcz26_5 : w25.cell? ⟨gb256, 5, none⟩ = some (.int .i64 0) := (blk_cell BK256.out 5).trans rfl; have hcz26_6 : w25.cell? ⟨gb256, 6, none⟩ = some (.bool false) := (blk_cell BK256.out 6).trans rfl; have hcz26_7 : w25.cell? ⟨gb256, 7, none⟩ = some (.int .i64 0) := (blk_cell BK256.out 7).trans rfl; have hcz26_8 : w25.cell? ⟨gb256, 8, none⟩ = some (.int .u32 0) := (blk_cell BK256.out 8).trans rfl; have hcz26_9 : w25.cell? ⟨gb256, 9, none⟩ = some (.int .u32 0) := (blk_cell BK256.out 9).trans rfl; have hfz26_0 := blk_frozen BK256.out 0; have hfz26_1 := blk_frozen BK256.out 1; have hfz26_2 := blk_frozen BK256.out 2; have hfz26_3 := blk_frozen BK256.out 3; have hfz26_4 := blk_frozen BK256.out 4; have hfz26_5 := blk_frozen BK256.out 5; have hfz26_6 := blk_frozen BK256.out 6; have hfz26_7 := blk_frozen BK256.out 7; have hfz26_8 := blk_frozen BK256.out 8; have hfz26_9 := blk_frozen BK256.out 9) | ((with_reducible refine gate_callee (f := 17) rfl ?_); refine goesL_ (some 74) rfl rfl Tryd.func17 (by kernel_rfl) rfl #[.int .u64 t241] rfl (by (try simp only [List.map_toArray, List.map_cons, List.map_nil]); first | done | rfl | (simp only [List.length_drop, List.length_take]; rfl)) ?_; (with_reducible refine (capnpref07_IsFar.calls t241 true _ A17.out).mono ?_); rintro e w' ⟨rfl, ⟨nd, rfl⟩⟩; refine ⟨_, rfl, ?_⟩))
                  refine bodyPost_ret (results_list (rs := [.tmp 6, .tmp 7, .tmp 8, .tmp 9]) rfl (by simp) (.tmp (.tmp (.tmp (.tmp .nil))))) rfl ?_
                  exact ⟨by first | rfl | (simp [errW_none, errW_some] <;> rfl) | (simp [*, errW_none, errW_some] <;> rfl), by repeat (first | (with_reducible first | exact HB.out | apply below_alloc | apply pw_below_drewN | apply below_drew1 | refine below_set ?_ GE256.out) | exact HB.out)⟩
                · rw [if_neg c23] at H
                  have c23b0 : decide (1 < t246) = false := decide_eq_false c23
                  clear c23
                  by_cases c27 : t247 = 0
                  · rw [if_pos c27] at H
                    have c27b0 : (t247 == 0) = true := beq_iff_eq.mpr c27
                    have c27b1 : (t247 != 0) = false := bne_eq_false_iff_eq.mpr c27
                    clear c27
                    replace H := Option.bind_eq_some_iff.mp H
                    obtain ⟨⟨t258, t259⟩, A280, H⟩ := H
                    replace H : (some (t244, t258, t259, 0)) = some (r1, r2, r3, r4) := H
                    have A28 := Aside0.mk A280
                    clear A280
                    simp only [Option.some.injEq, Prod.mk.injEq] at H
                    obtain ⟨rfl, rfl, rfl, rfl⟩ := H
                    go_enter Tryd.func15, Tryd.ntmps15
                    go_wp2_with (first | ((with_reducible refine gate_callee (f := 36) rfl ?_); refine goesL_ (some 25) rfl rfl Tryd.func36 (by kernel_rfl) rfl #[.slice A0 l0.length c0, .int .i64 a1, .int .i64 a2] rfl (by (try simp only [List.map_toArray, List.map_cons, List.map_nil]); first | done | rfl | (simp only [List.length_drop, List.length_take]; rfl)) ?_; (with_reducible refine (capnpref05_Word.calls k _ _ l0 a1 a2 t236 true _ ?side1 ?side2 A4.out).mono ?_); (case side1 => repeat (first | exact HR0.out | (with_reducible refine Kd.C_alloc ?_ _) | (with_reducible refine Kd.C_drewN ?_ _) | (with_reducible refine Kd.C_drew ?_))); (case side2 => exact HC0.out); rintro e w' ⟨rfl, ⟨nd, rfl⟩⟩; refine ⟨_, rfl, ?_⟩) | ((with_reducible refine gate_callee (f := 17) rfl ?_); refine goesL_ (some 31) rfl rfl Tryd.func17 (by kernel_rfl) rfl #[.int .u64 t236] rfl (by (try simp only [List.map_toArray, List.map_cons, List.map_nil]); first | done | rfl | (simp only [List.length_drop, List.length_take]; rfl)) ?_; (with_reducible refine (capnpref07_IsFar.calls t236 true _ A6.out).mono ?_); rintro e w' ⟨rfl, ⟨nd, rfl⟩⟩; refine ⟨_, rfl, ?_⟩) | ((with_reducible refine gate_callee (f := 19) rfl ?_); refine goesL_ (some 39) rfl rfl Tryd.func19 (by kernel_rfl) rfl #[.int .u64 t236] rfl (by (try simp only [List.map_toArray, List.map_cons, List.map_nil]); first | done | rfl | (simp only [List.length_drop, List.length_take]; rfl)) ?_; (with_reducible refine (capnpref07_Landing.calls t236 t239 t240 _ A8.out).mono ?_); rintro e w' ⟨rfl, ⟨nd, rfl⟩⟩; refine ⟨_, rfl, ?_⟩) | ((with_reducible refine gate_callee (f := 36) rfl ?_); refine goesL_ (some 46) rfl rfl Tryd.func36 (by kernel_rfl) rfl #[.slice A0 l0.length c0, .int .i64 t239, .int .i64 t240] rfl (by (try simp only [List.map_toArray, List.map_cons, List.map_nil]); first | done | rfl | (simp only [List.length_drop, List.length_take]; rfl)) ?_; (with_reducible refine (capnpref05_Word.calls k _ _ l0 t239 t240 t241 true _ ?side1 ?side2 A9.out).mono ?_); (case side1 => repeat (first | exact HR0.out | (with_reducible refine Kd.C_alloc ?_ _) | (with_reducible refine Kd.C_drewN ?_ _) | (with_reducible refine Kd.C_drew ?_))); (case side2 => exact HC0.out); rintro e w' ⟨rfl, ⟨nd, rfl⟩⟩; refine ⟨_, rfl, ?_⟩) | ((with_reducible refine gate_callee (f := 36) rfl ?_); refine goesL_ (some 66) rfl rfl Tryd.func36 (by kernel_rfl) rfl #[.slice A0 l0.length c0, .int .i64 t239, .int .i64 (wrap64 (t240 + 1))] rfl (by (try simp only [List.map_toArray, List.map_cons, List.map_nil]); first | done | rfl | (simp only [List.length_drop, List.length_take]; rfl)) ?_; (with_reducible refine (capnpref05_Word.calls k _ _ l0 t239 (wrap64 (t240 + 1)) t244 true _ ?side1 ?side2 A14.out).mono ?_); (case side1 => repeat (first | exact HR0.out | (with_reducible refine Kd.C_alloc ?_ _) | (with_reducible refine Kd.C_drewN ?_ _) | (with_reducible refine Kd.C_drew ?_))); (case side2 => exact HC0.out); rintro e w' ⟨rfl, ⟨nd, rfl⟩⟩; refine ⟨_, rfl, ?_⟩) | ((with_reducible refine gate_callee (f := 21) rfl ?_); refine goesL_ (some 72) rfl rfl Tryd.func21 (by kernel_rfl) rfl #[.int .u64 t244] rfl (by (try simp only [List.map_toArray, List.map_cons, List.map_nil]); first | done | rfl | (simp only [List.length_drop, List.length_take]; rfl)) ?_; (with_reducible refine (capnpref02_Decode.calls k t244 t246 t247 t248 t249 t250 t251 t252 t253 t254 t255 _ A16.out).mono ?_); rintro e w29 ⟨rfl, hb⟩; refine ⟨_, rfl, ?_⟩; have n0_ := Aside0.mk (below_step (by repeat (first | (with_reducible first | exact HB.out | apply below_alloc | apply pw_below_drewN | apply below_drew1) | exact HB.out)) hb); clear HB; have HB := n0_; clear n0_; (try clear hb); (try clear hb2); (try clear hk); (try clear hi)) | ((with_reducible refine gate_dst (N := 18) rfl ?_); refine box_event ?hg (N := 18) ?hd (cs := #[.int .i64 0, .int .i64 0, .int .i64 0, .int .i64 0, .int .i64 0, .int .i64 0, .bool false, .int .i64 0, .int .u32 0, .int .u32 0]) (t := 39) ?hr ?_; (case hd => rfl); (case hg => rfl); (case hr => first | (go_simp; done) | (go_simp; rfl)); intro gb256 hg w30 hbox hb; have n0_ := Aside0.mk (below_step (by repeat (first | (with_reducible first | exact HB.out | apply below_alloc | apply pw_below_drewN | apply below_drew1) | exact HB.out)) hb); have n1_ := Aside0.mk (hbox); have n2_ := Aside0.mk ((by rw [hg]; exact (below_size (by repeat (first | (with_reducible first | exact HB.out | apply below_alloc | apply pw_below_drewN | apply below_drew1) | exact HB.out))) : w.heap.size ≤ gb256)); have n3_ := Aside0.mk ((by rw [hg]; exact (below_size (by repeat (first | (with_reducible first | exact HB.out | apply below_alloc | apply pw_below_drewN | apply below_drew1) | exact HB.out))) : w.heap.size ≤ gb256)); clear HB; have HB := n0_; have BK256 := n1_; have GW256 := n2_; have GE256 := n3_; clear n0_ n1_ n2_ n3_; clear hb hbox hg; have hcz31_0 : w30.cell? ⟨gb256, 0, none⟩ = some (.int .i64 0) := (blk_cell BK256.out 0).trans rfl; have hcz31_1 : w30.cell? ⟨gb256, 1, none⟩ = some (.int .i64 0) := (blk_cell BK256.out 1).trans rfl; have hcz31_2 : w30.cell? ⟨gb256, 2, none⟩ = some (.int .i64 0) := (blk_cell BK256.out 2).trans rfl; have hcz31_3 : w30.cell? ⟨gb256, 3, none⟩ = some (.int .i64 0) := (blk_cell BK256.out 3).trans rfl; have hcz31_4 : w30.cell? ⟨gb256, 4, none⟩ = some (.int .i64 0) := (blk_cell BK256.out 4).trans rfl; have hcz31_5 : w30.cell? ⟨gb256, 5, none⟩ = some (.int .i64 0) := (blk_cell BK256.out 5).trans rfl; have hcz31_6 : w30.cell? ⟨gb256, 6, none⟩ = some (.bool false) := (blk_cell BK256.out 6).trans rfl; have hcz31_7 : w30.cell? ⟨gb256, 7, none⟩ = some (.int .i64 0) := (blk_cell BK256.out 7).trans rfl; have hcz31_8 : w30.cell? ⟨gb256, 8, none⟩ = some (.int .u32 0) := (blk_cell BK256.out 8).trans rfl; have hcz31_9 : w30.cell? ⟨gb256, 9, none⟩ = some (.int .u32 0) := (blk_cell BK256.out 9).trans rfl; have hfz31_0 := blk_frozen BK256.out 0; have hfz31_1 := blk_frozen BK256.out 1; have hfz31_2 := blk_frozen BK256.out 2; have hfz31_3 := blk_frozen BK256.out 3; have hfz31_4 := blk_frozen BK256.out 4; have hfz31_5 := blk_frozen BK256.out 5; have hfz31_6 := blk_frozen BK256.out 6; have hfz31_7 := blk_frozen BK256.out 7; have hfz31_8 := blk_frozen BK256.out 8; have hfz31_9 := blk_frozen BK256.out 9) | ((with_reducible refine gate_callee (f := 17) rfl ?_); refine goesL_ (some 74) rfl rfl Tryd.func17 (by kernel_rfl) rfl #[.int .u64 t241] rfl (by (try simp only [List.map_toArray, List.map_cons, List.map_nil]); first | done | rfl | (simp only [List.length_drop, List.length_take]; rfl)) ?_; (with_reducible refine (capnpref07_IsFar.calls t241 true _ A17.out).mono ?_); rintro e w' ⟨rfl, ⟨nd, rfl⟩⟩; refine ⟨_, rfl, ?_⟩) | ((with_reducible refine gate_callee (f := 19) rfl ?_); refine goesL_ (some 94) rfl rfl Tryd.func19 (by kernel_rfl) rfl #[.int .u64 t241] rfl (by (try simp only [List.map_toArray, List.map_cons, List.map_nil]); first | done | rfl | (simp only [List.length_drop, List.length_take]; rfl)) ?_; (with_reducible refine (capnpref07_Landing.calls t241 t258 t259 _ A28.out).mono ?_); rintro e w' ⟨rfl, ⟨nd, rfl⟩⟩; refine ⟨_, rfl, ?_⟩))
                    refine bodyPost_ret (results_list (rs := [.tmp 6, .tmp 7, .tmp 8, .tmp 9]) rfl (by simp) (.tmp (.tmp (.tmp (.tmp .nil))))) rfl ?_
                    exact ⟨by first | rfl | (simp [errW_none, errW_some] <;> rfl) | (simp [*, errW_none, errW_some] <;> rfl), by repeat (first | (with_reducible first | exact HB.out | apply below_alloc | apply pw_below_drewN | apply below_drew1 | refine below_set ?_ GE256.out) | exact HB.out)⟩
                  · rw [if_neg c27] at H
                    have c27b0 : (t247 == 0) = false := beq_eq_false_iff_ne.mpr c27
                    have c27b1 : (t247 != 0) = true := bne_iff_ne.mpr c27
                    simp only [Option.some.injEq, Prod.mk.injEq] at H
                    obtain ⟨rfl, rfl, rfl, rfl⟩ := H
                    go_enter Tryd.func15, Tryd.ntmps15
                    go_wp2_with (first | ((with_reducible refine gate_callee (f := 36) rfl ?_); refine goesL_ (some 25) rfl rfl Tryd.func36 (by kernel_rfl) rfl #[.slice A0 l0.length c0, .int .i64 a1, .int .i64 a2] rfl (by (try simp only [List.map_toArray, List.map_cons, List.map_nil]); first | done | rfl | (simp only [List.length_drop, List.length_take]; rfl)) ?_; (with_reducible refine (capnpref05_Word.calls k _ _ l0 a1 a2 t236 true _ ?side1 ?side2 A4.out).mono ?_); (case side1 => repeat (first | exact HR0.out | (with_reducible refine Kd.C_alloc ?_ _) | (with_reducible refine Kd.C_drewN ?_ _) | (with_reducible refine Kd.C_drew ?_))); (case side2 => exact HC0.out); rintro e w' ⟨rfl, ⟨nd, rfl⟩⟩; refine ⟨_, rfl, ?_⟩) | ((with_reducible refine gate_callee (f := 17) rfl ?_); refine goesL_ (some 31) rfl rfl Tryd.func17 (by kernel_rfl) rfl #[.int .u64 t236] rfl (by (try simp only [List.map_toArray, List.map_cons, List.map_nil]); first | done | rfl | (simp only [List.length_drop, List.length_take]; rfl)) ?_; (with_reducible refine (capnpref07_IsFar.calls t236 true _ A6.out).mono ?_); rintro e w' ⟨rfl, ⟨nd, rfl⟩⟩; refine ⟨_, rfl, ?_⟩) | ((with_reducible refine gate_callee (f := 19) rfl ?_); refine goesL_ (some 39) rfl rfl Tryd.func19 (by kernel_rfl) rfl #[.int .u64 t236] rfl (by (try simp only [List.map_toArray, List.map_cons, List.map_nil]); first | done | rfl | (simp only [List.length_drop, List.length_take]; rfl)) ?_; (with_reducible refine (capnpref07_Landing.calls t236 t239 t240 _ A8.out).mono ?_); rintro e w' ⟨rfl, ⟨nd, rfl⟩⟩; refine ⟨_, rfl, ?_⟩) | ((with_reducible refine gate_callee (f := 36) rfl ?_); refine goesL_ (some 46) rfl rfl Tryd.func36 (by kernel_rfl) rfl #[.slice A0 l0.length c0, .int .i64 t239, .int .i64 t240] rfl (by (try simp only [List.map_toArray, List.map_cons, List.map_nil]); first | done | rfl | (simp only [List.length_drop, List.length_take]; rfl)) ?_; (with_reducible refine (capnpref05_Word.calls k _ _ l0 t239 t240 t241 true _ ?side1 ?side2 A9.out).mono ?_); (case side1 => repeat (first | exact HR0.out | (with_reducible refine Kd.C_alloc ?_ _) | (with_reducible refine Kd.C_drewN ?_ _) | (with_reducible refine Kd.C_drew ?_))); (case side2 => exact HC0.out); rintro e w' ⟨rfl, ⟨nd, rfl⟩⟩; refine ⟨_, rfl, ?_⟩) | ((with_reducible refine gate_callee (f := 36) rfl ?_); refine goesL_ (some 66) rfl rfl Tryd.func36 (by kernel_rfl) rfl #[.slice A0 l0.length c0, .int .i64 t239, .int .i64 (wrap64 (t240 + 1))] rfl (by (try simp only [List.map_toArray, List.map_cons, List.map_nil]); first | done | rfl | (simp only [List.length_drop, List.length_take]; rfl)) ?_; (with_reducible refine (capnpref05_Word.calls k _ _ l0 t239 (wrap64 (t240 + 1)) t244 true _ ?side1 ?side2 A14.out).mono ?_); (case side1 => repeat (first | exact HR0.out | (with_reducible refine Kd.C_alloc ?_ _) | (with_reducible refine Kd.C_drewN ?_ _) | (with_reducible refine Kd.C_drew ?_))); (case side2 => exact HC0.out); rintro e w' ⟨rfl, ⟨nd, rfl⟩⟩; refine ⟨_, rfl, ?_⟩) | ((with_reducible refine gate_callee (f := 21) rfl ?_); refine goesL_ (some 72) rfl rfl Tryd.func21 (by kernel_rfl) rfl #[.int .u64 t244] rfl (by (try simp only [List.map_toArray, List.map_cons, List.map_nil]); first | done | rfl | (simp only [List.length_drop, List.length_take]; rfl)) ?_; (with_reducible refine (capnpref02_Decode.calls k t244 t246 t247 t248 t249 t250 t251 t252 t253 t254 t255 _ A16.out).mono ?_); rintro e w32 ⟨rfl, hb⟩; refine ⟨_, rfl, ?_⟩; have n0_ := Aside0.mk (below_step (by repeat (first | (with_reducible first | exact HB.out | apply below_alloc | apply pw_below_drewN | apply below_drew1) | exact HB.out)) hb); clear HB; have HB := n0_; clear n0_; (try clear hb); (try clear hb2); (try clear hk); (try clear hi)) | ((with_reducible refine gate_dst (N := 18) rfl ?_); refine box_event ?hg (N := 18) ?hd (cs := #[.int .i64 0, .int .i64 0, .int .i64 0, .int .i64 0, .int .i64 0, .int .i64 0, .bool false, .int .i64 0, .int .u32 0, .int .u32 0]) (t := 39) ?hr ?_; (case hd => rfl); (case hg => rfl); (case hr => first | (go_simp; done) | (go_simp; rfl)); intro gb256 hg w33 hbox hb; have n0_ := Aside0.mk (below_step (by repeat (first | (with_reducible first | exact HB.out | apply below_alloc | apply pw_below_drewN | apply below_drew1) | exact HB.out)) hb); have n1_ := Aside0.mk (hbox); have n2_ := Aside0.mk ((by rw [hg]; exact (below_size (by repeat (first | (with_reducible first | exact HB.out | apply below_alloc | apply pw_below_drewN | apply below_drew1) | exact HB.out))) : w.heap.size ≤ gb256)); have n3_ := Aside0.mk ((by rw [hg]; exact (below_size (by repeat (first | (with_reducible first | exact HB.out | apply below_alloc | apply pw_below_drewN | apply below_drew1) | exact HB.out))) : w.heap.size ≤ gb256)); clear HB; have HB := n0_; have BK256 := n1_; have GW256 := n2_; have GE256 := n3_; clear n0_ n1_ n2_ n3_; clear hb hbox hg; have hcz34_0 : w33.cell? ⟨gb256, 0, none⟩ = some (.int .i64 0) := (blk_cell BK256.out 0).trans rfl; have hcz34_1 : w33.cell? ⟨gb256, 1, none⟩ = some (.int .i64 0) := (blk_cell BK256.out 1).trans rfl; have hcz34_2 : w33.cell? ⟨gb256, 2, none⟩ = some (.int .i64 0) := (blk_cell BK256.out 2).trans rfl; have hcz34_3 : w33.cell? ⟨gb256, 3, none⟩ = some (.int .i64 0) := (blk_cell BK256.out 3).trans rfl; have hcz34_4 : w33.cell? ⟨gb256, 4, none⟩ = some (.int .i64 0) := (blk_cell BK256.out 4).trans rfl; have hcz34_5 : w33.cell? ⟨gb256, 5, none⟩ = some (.int .i64 0) := (blk_cell BK256.out 5).trans rfl; have hcz34_6 : w33.cell? ⟨gb256, 6, none⟩ = some (.bool false) := (blk_cell BK256.out 6).trans rfl; have hcz34_7 : w33.cell? ⟨gb256, 7, none⟩ = some (.int .i64 0) := (blk_cell BK256.out 7).trans rfl; have hcz34_8 : w33.cell? ⟨gb256, 8, none⟩ = some (.int .u32 0) := (blk_cell BK256.out 8).trans rfl; have hcz34_9 : w33.cell? ⟨gb256, 9, none⟩ = some (.int .u32 0) := (blk_cell BK256.out 9).trans rfl; have hfz34_0 := blk_frozen BK256.out 0; have hfz34_1 := blk_frozen BK256.out 1; have hfz34_2 := blk_frozen BK256.out 2; have hfz34_3 := blk_frozen BK256.out 3; have hfz34_4 := blk_frozen BK256.out 4; have hfz34_5 := blk_frozen BK256.out 5; have hfz34_6 := blk_frozen BK256.out 6; have hfz34_7 := blk_frozen BK256.out 7; have hfz34_8 := blk_frozen BK256.out 8; have hfz34_9 := blk_frozen BK256.out 9) | ((with_reducible refine gate_callee (f := 17) rfl ?_); refine goesL_ (some 74) rfl rfl Tryd.func17 (by kernel_rfl) rfl #[.int .u64 t241] rfl (by (try simp only [List.map_toArray, List.map_cons, List.map_nil]); first | done | rfl | (simp only [List.length_drop, List.length_take]; rfl)) ?_; (with_reducible refine (capnpref07_IsFar.calls t241 true _ A17.out).mono ?_); rintro e w' ⟨rfl, ⟨nd, rfl⟩⟩; refine ⟨_, rfl, ?_⟩))
                    refine bodyPost_ret (results_list (rs := [.tmp 6, .tmp 7, .tmp 8, .tmp 9]) rfl (by simp) (.tmp (.tmp (.tmp (.tmp .nil))))) rfl ?_
                    exact ⟨by first | rfl | (simp [errW_none, errW_some] <;> rfl) | (simp [*, errW_none, errW_some] <;> rfl), by repeat (first | (with_reducible first | exact HB.out | apply below_alloc | apply pw_below_drewN | apply below_drew1 | refine below_set ?_ GE256.out) | exact HB.out)⟩
            · replace c18 := Bool.eq_false_iff.mpr c18
              subst c18
              have H1 : (some (0, 0, 0, 3)) = some (r1, r2, r3, r4) := by rw [if_neg (show ¬ (false = true) by decide)] at H; exact H
              clear H
              have H := H1
              clear H1
              simp only [Option.some.injEq, Prod.mk.injEq] at H
              obtain ⟨rfl, rfl, rfl, rfl⟩ := H
              go_enter Tryd.func15, Tryd.ntmps15
              go_wp2_with (first | ((with_reducible refine gate_callee (f := 36) rfl ?_); refine goesL_ (some 25) rfl rfl Tryd.func36 (by kernel_rfl) rfl #[.slice A0 l0.length c0, .int .i64 a1, .int .i64 a2] rfl (by (try simp only [List.map_toArray, List.map_cons, List.map_nil]); first | done | rfl | (simp only [List.length_drop, List.length_take]; rfl)) ?_; (with_reducible refine (capnpref05_Word.calls k _ _ l0 a1 a2 t236 true _ ?side1 ?side2 A4.out).mono ?_); (case side1 => repeat (first | exact HR0.out | (with_reducible refine Kd.C_alloc ?_ _) | (with_reducible refine Kd.C_drewN ?_ _) | (with_reducible refine Kd.C_drew ?_))); (case side2 => exact HC0.out); rintro e w' ⟨rfl, ⟨nd, rfl⟩⟩; refine ⟨_, rfl, ?_⟩) | ((with_reducible refine gate_callee (f := 17) rfl ?_); refine goesL_ (some 31) rfl rfl Tryd.func17 (by kernel_rfl) rfl #[.int .u64 t236] rfl (by (try simp only [List.map_toArray, List.map_cons, List.map_nil]); first | done | rfl | (simp only [List.length_drop, List.length_take]; rfl)) ?_; (with_reducible refine (capnpref07_IsFar.calls t236 true _ A6.out).mono ?_); rintro e w' ⟨rfl, ⟨nd, rfl⟩⟩; refine ⟨_, rfl, ?_⟩) | ((with_reducible refine gate_callee (f := 19) rfl ?_); refine goesL_ (some 39) rfl rfl Tryd.func19 (by kernel_rfl) rfl #[.int .u64 t236] rfl (by (try simp only [List.map_toArray, List.map_cons, List.map_nil]); first | done | rfl | (simp only [List.length_drop, List.length_take]; rfl)) ?_; (with_reducible refine (capnpref07_Landing.calls t236 t239 t240 _ A8.out).mono ?_); rintro e w' ⟨rfl, ⟨nd, rfl⟩⟩; refine ⟨_, rfl, ?_⟩) | ((with_reducible refine gate_callee (f := 36) rfl ?_); refine goesL_ (some 46) rfl rfl Tryd.func36 (by kernel_rfl) rfl #[.slice A0 l0.length c0, .int .i64 t239, .int .i64 t240] rfl (by (try simp only [List.map_toArray, List.map_cons, List.map_nil]); first | done | rfl | (simp only [List.length_drop, List.length_take]; rfl)) ?_; (with_reducible refine (capnpref05_Word.calls k _ _ l0 t239 t240 t241 true _ ?side1 ?side2 A9.out).mono ?_); (case side1 => repeat (first | exact HR0.out | (with_reducible refine Kd.C_alloc ?_ _) | (with_reducible refine Kd.C_drewN ?_ _) | (with_reducible refine Kd.C_drew ?_))); (case side2 => exact HC0.out); rintro e w' ⟨rfl, ⟨nd, rfl⟩⟩; refine ⟨_, rfl, ?_⟩) | ((with_reducible refine gate_callee (f := 36) rfl ?_); refine goesL_ (some 66) rfl rfl Tryd.func36 (by kernel_rfl) rfl #[.slice A0 l0.length c0, .int .i64 t239, .int .i64 (wrap64 (t240 + 1))] rfl (by (try simp only [List.map_toArray, List.map_cons, List.map_nil]); first | done | rfl | (simp only [List.length_drop, List.length_take]; rfl)) ?_; (with_reducible refine (capnpref05_Word.calls k _ _ l0 t239 (wrap64 (t240 + 1)) t244 true _ ?side1 ?side2 A14.out).mono ?_); (case side1 => repeat (first | exact HR0.out | (with_reducible refine Kd.C_alloc ?_ _) | (with_reducible refine Kd.C_drewN ?_ _) | (with_reducible refine Kd.C_drew ?_))); (case side2 => exact HC0.out); rintro e w' ⟨rfl, ⟨nd, rfl⟩⟩; refine ⟨_, rfl, ?_⟩) | ((with_reducible refine gate_callee (f := 21) rfl ?_); refine goesL_ (some 72) rfl rfl Tryd.func21 (by kernel_rfl) rfl #[.int .u64 t244] rfl (by (try simp only [List.map_toArray, List.map_cons, List.map_nil]); first | done | rfl | (simp only [List.length_drop, List.length_take]; rfl)) ?_; (with_reducible refine (capnpref02_Decode.calls k t244 t246 t247 t248 t249 t250 t251 t252 t253 t254 t255 _ A16.out).mono ?_); rintro e w35 ⟨rfl, hb⟩; refine ⟨_, rfl, ?_⟩; have n0_ := Aside0.mk (below_step (by repeat (first | (with_reducible first | exact HB.out | apply below_alloc | apply pw_below_drewN | apply below_drew1) | exact HB.out)) hb); clear HB; have HB := n0_; clear n0_; (try clear hb); (try clear hb2); (try clear hk); (try clear hi)) | ((with_reducible refine gate_dst (N := 18) rfl ?_); refine box_event ?hg (N := 18) ?hd (cs := #[.int .i64 0, .int .i64 0, .int .i64 0, .int .i64 0, .int .i64 0, .int .i64 0, .bool false, .int .i64 0, .int .u32 0, .int .u32 0]) (t := 39) ?hr ?_; (case hd => rfl); (case hg => rfl); (case hr => first | (go_simp; done) | (go_simp; rfl)); intro gb256 hg w36 hbox hb; have n0_ := Aside0.mk (below_step (by repeat (first | (with_reducible first | exact HB.out | apply below_alloc | apply pw_below_drewN | apply below_drew1) | exact HB.out)) hb); have n1_ := Aside0.mk (hbox); have n2_ := Aside0.mk ((by rw [hg]; exact (below_size (by repeat (first | (with_reducible first | exact HB.out | apply below_alloc | apply pw_below_drewN | apply below_drew1) | exact HB.out))) : w.heap.size ≤ gb256)); have n3_ := Aside0.mk ((by rw [hg]; exact (below_size (by repeat (first | (with_reducible first | exact HB.out | apply below_alloc | apply pw_below_drewN | apply below_drew1) | exact HB.out))) : w.heap.size ≤ gb256)); clear HB; have HB := n0_; have BK256 := n1_; have GW256 := n2_; have GE256 := n3_; clear n0_ n1_ n2_ n3_; clear hb hbox hg; have hcz37_0 : w36.cell? ⟨gb256, 0, none⟩ = some (.int .i64 0) := (blk_cell BK256.out 0).trans rfl; have hcz37_1 : w36.cell? ⟨gb256, 1, none⟩ = some (.int .i64 0) := (blk_cell BK256.out 1).trans rfl; have hcz37_2 : w36.cell? ⟨gb256, 2, none⟩ = some (.int .i64 0) := (blk_cell BK256.out 2).trans rfl; have hcz37_3 : w36.cell? ⟨gb256, 3, none⟩ = some (.int .i64 0) := (blk_cell BK256.out 3).trans rfl; have hcz37_4 : w36.cell? ⟨gb256, 4, none⟩ = some (.int .i64 0) := (blk_cell BK256.out 4).trans rfl; have hcz37_5 : w36.cell? ⟨gb256, 5, none⟩ = some (.int .i64 0) := (blk_cell BK256.out 5).trans rfl; have hcz37_6 : w36.cell? ⟨gb256, 6, none⟩ = some (.bool false) := (blk_cell BK256.out 6).trans rfl; have hcz37_7 : w36.cell? ⟨gb256, 7, none⟩ = some (.int .i64 0) := (blk_cell BK256.out 7).trans rfl; have hcz37_8 : w36.cell? ⟨gb256, 8, none⟩ = some (.int .u32 0) := (blk_cell BK256.out 8).trans rfl; have hcz37_9 : w36.cell? ⟨gb256, 9, none⟩ = some (.int .u32 0) := (blk_cell BK256.out 9).trans rfl; have hfz37_0 := blk_frozen BK256.out 0; have hfz37_1 := blk_frozen BK256.out 1; have hfz37_2 := blk_frozen BK256.out 2; have hfz37_3 := blk_frozen BK256.out 3; have hfz37_4 := blk_frozen BK256.out 4; have hfz37_5 := blk_frozen BK256.out 5; have hfz37_6 := blk_frozen BK256.out 6; have hfz37_7 := blk_frozen BK256.out 7; have hfz37_8 := blk_frozen BK256.out 8; have hfz37_9 := blk_frozen BK256.out 9) | ((with_reducible refine gate_callee (f := 17) rfl ?_); refine goesL_ (some 74) rfl rfl Tryd.func17 (by kernel_rfl) rfl #[.int .u64 t241] rfl (by (try simp only [List.map_toArray, List.map_cons, List.map_nil]); first | done | rfl | (simp only [List.length_drop, List.length_take]; rfl)) ?_; (with_reducible refine (capnpref07_IsFar.calls t241 false _ A17.out).mono ?_); rintro e w' ⟨rfl, ⟨nd, rfl⟩⟩; refine ⟨_, rfl, ?_⟩))
              refine bodyPost_ret (results_list (rs := [.tmp 6, .tmp 7, .tmp 8, .tmp 9]) rfl (by simp) (.tmp (.tmp (.tmp (.tmp .nil))))) rfl ?_
              exact ⟨by first | rfl | (simp [errW_none, errW_some] <;> rfl) | (simp [*, errW_none, errW_some] <;> rfl), by repeat (first | (with_reducible first | exact HB.out | apply below_alloc | apply pw_below_drewN | apply below_drew1 | refine below_set ?_ GE256.out) | exact HB.out)⟩
          · replace c15 := Bool.eq_false_iff.mpr c15
            subst c15
            have H1 : (some (0, 0, 0, 2)) = some (r1, r2, r3, r4) := by rw [if_neg (show ¬ (false = true) by decide)] at H; exact H
            clear H
            have H := H1
            clear H1
            simp only [Option.some.injEq, Prod.mk.injEq] at H
            obtain ⟨rfl, rfl, rfl, rfl⟩ := H
            go_enter Tryd.func15, Tryd.ntmps15
            go_wp2_with (first | ((with_reducible refine gate_callee (f := 36) rfl ?_); refine goesL_ (some 25) rfl rfl Tryd.func36 (by kernel_rfl) rfl #[.slice A0 l0.length c0, .int .i64 a1, .int .i64 a2] rfl (by (try simp only [List.map_toArray, List.map_cons, List.map_nil]); first | done | rfl | (simp only [List.length_drop, List.length_take]; rfl)) ?_; (with_reducible refine (capnpref05_Word.calls k _ _ l0 a1 a2 t236 true _ ?side1 ?side2 A4.out).mono ?_); (case side1 => repeat (first | exact HR0.out | (with_reducible refine Kd.C_alloc ?_ _) | (with_reducible refine Kd.C_drewN ?_ _) | (with_reducible refine Kd.C_drew ?_))); (case side2 => exact HC0.out); rintro e w' ⟨rfl, ⟨nd, rfl⟩⟩; refine ⟨_, rfl, ?_⟩) | ((with_reducible refine gate_callee (f := 17) rfl ?_); refine goesL_ (some 31) rfl rfl Tryd.func17 (by kernel_rfl) rfl #[.int .u64 t236] rfl (by (try simp only [List.map_toArray, List.map_cons, List.map_nil]); first | done | rfl | (simp only [List.length_drop, List.length_take]; rfl)) ?_; (with_reducible refine (capnpref07_IsFar.calls t236 true _ A6.out).mono ?_); rintro e w' ⟨rfl, ⟨nd, rfl⟩⟩; refine ⟨_, rfl, ?_⟩) | ((with_reducible refine gate_callee (f := 19) rfl ?_); refine goesL_ (some 39) rfl rfl Tryd.func19 (by kernel_rfl) rfl #[.int .u64 t236] rfl (by (try simp only [List.map_toArray, List.map_cons, List.map_nil]); first | done | rfl | (simp only [List.length_drop, List.length_take]; rfl)) ?_; (with_reducible refine (capnpref07_Landing.calls t236 t239 t240 _ A8.out).mono ?_); rintro e w' ⟨rfl, ⟨nd, rfl⟩⟩; refine ⟨_, rfl, ?_⟩) | ((with_reducible refine gate_callee (f := 36) rfl ?_); refine goesL_ (some 46) rfl rfl Tryd.func36 (by kernel_rfl) rfl #[.slice A0 l0.length c0, .int .i64 t239, .int .i64 t240] rfl (by (try simp only [List.map_toArray, List.map_cons, List.map_nil]); first | done | rfl | (simp only [List.length_drop, List.length_take]; rfl)) ?_; (with_reducible refine (capnpref05_Word.calls k _ _ l0 t239 t240 t241 true _ ?side1 ?side2 A9.out).mono ?_); (case side1 => repeat (first | exact HR0.out | (with_reducible refine Kd.C_alloc ?_ _) | (with_reducible refine Kd.C_drewN ?_ _) | (with_reducible refine Kd.C_drew ?_))); (case side2 => exact HC0.out); rintro e w' ⟨rfl, ⟨nd, rfl⟩⟩; refine ⟨_, rfl, ?_⟩) | ((with_reducible refine gate_callee (f := 36) rfl ?_); refine goesL_ (some 66) rfl rfl Tryd.func36 (by kernel_rfl) rfl #[.slice A0 l0.length c0, .int .i64 t239, .int .i64 (wrap64 (t240 + 1))] rfl (by (try simp only [List.map_toArray, List.map_cons, List.map_nil]); first | done | rfl | (simp only [List.length_drop, List.length_take]; rfl)) ?_; (with_reducible refine (capnpref05_Word.calls k _ _ l0 t239 (wrap64 (t240 + 1)) t244 false _ ?side1 ?side2 A14.out).mono ?_); (case side1 => repeat (first | exact HR0.out | (with_reducible refine Kd.C_alloc ?_ _) | (with_reducible refine Kd.C_drewN ?_ _) | (with_reducible refine Kd.C_drew ?_))); (case side2 => exact HC0.out); rintro e w' ⟨rfl, ⟨nd, rfl⟩⟩; refine ⟨_, rfl, ?_⟩))
            refine bodyPost_ret (results_list (rs := [.tmp 6, .tmp 7, .tmp 8, .tmp 9]) rfl (by simp) (.tmp (.tmp (.tmp (.tmp .nil))))) rfl ?_
            exact ⟨by first | rfl | (simp [errW_none, errW_some] <;> rfl) | (simp [*, errW_none, errW_some] <;> rfl), by repeat (first | (with_reducible first | exact HB.out | apply below_alloc | apply pw_below_drewN | apply below_drew1) | exact HB.out)⟩
      · replace c10 := Bool.eq_false_iff.mpr c10
        subst c10
        have H1 : (some (0, 0, 0, 2)) = some (r1, r2, r3, r4) := by rw [if_neg (show ¬ (false = true) by decide)] at H; exact H
        clear H
        have H := H1
        clear H1
        simp only [Option.some.injEq, Prod.mk.injEq] at H
        obtain ⟨rfl, rfl, rfl, rfl⟩ := H
        go_enter Tryd.func15, Tryd.ntmps15
        go_wp2_with (first | ((with_reducible refine gate_callee (f := 36) rfl ?_); refine goesL_ (some 25) rfl rfl Tryd.func36 (by kernel_rfl) rfl #[.slice A0 l0.length c0, .int .i64 a1, .int .i64 a2] rfl (by (try simp only [List.map_toArray, List.map_cons, List.map_nil]); first | done | rfl | (simp only [List.length_drop, List.length_take]; rfl)) ?_; (with_reducible refine (capnpref05_Word.calls k _ _ l0 a1 a2 t236 true _ ?side1 ?side2 A4.out).mono ?_); (case side1 => repeat (first | exact HR0.out | (with_reducible refine Kd.C_alloc ?_ _) | (with_reducible refine Kd.C_drewN ?_ _) | (with_reducible refine Kd.C_drew ?_))); (case side2 => exact HC0.out); rintro e w' ⟨rfl, ⟨nd, rfl⟩⟩; refine ⟨_, rfl, ?_⟩) | ((with_reducible refine gate_callee (f := 17) rfl ?_); refine goesL_ (some 31) rfl rfl Tryd.func17 (by kernel_rfl) rfl #[.int .u64 t236] rfl (by (try simp only [List.map_toArray, List.map_cons, List.map_nil]); first | done | rfl | (simp only [List.length_drop, List.length_take]; rfl)) ?_; (with_reducible refine (capnpref07_IsFar.calls t236 true _ A6.out).mono ?_); rintro e w' ⟨rfl, ⟨nd, rfl⟩⟩; refine ⟨_, rfl, ?_⟩) | ((with_reducible refine gate_callee (f := 19) rfl ?_); refine goesL_ (some 39) rfl rfl Tryd.func19 (by kernel_rfl) rfl #[.int .u64 t236] rfl (by (try simp only [List.map_toArray, List.map_cons, List.map_nil]); first | done | rfl | (simp only [List.length_drop, List.length_take]; rfl)) ?_; (with_reducible refine (capnpref07_Landing.calls t236 t239 t240 _ A8.out).mono ?_); rintro e w' ⟨rfl, ⟨nd, rfl⟩⟩; refine ⟨_, rfl, ?_⟩) | ((with_reducible refine gate_callee (f := 36) rfl ?_); refine goesL_ (some 46) rfl rfl Tryd.func36 (by kernel_rfl) rfl #[.slice A0 l0.length c0, .int .i64 t239, .int .i64 t240] rfl (by (try simp only [List.map_toArray, List.map_cons, List.map_nil]); first | done | rfl | (simp only [List.length_drop, List.length_take]; rfl)) ?_; (with_reducible refine (capnpref05_Word.calls k _ _ l0 t239 t240 t241 false _ ?side1 ?side2 A9.out).mono ?_); (case side1 => repeat (first | exact HR0.out | (with_reducible refine Kd.C_alloc ?_ _) | (with_reducible refine Kd.C_drewN ?_ _) | (with_reducible refine Kd.C_drew ?_))); (case side2 => exact HC0.out); rintro e w' ⟨rfl, ⟨nd, rfl⟩⟩; refine ⟨_, rfl, ?_⟩))
        refine bodyPost_ret (results_list (rs := [.tmp 6, .tmp 7, .tmp 8, .tmp 9]) rfl (by simp) (.tmp (.tmp (.tmp (.tmp .nil))))) rfl ?_
        exact ⟨by first | rfl | (simp [errW_none, errW_some] <;> rfl) | (simp [*, errW_none, errW_some] <;> rfl), by repeat (first | (with_reducible first | exact HB.out | apply below_alloc | apply pw_below_drewN | apply below_drew1) | exact HB.out)⟩
    · replace c7 := Bool.eq_false_iff.mpr c7
      subst c7
      have H1 : (some (t236, a1, wrap64 (a2 + 1), 0)) = some (r1, r2, r3, r4) := by rw [if_neg (show ¬ (false = true) by decide)] at H; exact H
      clear H
      have H := H1
      clear H1
      simp only [Option.some.injEq, Prod.mk.injEq] at H
      obtain ⟨rfl, rfl, rfl, rfl⟩ := H
      go_enter Tryd.func15, Tryd.ntmps15
      go_wp2_with (first | ((with_reducible refine gate_callee (f := 36) rfl ?_); refine goesL_ (some 25) rfl rfl Tryd.func36 (by kernel_rfl) rfl #[.slice A0 l0.length c0, .int .i64 a1, .int .i64 a2] rfl (by (try simp only [List.map_toArray, List.map_cons, List.map_nil]); first | done | rfl | (simp only [List.length_drop, List.length_take]; rfl)) ?_; (with_reducible refine (capnpref05_Word.calls k _ _ l0 a1 a2 t236 true _ ?side1 ?side2 A4.out).mono ?_); (case side1 => repeat (first | exact HR0.out | (with_reducible refine Kd.C_alloc ?_ _) | (with_reducible refine Kd.C_drewN ?_ _) | (with_reducible refine Kd.C_drew ?_))); (case side2 => exact HC0.out); rintro e w' ⟨rfl, ⟨nd, rfl⟩⟩; refine ⟨_, rfl, ?_⟩) | ((with_reducible refine gate_callee (f := 17) rfl ?_); refine goesL_ (some 31) rfl rfl Tryd.func17 (by kernel_rfl) rfl #[.int .u64 t236] rfl (by (try simp only [List.map_toArray, List.map_cons, List.map_nil]); first | done | rfl | (simp only [List.length_drop, List.length_take]; rfl)) ?_; (with_reducible refine (capnpref07_IsFar.calls t236 false _ A6.out).mono ?_); rintro e w' ⟨rfl, ⟨nd, rfl⟩⟩; refine ⟨_, rfl, ?_⟩))
      refine bodyPost_ret (results_list (rs := [.tmp 6, .tmp 7, .tmp 8, .tmp 9]) rfl (by simp) (.tmp (.tmp (.tmp (.tmp .nil))))) rfl ?_
      exact ⟨by first | rfl | (simp [errW_none, errW_some] <;> rfl) | (simp [*, errW_none, errW_some] <;> rfl), by repeat (first | (with_reducible first | exact HB.out | apply below_alloc | apply pw_below_drewN | apply below_drew1) | exact HB.out)⟩
  · replace c5 := Bool.eq_false_iff.mpr c5
    subst c5
    have H1 : (some (0, 0, 0, 2)) = some (r1, r2, r3, r4) := by rw [if_neg (show ¬ (false = true) by decide)] at H; exact H
    clear H
    have H := H1
    clear H1
    simp only [Option.some.injEq, Prod.mk.injEq] at H
    obtain ⟨rfl, rfl, rfl, rfl⟩ := H
    go_enter Tryd.func15, Tryd.ntmps15
    go_wp2_with (first | ((with_reducible refine gate_callee (f := 36) rfl ?_); refine goesL_ (some 25) rfl rfl Tryd.func36 (by kernel_rfl) rfl #[.slice A0 l0.length c0, .int .i64 a1, .int .i64 a2] rfl (by (try simp only [List.map_toArray, List.map_cons, List.map_nil]); first | done | rfl | (simp only [List.length_drop, List.length_take]; rfl)) ?_; (with_reducible refine (capnpref05_Word.calls k _ _ l0 a1 a2 t236 false _ ?side1 ?side2 A4.out).mono ?_); (case side1 => repeat (first | exact HR0.out | (with_reducible refine Kd.C_alloc ?_ _) | (with_reducible refine Kd.C_drewN ?_ _) | (with_reducible refine Kd.C_drew ?_))); (case side2 => exact HC0.out); rintro e w' ⟨rfl, ⟨nd, rfl⟩⟩; refine ⟨_, rfl, ?_⟩))
    refine bodyPost_ret (results_list (rs := [.tmp 6, .tmp 7, .tmp 8, .tmp 9]) rfl (by simp) (.tmp (.tmp (.tmp (.tmp .nil))))) rfl ?_
    exact ⟨by first | rfl | (simp [errW_none, errW_some] <;> rfl) | (simp [*, errW_none, errW_some] <;> rfl), by repeat (first | (with_reducible first | exact HB.out | apply below_alloc | apply pw_below_drewN | apply below_drew1) | exact HB.out)⟩

end Go.Proofs.YtcjhejopcghgnaaDoor.P

set_option linter.unusedVariables false
set_option linter.unusedSimpArgs false
namespace Go.Proofs.YtcjhejopcghgnaaDoor.P
open Go.RowKit Go.Proofs.YtcjhejopcghgnaaDoorW.PrintWords Go.Proofs.YtcjhejopcghgnaaDoorW.PrintLast Go.Proofs.YtcjhejopcghgnaaDoorW.PrintMore
/-- The word at a place of a message. -/
def wd (l : List (List Int)) (s a : Int) : Int := rd (rd_L5 l s) a
theorem wd_range {l : List (List Int)} (h : Segs l) (s a : Int) : 0 ≤ wd l s a ∧ wd l s a < 18446744073709551616 := by
  have hw := (h.seg s).2
  unfold wd rd
  rw [List.getD_eq_getElem?_getD]
  by_cases hs : a.toNat < (rd_L5 l s).length
  · rw [List.getElem?_eq_getElem hs]
    have := hw _ (List.getElem_mem hs)
    simp only [Option.getD_some]
    omega
  · rw [List.getElem?_eq_none (by omega)]
    simp
theorem dec_kind {a : Int} (h : 0 ≤ a ∧ a < 18446744073709551616) : (decI a).1 = a % 4 := by
  unfold decI
  repeat' split
  all_goals (simp; omega)
theorem dec_far {a : Int} (hr : 0 ≤ a ∧ a < 18446744073709551616) (h : a % 4 = 2) : decI a = (2, 0, 0, 0, 0, 0, a / 4 % 2 == 1, a / 8 % 536870912, a / 4294967296, 0) := by
  unfold decI
  rw [if_neg (by omega), if_neg (by omega), if_pos h, Int.emod_eq_of_lt (a := a / 4294967296) (by omega) (by omega)]
theorem landing_seg (a : Int) (h : 0 ≤ a ∧ a < 18446744073709551616) : 0 ≤ a / 4294967296 ∧ a / 4294967296 ≤ 4294967295 := by omega
/-- What following a far word comes to, one pad. -/
def sgl (l : List (List Int)) (a : Int) : Int × Int × Int × Int :=
  if inB l (a / 4294967296) (a / 8 % 536870912) 1 then (if wd l (a / 4294967296) (a / 8 % 536870912) % 4 = 2 then (0, 0, 0, 3) else (wd l (a / 4294967296) (a / 8 % 536870912), a / 4294967296, a / 8 % 536870912 + 1, 0)) else (0, 0, 0, 2)
/-- Two pads. -/
def dbl (l : List (List Int)) (a : Int) : Int × Int × Int × Int :=
  if inB l (a / 4294967296) (a / 8 % 536870912) 2 then
    (if wd l (a / 4294967296) (a / 8 % 536870912) % 4 = 2 ∧ wd l (a / 4294967296) (a / 8 % 536870912) / 4 % 2 = 0 ∧ wd l (a / 4294967296) (a / 8 % 536870912 + 1) % 4 ≤ 1 ∧ (decI (wd l (a / 4294967296) (a / 8 % 536870912 + 1))).2.1 = 0
      then (wd l (a / 4294967296) (a / 8 % 536870912 + 1), wd l (a / 4294967296) (a / 8 % 536870912) / 4294967296, wd l (a / 4294967296) (a / 8 % 536870912) / 8 % 536870912, 0) else (0, 0, 0, 3)) else (0, 0, 0, 2)
/-- What Follow answers. -/
def fol (l : List (List Int)) (s a : Int) : Int × Int × Int × Int :=
  if inB l s a 1 then (if wd l s a % 4 = 2 then (if wd l s a / 4 % 2 = 1 then dbl l (wd l s a) else sgl l (wd l s a)) else (wd l s a, s, a + 1, 0)) else (0, 0, 0, 2)
theorem IsFar_eq {a : Int} (h : 0 ≤ a ∧ a < 18446744073709551616) : far_IsFar.f a = some (a % 4 == 2) := by
  unfold far_IsFar.f
  rw [Decode_eq h]
  simp only [Option.bind_some, dec_kind h]
theorem Landing_eq {a : Int} (h : 0 ≤ a ∧ a < 18446744073709551616) (hf : a % 4 = 2) : far_Landing.f a = some (a / 4294967296, a / 8 % 536870912) := by
  unfold far_Landing.f
  rw [Decode_eq h, dec_far h hf]
  simp only [Option.bind_some]
  rw [w64 (by omega)]
theorem single_eq {l : List (List Int)} (hl : Segs l) {a : Int} (h : 0 ≤ a ∧ a < 18446744073709551616) (hf : a % 4 = 2) : far_single.f l a = some (sgl l a) := by
  unfold far_single.f sgl
  rw [Landing_eq h hf]
  simp only [Option.bind_some]
  rw [Word_eq hl]
  simp only [Option.bind_some]
  by_cases hb : inB l (a / 4294967296) (a / 8 % 536870912) 1
  · rw [if_pos hb, if_pos hb]
    simp only [if_true]
    rw [show rd (rd_L5 l (a / 4294967296)) (a / 8 % 536870912) = wd l (a / 4294967296) (a / 8 % 536870912) from rfl, IsFar_eq (wd_range hl _ _)]
    simp only [Option.bind_some, beq_iff_eq]
    by_cases h2 : wd l (a / 4294967296) (a / 8 % 536870912) % 4 = 2
    · rw [if_pos h2, if_pos h2]
    · rw [if_neg h2, if_neg h2, w64 (by omega)]
  · rw [if_neg hb, if_neg hb]
    simp
theorem rIsFar_eq {a : Int} (h : 0 ≤ a ∧ a < 18446744073709551616) : capnpref07_IsFar.f a = some (a % 4 == 2) := by
  unfold capnpref07_IsFar.f
  rw [Int.tmod_eq_emod_of_nonneg h.1]
theorem rLanding_eq {a : Int} (h : 0 ≤ a ∧ a < 18446744073709551616) : capnpref07_Landing.f a = some (a / 4294967296, a / 8 % 536870912) := by
  unfold capnpref07_Landing.f
  rw [Int.tdiv_eq_ediv_of_nonneg h.1, Int.tmod_eq_emod_of_nonneg h.1, Int.tdiv_eq_ediv_of_nonneg (by omega), wrap_u64 (by omega), wrap_u64 (by omega), w64 (by omega), w64 (by omega), show a % 4294967296 / 8 = a / 8 % 536870912 by omega]
theorem rBit {a : Int} (h : 0 ≤ a ∧ a < 18446744073709551616) : Int.tmod (IntKind.u64.wrap (Int.tdiv a 4)) 2 = a / 4 % 2 := by
  rw [Int.tdiv_eq_ediv_of_nonneg h.1, wrap_u64 (by omega), Int.tmod_eq_emod_of_nonneg (by omega)]
theorem inB_two {l : List (List Int)} {s a : Int} : inB l s a 2 ↔ inB l s a 1 ∧ inB l s (a + 1) 1 := by
  unfold inB
  omega
theorem rFollow_has {l : List (List Int)} (hl : Segs l) (s a : Int) : Has (fun k => capnpref07_Follow.f k l s a) (fol l s a) := by
  have rw_ : ∀ s a, Has (fun k => capnpref05_Word.f k l s a) (if inB l s a 1 then (wd l s a, true) else (0, false)) := fun s a => ⟨rounds l, fun k hk => rWord_eq hl s a k hk⟩
  simp only [capnpref07_Follow.f]
  unfold fol
  refine Has.bind (rw_ s a) ?_
  by_cases hb : inB l s a 1
  case neg =>
    rw [if_neg hb, if_neg hb]
    exact Has.neg (by simp) (Has.some_ _)
  rw [if_pos hb, if_pos hb]
  have h0 := wd_range hl s a
  refine Has.pos rfl ?_
  rw [rIsFar_eq h0]
  simp only [Option.bind_some, beq_iff_eq]
  by_cases hf : wd l s a % 4 = 2
  case neg =>
    refine Has.neg hf ?_
    rw [if_neg hf]
    refine (Has.some_ _).eq ?_
    have hlen := (hl.seg s).1
    unfold inB at hb
    rw [w64 (by omega)]
  refine Has.pos hf ?_
  rw [if_pos hf, rLanding_eq h0]
  simp only [Option.bind_some]
  generalize wd l s a = x at h0 hf
  have h1 := wd_range hl (x / 4294967296) (x / 8 % 536870912)
  have h2 := wd_range hl (x / 4294967296) (x / 8 % 536870912 + 1)
  refine Has.bind (rw_ _ _) ?_
  by_cases h4 : x / 4 % 2 = 1
  · rw [if_pos h4]
    unfold dbl
    by_cases b1 : inB l (x / 4294967296) (x / 8 % 536870912) 1
    case neg =>
      rw [if_neg b1, if_neg (fun h => b1 (inB_two.1 h).1)]
      exact Has.neg (by simp) (Has.some_ _)
    rw [if_pos b1]
    refine Has.pos rfl ?_
    rw [rBit h0]
    refine Has.neg (by omega) ?_
    rw [w64 (x := x / 8 % 536870912 + 1) (by omega)]
    refine Has.bind (rw_ _ _) ?_
    by_cases b2 : inB l (x / 4294967296) (x / 8 % 536870912 + 1) 1
    case neg =>
      rw [if_neg b2, if_neg (fun h => b2 (inB_two.1 h).2)]
      exact Has.neg (by simp) (Has.some_ _)
    rw [if_pos b2, if_pos (inB_two.2 ⟨b1, b2⟩)]
    refine Has.pos rfl ?_
    simp only [rIsFar_eq h1, rLanding_eq h1, rBit h1, Option.bind_some, beq_iff_eq]
    generalize wd l (x / 4294967296) (x / 8 % 536870912) = y at h1
    generalize wd l (x / 4294967296) (x / 8 % 536870912 + 1) = z at h2
    refine Has.bind ⟨201, fun k hk => rDecode_eq h2 k (by omega)⟩ ?_
    rw [dec_kind h2]
    by_cases c1 : y % 4 = 2
    case neg => exact Has.neg c1 ((Has.some_ _).eq (by rw [if_neg (fun h => c1 h.1)]))
    refine Has.pos c1 ?_
    by_cases c2 : y / 4 % 2 = 1
    case pos => exact Has.pos c2 ((Has.some_ _).eq (by rw [if_neg (fun h => by omega)]))
    refine Has.neg c2 ?_
    by_cases c3 : z % 4 > 1
    case pos => exact Has.pos c3 ((Has.some_ _).eq (by rw [if_neg (fun h => by omega)]))
    refine Has.neg c3 ?_
    by_cases c4 : (decI z).2.1 = 0
    case neg => exact Has.neg c4 ((Has.some_ _).eq (by rw [if_neg (fun h => c4 h.2.2.2)]))
    exact Has.pos c4 ((Has.some_ _).eq (by rw [if_pos ⟨c1, by omega, by omega, c4⟩]))
  · rw [if_neg h4]
    unfold sgl
    by_cases b1 : inB l (x / 4294967296) (x / 8 % 536870912) 1
    case neg =>
      rw [if_neg b1, if_neg b1]
      exact Has.neg (by simp) (Has.some_ _)
    rw [if_pos b1, if_pos b1]
    refine Has.pos rfl ?_
    rw [rBit h0]
    refine Has.pos (by omega) ?_
    simp only [rIsFar_eq h1, Option.bind_some, beq_iff_eq]
    by_cases c1 : wd l (x / 4294967296) (x / 8 % 536870912) % 4 = 2
    · exact Has.pos c1 ((Has.some_ _).eq (by rw [if_pos c1]))
    · exact Has.neg c1 ((Has.some_ _).eq (by rw [if_neg c1, w64 (by omega)]))
end Go.Proofs.YtcjhejopcghgnaaDoor.P

set_option linter.unusedVariables false
set_option linter.unusedSimpArgs false
namespace Go.Proofs.YtcjhejopcghgnaaDoor.P
open Go.RowKit Go.Proofs.YtcjhejopcghgnaaDoorW.PrintWords Go.Proofs.YtcjhejopcghgnaaDoorW.PrintLast Go.Proofs.YtcjhejopcghgnaaDoorW.PrintMore
theorem two_of (L : List Int) (n : Nat) (h : n + 2 ≤ L.length) : (L.drop n).take 2 = [L.getD n 0, L.getD (n + 1) 0] := by
  rw [List.drop_eq_getElem_cons (by omega), List.drop_eq_getElem_cons (i := n + 1) (by omega), List.getD_eq_getElem?_getD, List.getD_eq_getElem?_getD, List.getElem?_eq_getElem (by omega), List.getElem?_eq_getElem (by omega)]
  rfl
theorem cut_two {l : List (List Int)} {s a : Int} (h : inB l s a 2) : cut l s a 2 = [wd l s a, wd l s (a + 1)] := by
  obtain ⟨h1, h2, h3, h4, h5⟩ := h
  unfold cut wd rd
  rw [show (2 : Int).toNat = 2 from rfl, two_of _ _ (by omega), show (a + 1).toNat = a.toNat + 1 by omega]
theorem double_eq {l : List (List Int)} (hl : Segs l) {a : Int} (h : 0 ≤ a ∧ a < 18446744073709551616) (hf : a % 4 = 2) : far_double.f l a = some (dbl l a) := by
  unfold far_double.f dbl
  rw [Landing_eq h hf]
  simp only [Option.bind_some]
  rw [Slice_eq hl _ _ _ (by omega)]
  simp only [Option.bind_some]
  by_cases hb : inB l (a / 4294967296) (a / 8 % 536870912) 2
  case neg =>
    rw [if_neg hb, if_neg hb]
    simp
  rw [if_pos hb, if_pos hb, cut_two hb]
  have h1 := wd_range hl (a / 4294967296) (a / 8 % 536870912)
  have h2 := wd_range hl (a / 4294967296) (a / 8 % 536870912 + 1)
  generalize wd l (a / 4294967296) (a / 8 % 536870912) = y at h1
  generalize wd l (a / 4294967296) (a / 8 % 536870912 + 1) = z at h2
  have e1 : (0 : Int) < (([y, z] : List Int).length : Int) := by simp
  have e2 : (1 : Int) < (([y, z] : List Int).length : Int) := by simp
  rw [if_pos rfl]
  dsimp only
  rw [if_pos e1, show rd [y, z] 0 = y from rfl, show rd [y, z] 1 = z from rfl, Decode_eq h1]
  simp only [Option.bind_some]
  rw [if_pos e2, Decode_eq h2]
  simp only [Option.bind_some]
  rw [dec_kind h1, dec_kind h2]
  by_cases c1 : y % 4 = 2
  case neg => rw [if_neg c1, if_neg (fun q => c1 q.1)]
  rw [if_pos c1, dec_far h1 c1]
  by_cases c2 : y / 4 % 2 = 1
  case pos => rw [if_pos (by simp [c2]), if_neg (fun q => by omega)]
  rw [if_neg (by simp [c2])]
  by_cases c3 : z % 4 > 1
  case pos => rw [if_pos c3, if_neg (fun q => by omega)]
  rw [if_neg c3]
  by_cases c4 : (decI z).2.1 = 0
  case neg => rw [if_neg c4, if_neg (fun q => c4 q.2.2.2)]
  rw [if_pos c4, if_pos ⟨c1, by omega, by omega, c4⟩]
  show some (z, wrap64 (y / 4294967296), y / 8 % 536870912, (0 : Int)) = _
  rw [w64 (by omega)]
theorem Follow_eq {l : List (List Int)} (hl : Segs l) (s a : Int) : far_Follow.f l s a = some (fol l s a) := by
  unfold far_Follow.f fol
  rw [Word_eq hl]
  simp only [Option.bind_some]
  by_cases hb : inB l s a 1
  case neg =>
    rw [if_neg hb, if_neg hb]
    simp
  rw [if_pos hb, if_pos hb]
  have h0 := wd_range hl s a
  simp only [if_true]
  rw [show rd (rd_L5 l s) a = wd l s a from rfl, IsFar_eq h0, Decode_eq h0]
  simp only [Option.bind_some, beq_iff_eq]
  by_cases hf : wd l s a % 4 = 2
  case neg =>
    have hlen := (hl.seg s).1
    unfold inB at hb
    rw [if_neg hf, if_neg hf, w64 (by omega)]
    simp
  rw [if_pos hf, if_pos hf]
  generalize wd l s a = x at h0 hf
  rw [dec_far h0 hf]
  simp only [beq_iff_eq]
  by_cases h4 : x / 4 % 2 = 1
  · rw [if_pos h4, if_pos h4, double_eq hl h0 hf]
    simp only [Option.bind_some]
    unfold dbl
    repeat' split
    all_goals simp_all
  · rw [if_neg h4, if_neg h4, single_eq hl h0 hf]
    simp only [Option.bind_some]
    unfold sgl
    repeat' split
    all_goals simp_all
end Go.Proofs.YtcjhejopcghgnaaDoor.P

set_option linter.unusedVariables false
set_option linter.unusedSimpArgs false
namespace Go.Proofs.YtcjhejopcghgnaaDoor.P
open Go.RowKit Go.Proofs.YtcjhejopcghgnaaDoorW.PrintWords Go.Proofs.YtcjhejopcghgnaaDoorW.PrintLast Go.Proofs.YtcjhejopcghgnaaDoorW.PrintMore
theorem awake_has : Has (fun k => capnplaw07_awake.f k) true := ⟨300, fun k hk => le_of_mono (f := capnplaw07_awake.f) capnplaw07_awake.mono (n := 300) (by kernel_rfl) k hk⟩
theorem Few_has {l : List (List Int)} (h : Segs l) : Has (fun k => capnpref04_Few.f k l) (decide (Few l)) := ⟨l.length + 2, fun k hk => Few_eq h k (by omega)⟩
/-- What Follow's answers look like. -/
theorem fol_ok {l : List (List Int)} (hl : Segs l) (s a : Int) : ((fol l s a).2.2.2 = 0 ∧ 0 ≤ (fol l s a).1 ∧ (fol l s a).1 < 18446744073709551616 ∧ (fol l s a).1 % 4 ≠ 2 ∧ inB l s a 1 ∧ (wd l s a % 4 ≠ 2 → (fol l s a).1 = wd l s a ∧ (fol l s a).2.1 = s ∧ (fol l s a).2.2.1 = a + 1)) ∨ (fol l s a = (0, 0, 0, 2) ∨ fol l s a = (0, 0, 0, 3)) := by
  unfold fol
  by_cases hb : inB l s a 1
  case neg => rw [if_neg hb]; exact Or.inr (Or.inl rfl)
  rw [if_pos hb]
  have h0 := wd_range hl s a
  by_cases hf : wd l s a % 4 = 2
  case neg => rw [if_neg hf]; exact Or.inl ⟨rfl, h0.1, h0.2, hf, hb, fun _ => ⟨rfl, rfl, rfl⟩⟩
  rw [if_pos hf]
  generalize wd l s a = x at *
  by_cases h4 : x / 4 % 2 = 1
  · rw [if_pos h4]
    unfold dbl
    have h2 := wd_range hl (x / 4294967296) (x / 8 % 536870912 + 1)
    by_cases c1 : inB l (x / 4294967296) (x / 8 % 536870912) 2
    case neg => rw [if_neg c1]; exact Or.inr (Or.inl rfl)
    rw [if_pos c1]
    split
    · rename_i c2
      exact Or.inl ⟨rfl, h2.1, h2.2, by omega, hb, fun q => absurd hf q⟩
    · exact Or.inr (Or.inr rfl)
  · rw [if_neg h4]
    unfold sgl
    have h2 := wd_range hl (x / 4294967296) (x / 8 % 536870912)
    by_cases c1 : inB l (x / 4294967296) (x / 8 % 536870912) 1
    case neg => rw [if_neg c1]; exact Or.inr (Or.inl rfl)
    rw [if_pos c1]
    split
    · exact Or.inr (Or.inr rfl)
    · rename_i c2
      exact Or.inl ⟨rfl, h2.1, h2.2, c2, hb, fun q => absurd hf q⟩
end Go.Proofs.YtcjhejopcghgnaaDoor.P

set_option linter.unusedVariables false
namespace Go.Proofs.YtcjhejopcghgnaaDoor.P
open Go.RowKit Go.Proofs.YtcjhejopcghgnaaDoorW.PrintWords

/-- What is read at a type, with this much fuel, is a value of the kind, and tells this of the datum. -/
def OpensAt {H α : Type} (enc : TypeId × Value → H) (P : Program) (w : World) (n : Nat) (t : TypeId) (d : Kd α) (S : α → DataW H → Prop) : Prop :=
  ∀ cs x, DataW.trod enc P w 0 (fun _ => true) true n t cs = some x → ∃ a, d.K w a cs ∧ S a x.1
def Opens {H α : Type} (enc : TypeId × Value → H) (P : Program) (w : World) (t : TypeId) (d : Kd α) (S : α → DataW H → Prop) : Prop := ∀ n, OpensAt enc P w n t d S

/-- The data of whole numbers, of slices. -/
def DInt {H : Type} (k : IntKind) (n : Int) (x : DataW H) : Prop := x = .lit (.int k n) ∧ (Lit.int k n).wf = true
def DBool {H : Type} (b : Bool) (x : DataW H) : Prop := x = .lit (.bool b)
inductive DAll {H α : Type} (S : α → DataW H → Prop) : List α → List (DataW H) → Prop
  | nil : DAll S [] []
  | cons {a : α} {x : DataW H} {us : List α} {xs : List (DataW H)} : S a x → DAll S us xs → DAll S (a :: us) (x :: xs)
def DSlice {H α : Type} (S : α → DataW H → Prop) (xs : List α) (x : DataW H) : Prop := (xs = [] ∧ x = .nil) ∨ ∃ es rest, x = .slice es rest ∧ DAll S xs es
theorem DAll.mem {H α : Type} {S : α → DataW H → Prop} {us : List α} {xs : List (DataW H)} (h : DAll S us xs) {a : α} (ha : a ∈ us) : ∃ x, x ∈ xs ∧ S a x := by
  induction h with
  | nil => cases ha
  | cons h0 _ ih =>
    rcases List.mem_cons.1 ha with rfl | ha
    · exact ⟨_, List.mem_cons_self, h0⟩
    · obtain ⟨x, hx, hs⟩ := ih ha
      exact ⟨x, List.mem_cons_of_mem _ hx, hs⟩
theorem DAll.length {H α : Type} {S : α → DataW H → Prop} {us : List α} {xs : List (DataW H)} (h : DAll S us xs) : us.length = xs.length := by
  induction h with
  | nil => rfl
  | cons _ _ ih => simp [ih]
theorem DSlice.mem {H α : Type} {S : α → DataW H → Prop} {xs : List α} {x : DataW H} (h : DSlice S xs x) {a : α} (ha : a ∈ xs) : ∃ y, S a y := by
  rcases h with ⟨rfl, _⟩ | ⟨es, rest, _, h⟩
  · cases ha
  · obtain ⟨y, _, hs⟩ := h.mem ha
    exact ⟨y, hs⟩

section
variable {H α : Type} {enc : TypeId × Value → H} {P : Program} {w : World} {n : Nat} {t e : TypeId}
theorem OpensAt.int {k : IntKind} (ht : P.underlying t = some (.int k)) : OpensAt enc P w n t (Kd.int k) (DInt k) := by
  intro cs x h
  obtain ⟨m, rfl, rfl, hw⟩ := DataW.trod_int ht h
  exact ⟨m, rfl, rfl, hw⟩
theorem OpensAt.bool (ht : P.underlying t = some .bool) : OpensAt enc P w n t Kd.bool DBool := by
  intro cs x h
  obtain ⟨b, rfl, rfl⟩ := DataW.trod_bool ht h
  exact ⟨b, rfl, rfl⟩
theorem mapM_get {α β : Type} {f : α → Option β} : ∀ {l : List α} {r : List β}, l.mapM f = some r → r.length = l.length ∧ ∀ (i : Nat) (x : α), l[i]? = some x → f x = r[i]?
  | [], r, h => by simp at h; subst h; simp
  | a :: l, r, h => by
    simp only [List.mapM_cons, Option.bind_eq_bind, Option.bind_eq_some_iff, Option.pure_def, Option.some.injEq] at h
    obtain ⟨b, hb, r', hr, rfl⟩ := h
    obtain ⟨h1, h2⟩ := mapM_get hr
    refine ⟨by simp [h1], fun i x hx => ?_⟩
    cases i with
    | zero => simp at hx; subst hx; simpa using hb
    | succ i => simp at hx; simpa using h2 i x hx
theorem cells?_get {w : World} {a : Addr} {n : Nat} {cs : List Value} (h : w.cells? 0 a n = some cs) : cs.length = n ∧ ∀ (i : Nat) (u : Value), cs[i]? = some u → w.cell? (a.add i) = some u := by
  simp only [World.cells?, Nat.zero_le, if_true] at h
  obtain ⟨h1, h2⟩ := mapM_get h
  refine ⟨by simpa using h1, fun i u hu => ?_⟩
  have hi : i < n := by have := (List.getElem?_eq_some_iff.1 hu).1; simp at h1; omega
  rw [h2 i i (by simp [hi]), hu]
theorem exists_list {α : Type} {p : Nat → α → Prop} : ∀ (m : Nat), (∀ i, i < m → ∃ a, p i a) → ∃ l : List α, l.length = m ∧ ∀ (i : Nat) (a : α), l[i]? = some a → p i a
  | 0, _ => ⟨[], rfl, fun i a h => by simp at h⟩
  | m + 1, h => by
    obtain ⟨l, hl, hp⟩ := exists_list m (fun i hi => h i (by omega))
    obtain ⟨a, ha⟩ := h m (by omega)
    refine ⟨l ++ [a], by simp [hl], fun i b hb => ?_⟩
    rcases Nat.lt_or_ge i l.length with hi | hi
    · rw [List.getElem?_append_left hi] at hb
      exact hp i b hb
    · have : i = l.length := by
        have := (List.getElem?_eq_some_iff.1 hb).1
        simp at this
        omega
      subst this
      simp at hb
      subst hb
      rw [hl]
      exact ha
theorem DAll.of_get {S : α → DataW H → Prop} : ∀ {us : List α} {xs : List (DataW H)}, us.length = xs.length → (∀ (i : Nat) (a : α) (x : DataW H), us[i]? = some a → xs[i]? = some x → S a x) → DAll S us xs
  | [], [], _, _ => .nil
  | [], _ :: _, h, _ => by simp at h
  | _ :: _, [], h, _ => by simp at h
  | a :: us, x :: xs, h, hg => .cons (hg 0 a x rfl rfl) (DAll.of_get (by simpa using h) fun i b y hb hy => hg (i + 1) b y (by simpa using hb) (by simpa using hy))
theorem OpensAt.slice {d : Kd α} {S : α → DataW H → Prop} (ht : P.underlying t = some (.slice e)) (hc : P.cellsOf e = d.sz) (h : OpensAt enc P w n e d S) : OpensAt enc P w (n + 1) t (Kd.slice e d) (DSlice S) := by
  intro cs x hx
  rcases DataW.trod_slice ht hx with ⟨rfl, rfl⟩ | ⟨a, len, cap, elems, rest, m, hm, rfl, rfl, _, hl, hcap, hlen, hel, _⟩
  · exact ⟨[], ⟨none, 0, rfl, Nat.le_refl _, rfl, by simp, fun h => absurd h (by simp)⟩, .inl ⟨rfl, rfl⟩⟩
  · obtain rfl : n = m := by omega
    have key : ∀ i, i < len → ∃ p : α, ∃ c : List Value, c.length = d.sz ∧ d.K w p c ∧ (∀ (j : Nat) (u : Value), c[j]? = some u → w.cell? (a.add (i * d.sz + j)) = some u) ∧ ∃ y, elems[i]? = some y ∧ S p y.1 := by
      intro i hi
      have h1 := hel i hi
      rw [List.getElem?_eq_getElem (by omega : i < elems.length)] at h1
      obtain ⟨c, hc1, hc2⟩ := Option.bind_eq_some_iff.mp h1
      obtain ⟨p, hp, hs⟩ := h c _ hc2
      obtain ⟨g1, g2⟩ := cells?_get hc1
      refine ⟨p, c, by rw [g1, hc], hp, fun j u hu => ?_, _, List.getElem?_eq_getElem (by omega), hs⟩
      have := g2 j u hu
      rwa [Deep.add_add, hc] at this
    obtain ⟨ps, hpl, hps⟩ := exists_list len key
    refine ⟨ps, ⟨some a, cap, by rw [hpl], by rw [hpl]; exact hl, rfl, by rw [hpl]; unfold maxLen at hcap; omega, fun _ => ⟨a, rfl, fun j p hj => ?_⟩⟩, .inr ⟨_, _, rfl, ?_⟩⟩
    · obtain ⟨c, h1, h2, h3, _⟩ := hps j p hj
      exact ⟨c, h1, h2, h3⟩
    · refine DAll.of_get (by simp [hpl, hlen]) fun i p y hp hy => ?_
      obtain ⟨c, _, _, _, z, hz, hs⟩ := hps i p hp
      rw [List.getElem?_map, hz] at hy
      simp at hy
      subst hy
      exact hs
theorem OpensAt.zero (t : TypeId) (d : Kd α) (S : α → DataW H → Prop) : OpensAt enc P w 0 t d S := by
  intro cs x h
  simp [DataW.trod] at h
theorem Opens.slice {d : Kd α} {S : α → DataW H → Prop} (ht : P.underlying t = some (.slice e)) (hc : P.cellsOf e = d.sz) (h : Opens enc P w e d S) : Opens enc P w t (Kd.slice e d) (DSlice S)
  | 0 => OpensAt.zero _ _ _
  | n + 1 => OpensAt.slice ht hc (h n)
/-- What the list that was read is, plainly. -/
theorem plain_slice {d : Kd α} {S : α → DataW H → Prop} {Q : α → Prop} {A : Option Addr} {xs : List α} {x : DataW H} (hc : Kd.C d w A xs.length xs) (s : DSlice S xs x) (hQ : ∀ a y c, S a y → d.K w a c → Q a) : xs.length ≤ 9223372036854775807 ∧ ∀ a ∈ xs, Q a :=
  ⟨hc.2.1, fun a ha => by
    obtain ⟨i, hi, rfl⟩ := List.getElem_of_mem ha
    obtain ⟨y, hy⟩ := s.mem ha
    obtain ⟨ad, _, hcell⟩ := hc.2.2 (by omega)
    obtain ⟨c, _, hK, _⟩ := hcell i _ (List.getElem?_eq_getElem hi)
    exact hQ _ y c hy hK⟩
end
end Go.Proofs.YtcjhejopcghgnaaDoor.P

namespace Go.Proofs.YtcjhejopcghgnaaDoor.P
open Go.RowKit Go.WideMaps Go.WideElems
theorem gDec : Tryd.prog.globalNamed "capnp/pointer.decoders" = some 0 := by kernel_rfl
theorem tDec : (Tryd.prog.globals[0]?).map (·.type) = some 70 := by kernel_rfl
theorem zFunc (W : World) : (zeroValue 41).run Tryd.prog W = .ok .nilFunc W := by kernel_rfl
def decD : DataW (List UInt8) := .map [(.int .i64 0, .held [99, 97, 112, 110, 112, 47, 112, 111, 105, 110, 116, 101, 114, 46, 100, 101, 99, 111, 100, 101, 114, 115, 36, 49]), (.int .i64 1, .held [99, 97, 112, 110, 112, 47, 112, 111, 105, 110, 116, 101, 114, 46, 100, 101, 99, 111, 100, 101, 114, 115, 36, 50]), (.int .i64 2, .held [99, 97, 112, 110, 112, 47, 112, 111, 105, 110, 116, 101, 114, 46, 100, 101, 99, 111, 100, 101, 114, 115, 36, 51]), (.int .i64 3, .held [99, 97, 112, 110, 112, 47, 112, 111, 105, 110, 116, 101, 114, 46, 100, 101, 99, 111, 100, 101, 114, 115, 36, 52])]
def DecOk (w : World) : Prop := ∃ bm es clock, w.cell? ⟨0, 0, none⟩ = some (.map (some bm)) ∧ w.heap[bm]? = some (.map es clock) ∧
    ∀ W : World, W.heap[bm]? = some (.map es clock) →
      (Instr.lookup 70 (.map (some bm)) (.int .i64 0) false).run Tryd.prog W = .ok (.func (.func 75) #[] #[]) W ∧
      (Instr.lookup 70 (.map (some bm)) (.int .i64 1) false).run Tryd.prog W = .ok (.func (.func 77) #[] #[]) W ∧
      (Instr.lookup 70 (.map (some bm)) (.int .i64 2) false).run Tryd.prog W = .ok (.func (.func 78) #[] #[]) W ∧
      (Instr.lookup 70 (.map (some bm)) (.int .i64 3) false).run Tryd.prog W = .ok (.func (.func 79) #[] #[]) W
theorem dec_of_laid {W : World} {l : List (String × DataW Unit)} (h : laidMetH Tryd.prog l W) (hm : ("capnp/pointer.decoders", Rows.laid_capnp_pointer_decoders) ∈ l) : DecOk W := by
  obtain ⟨g, t, cs, fuel, p, hg, ht, hv, hd⟩ := h.funcs hm
  obtain rfl := Option.some.inj (gDec.symm.trans hg)
  obtain rfl := Option.some.inj (tDec.symm.trans ht)
  have hd' : DataW.trod (funcToken Tryd.prog) Tryd.prog W 0 (fun _ => true) true fuel 70 cs.toList = some (decD, p) := hd
  rcases open_map Tryd.underlying70 hd' with ⟨_, hx⟩ | ⟨bm, es, clock, n, rfl, hcs, hb, _, F, hx⟩
  · simp [decD] at hx
  simp only [Prod.mk.injEq] at hx
  have hcell : W.cell? ⟨0, 0, none⟩ = some (.map (some bm)) := by
    have := World.var?_cell hg hv 0
    rw [Array.eq_one_of_toList hcs] at this
    simpa using this
  refine ⟨bm, es, clock, hcell, hb, fun W' hb' => ?_⟩
  have key : ∀ (k : Int) (f : FuncId) (b : UInt8) (r : List UInt8), (Lit.int .i64 k).wf = true → (∀ zd, DataW.atKey (.map ((es.toList.map (rg Tryd.prog 3 (elemAt (funcToken Tryd.prog) Tryd.prog W 0 (fun _ => true) true n 41))).foldr DataW.insert [])) (.int .i64 k) zd = .held (b :: r)) →
      ((List.range Tryd.prog.funcs.size).filter fun f => (Tryd.prog.funcs[f]?).any (·.name.toUTF8.data.toList == b :: r)) = [f] →
      (Instr.lookup 70 (.map (some bm)) (.int .i64 k) false).run Tryd.prog W' = .ok (.func (.func f) #[] #[]) W' := by
    intro k f b r hwf hat0 hone
    rcases Maps.fit_look false (Maps.int_keyed Tryd.underlying3) Tryd.underlying70 (zFunc W') hb' F (Maps.keyOf_int_mk Tryd.underlying3 hwf) with ⟨_, _, hat⟩ | ⟨e0, y, _, _, hrun, hRv, hat, _⟩
    · have := hat .nil
      rw [hat0] at this
      cases this
    · have h1 := hat .nil
      rw [hat0] at h1
      obtain ⟨y1, y2⟩ := y
      simp only at h1
      subst h1
      unfold elemAt at hRv
      split at hRv
      · rename_i hf
        have hv1 : e0.val.cells.toList = [e0.val] := by
          cases he : e0.val <;> simp_all [Value.cells, Value.formed, Tryd.underlying41]
        rw [hv1] at hRv
        have := func_of_trod Tryd.underlying41 hone hRv
        rw [this] at hrun
        simpa using hrun
      · cases hRv
  exact ⟨key 0 75 _ _ rfl (fun zd => by rw [← hx.1]; rfl) (by kernel_rfl), key 1 77 _ _ rfl (fun zd => by rw [← hx.1]; rfl) (by kernel_rfl), key 2 78 _ _ rfl (fun zd => by rw [← hx.1]; rfl) (by kernel_rfl), key 3 79 _ _ rfl (fun zd => by rw [← hx.1]; rfl) (by kernel_rfl)⟩
theorem gBits : Tryd.prog.globalNamed "capnp/listsize.bits" = some 1 := by kernel_rfl
theorem tBits : (Tryd.prog.globals[1]?).map (·.type) = some 79 := by kernel_rfl
theorem bits_of_laid {W : World} {l : List (String × DataW Unit)} (h : laidMetH Tryd.prog l W) (hf : l.filter (fun x => x.2.handleName?.isNone) = [("capnp/listsize.bits", Rows.laid_capnp_listsize_bits)]) : ∀ i : Nat, i < 8 → W.cell? ⟨1, i, none⟩ = some (.int .i64 (bitsOf i)) := by
  have h1 := (laidMetH_iff.1 h).1
  rw [hf] at h1
  have ht : Lib.TabIs Tryd.prog W "capnp/listsize.bits" .i64 [0, 1, 8, 16, 32, 64, 64, 0] := Lib.tabIs_of_head (rest := []) gBits tBits Tryd.underlying79 Tryd.underlying3 (by kernel_rfl) (by kernel_rfl) h1
  exact fun i hi => ht.cell gBits i hi
end Go.Proofs.YtcjhejopcghgnaaDoor.P
