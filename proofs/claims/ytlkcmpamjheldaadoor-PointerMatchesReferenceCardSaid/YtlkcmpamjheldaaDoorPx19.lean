-- Printed by this session's wip/pp.py, out of Lean's print of the program.
import Derived.Test.YtlkcmpamjheldaaDoorPx0
import Derived.Test.YtlkcmpamjheldaaDoorPx17
import Derived.Test.YtlkcmpamjheldaaDoorPx18
namespace Go.Proofs.YtlkcmpamjheldaaDoor.P
open Go.RowKit Go.Proofs.YtlkcmpamjheldaaDoorW.PrintWords Go.Proofs.YtlkcmpamjheldaaDoorW.PrintLast Go.Proofs.YtlkcmpamjheldaaDoorW.PrintMore
attribute [local go_sem] max2_int min2_int max_two min_two max_three min_three max_four min_four   -- for this text's walks alone
set_option linter.unusedVariables false
set_option linter.unusedSimpArgs false

/-! ### capnpref01_Signed: function 19 -/
def capnpref01_Signed.f (k : Nat) (a0 : Int) (a1 : Int) (a2 : Int) : Option (Int) := (capnpref01_Field.f k a0 a1 a2).bind fun t212 => (if a2 = 64 then (some (wrap64 (t212))) else ((capnpref01_Pow.f k (wrap64 (a2 - 1))).bind fun t213 => (if t212 ≥ t213 then ((capnpref01_Pow.f k (wrap64 (a2 - 1))).bind fun t214 => ((capnpref01_Pow.f k (wrap64 (a2 - 1))).bind fun t215 => (some (wrap64 ((wrap64 ((wrap64 (t212)) - (wrap64 (t214)))) - (wrap64 (t215))))))) else (some (wrap64 (t212))))))
theorem capnpref01_Signed.mono : ∀ a0 a1 a2 k, LeO (capnpref01_Signed.f k a0 a1 a2) (capnpref01_Signed.f (k + 1) a0 a1 a2) := by
  intro a0 a1 a2 k
  unfold capnpref01_Signed.f
  repeat' first
      | (with_reducible exact capnpref01_Field.mono _ _ _ _)
      | (with_reducible exact capnpref01_Pow.mono _ _)
      | (with_reducible exact LeO.refl _)
      | (with_reducible exact LeO.none _)
      | (with_reducible refine LeO.ite ?_ ?_)
      | (with_reducible refine LeO.bind ?_ (fun _ => ?_))
      | exact capnpref01_Field.mono _ _ _ _
      | exact capnpref01_Pow.mono _ _
      | exact LeO.none _
      | refine LeO.ite ?_ ?_
      | refine LeO.bind ?_ (fun _ => ?_)
set_option maxHeartbeats 8000000 in
set_option maxRecDepth 100000 in
theorem capnpref01_Signed.calls (k : Nat) (a0 : Int) (a1 : Int) (a2 : Int) (r : Int) (w : World) (h : capnpref01_Signed.f k a0 a1 a2 = some r) :
    Calls Tryd.prog 19 #[.int .u64 a0, .int .i64 a1, .int .i64 a2] w fun e w' => e = .returned (.int .i64 r) ∧ Drawn0 w w' := by
  have H : ((capnpref01_Field.f k a0 a1 a2).bind fun t212 => (if a2 = 64 then (some (wrap64 (t212))) else ((capnpref01_Pow.f k (wrap64 (a2 - 1))).bind fun t213 => (if t212 ≥ t213 then ((capnpref01_Pow.f k (wrap64 (a2 - 1))).bind fun t214 => ((capnpref01_Pow.f k (wrap64 (a2 - 1))).bind fun t215 => (some (wrap64 ((wrap64 ((wrap64 (t212)) - (wrap64 (t214)))) - (wrap64 (t215))))))) else (some (wrap64 (t212))))))) = some r := h
  clear h
  replace H := Option.bind_eq_some_iff.mp H
  obtain ⟨t212, A40, H⟩ := H
  replace H : (if a2 = 64 then (some (wrap64 (t212))) else ((capnpref01_Pow.f k (wrap64 (a2 - 1))).bind fun t213 => (if t212 ≥ t213 then ((capnpref01_Pow.f k (wrap64 (a2 - 1))).bind fun t214 => ((capnpref01_Pow.f k (wrap64 (a2 - 1))).bind fun t215 => (some (wrap64 ((wrap64 ((wrap64 (t212)) - (wrap64 (t214)))) - (wrap64 (t215))))))) else (some (wrap64 (t212)))))) = some r := H
  have A4 := Aside0.mk A40
  clear A40
  by_cases c5 : a2 = 64
  · rw [if_pos c5] at H
    have c5b0 : (a2 == 64) = true := beq_iff_eq.mpr c5
    have c5b1 : (a2 != 64) = false := bne_eq_false_iff_eq.mpr c5
    clear c5
    obtain rfl := Option.some.inj H
    go_enter Tryd.func19, Tryd.ntmps19
    go_wp2_with (first | ((with_reducible refine gate_callee (f := 20) rfl ?_); refine goesL_ (some 11) rfl rfl Tryd.func20 (by kernel_rfl) rfl #[.int .u64 a0, .int .i64 a1, .int .i64 a2] rfl (by (try simp only [List.map_toArray, List.map_cons, List.map_nil]); first | done | rfl | (simp only [List.length_drop, List.length_take]; rfl)) ?_; (with_reducible refine (capnpref01_Field.calls k a0 a1 a2 t212 _ A4.out).mono ?_); rintro e w' ⟨rfl, ⟨nd, rfl⟩⟩; refine ⟨_, rfl, ?_⟩))
    go_ret
    exact ⟨by first | rfl | (simp; done) | (simp [*]; done), by repeat (first | exact Drawn0.refl _ | apply Drawn0.step)⟩
  · rw [if_neg c5] at H
    have c5b0 : (a2 == 64) = false := beq_eq_false_iff_ne.mpr c5
    have c5b1 : (a2 != 64) = true := bne_iff_ne.mpr c5
    replace H := Option.bind_eq_some_iff.mp H
    obtain ⟨t213, A60, H⟩ := H
    replace H : (if t212 ≥ t213 then ((capnpref01_Pow.f k (wrap64 (a2 - 1))).bind fun t214 => ((capnpref01_Pow.f k (wrap64 (a2 - 1))).bind fun t215 => (some (wrap64 ((wrap64 ((wrap64 (t212)) - (wrap64 (t214)))) - (wrap64 (t215))))))) else (some (wrap64 (t212)))) = some r := H
    have A6 := Aside0.mk A60
    clear A60
    by_cases c7 : t212 ≥ t213
    · rw [if_pos c7] at H
      have c7b0 : decide (t213 ≤ t212) = true := decide_eq_true c7
      clear c7
      replace H := Option.bind_eq_some_iff.mp H
      obtain ⟨t214, A80, H⟩ := H
      replace H : ((capnpref01_Pow.f k (wrap64 (a2 - 1))).bind fun t215 => (some (wrap64 ((wrap64 ((wrap64 (t212)) - (wrap64 (t214)))) - (wrap64 (t215)))))) = some r := H
      have A8 := Aside0.mk A80
      clear A80
      replace H := Option.bind_eq_some_iff.mp H
      obtain ⟨t215, A90, H⟩ := H
      replace H : (some (wrap64 ((wrap64 ((wrap64 (t212)) - (wrap64 (t214)))) - (wrap64 (t215))))) = some r := H
      have A9 := Aside0.mk A90
      clear A90
      obtain rfl := Option.some.inj H
      go_enter Tryd.func19, Tryd.ntmps19
      go_wp2_with (first | ((with_reducible refine gate_callee (f := 20) rfl ?_); refine goesL_ (some 11) rfl rfl Tryd.func20 (by kernel_rfl) rfl #[.int .u64 a0, .int .i64 a1, .int .i64 a2] rfl (by (try simp only [List.map_toArray, List.map_cons, List.map_nil]); first | done | rfl | (simp only [List.length_drop, List.length_take]; rfl)) ?_; (with_reducible refine (capnpref01_Field.calls k a0 a1 a2 t212 _ A4.out).mono ?_); rintro e w' ⟨rfl, ⟨nd, rfl⟩⟩; refine ⟨_, rfl, ?_⟩) | ((with_reducible refine gate_callee (f := 24) rfl ?_); refine goesL_ (some 19) rfl rfl Tryd.func24 (by kernel_rfl) rfl #[.int .i64 (wrap64 (a2 - 1))] rfl (by (try simp only [List.map_toArray, List.map_cons, List.map_nil]); first | done | rfl | (simp only [List.length_drop, List.length_take]; rfl)) ?_; (with_reducible refine (capnpref01_Pow.calls k (wrap64 (a2 - 1)) t213 _ A6.out).mono ?_); rintro e w' ⟨rfl, ⟨nd, rfl⟩⟩; refine ⟨_, rfl, ?_⟩) | ((with_reducible refine gate_callee (f := 24) rfl ?_); refine goesL_ (some 25) rfl rfl Tryd.func24 (by kernel_rfl) rfl #[.int .i64 (wrap64 (a2 - 1))] rfl (by (try simp only [List.map_toArray, List.map_cons, List.map_nil]); first | done | rfl | (simp only [List.length_drop, List.length_take]; rfl)) ?_; (with_reducible refine (capnpref01_Pow.calls k (wrap64 (a2 - 1)) t214 _ A8.out).mono ?_); rintro e w' ⟨rfl, ⟨nd, rfl⟩⟩; refine ⟨_, rfl, ?_⟩) | ((with_reducible refine gate_callee (f := 24) rfl ?_); refine goesL_ (some 30) rfl rfl Tryd.func24 (by kernel_rfl) rfl #[.int .i64 (wrap64 (a2 - 1))] rfl (by (try simp only [List.map_toArray, List.map_cons, List.map_nil]); first | done | rfl | (simp only [List.length_drop, List.length_take]; rfl)) ?_; (with_reducible refine (capnpref01_Pow.calls k (wrap64 (a2 - 1)) t215 _ A9.out).mono ?_); rintro e w' ⟨rfl, ⟨nd, rfl⟩⟩; refine ⟨_, rfl, ?_⟩))
      go_ret
      exact ⟨by first | rfl | (simp; done) | (simp [*]; done), by repeat (first | exact Drawn0.refl _ | apply Drawn0.step)⟩
    · rw [if_neg c7] at H
      have c7b0 : decide (t213 ≤ t212) = false := decide_eq_false c7
      clear c7
      obtain rfl := Option.some.inj H
      go_enter Tryd.func19, Tryd.ntmps19
      go_wp2_with (first | ((with_reducible refine gate_callee (f := 20) rfl ?_); refine goesL_ (some 11) rfl rfl Tryd.func20 (by kernel_rfl) rfl #[.int .u64 a0, .int .i64 a1, .int .i64 a2] rfl (by (try simp only [List.map_toArray, List.map_cons, List.map_nil]); first | done | rfl | (simp only [List.length_drop, List.length_take]; rfl)) ?_; (with_reducible refine (capnpref01_Field.calls k a0 a1 a2 t212 _ A4.out).mono ?_); rintro e w' ⟨rfl, ⟨nd, rfl⟩⟩; refine ⟨_, rfl, ?_⟩) | ((with_reducible refine gate_callee (f := 24) rfl ?_); refine goesL_ (some 19) rfl rfl Tryd.func24 (by kernel_rfl) rfl #[.int .i64 (wrap64 (a2 - 1))] rfl (by (try simp only [List.map_toArray, List.map_cons, List.map_nil]); first | done | rfl | (simp only [List.length_drop, List.length_take]; rfl)) ?_; (with_reducible refine (capnpref01_Pow.calls k (wrap64 (a2 - 1)) t213 _ A6.out).mono ?_); rintro e w' ⟨rfl, ⟨nd, rfl⟩⟩; refine ⟨_, rfl, ?_⟩))
      go_ret
      exact ⟨by first | rfl | (simp; done) | (simp [*]; done), by repeat (first | exact Drawn0.refl _ | apply Drawn0.step)⟩

end Go.Proofs.YtlkcmpamjheldaaDoor.P
