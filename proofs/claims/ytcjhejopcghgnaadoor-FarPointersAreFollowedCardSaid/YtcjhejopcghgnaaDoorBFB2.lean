/- The texts of this session that come first, joined by wip/merge.py. -/
import Derived.Test.YtcjhejopcghgnaaDoorBFB1
import Derived.Test.YtcjhejopcghgnaaDoorWMore
import Derived.Test.YtcjhejopcghgnaaDoorProg
import Derived.ProofKit
import Derived.OpenShut
import Derived.LaidMore
import Derived.Stop.Joined
import Derived.Deep.Slices
import Derived.Test.YtcjhejopcghgnaaDoorRows
import Derived.Maps.OwnSet
import Derived.Maps.Keyed
import Derived.LaidSub
import Derived.Lib.LaidTab
namespace Go.Proofs.YtcjhejopcghgnaaDoor.P
open Go.RowKit Go.Proofs.YtcjhejopcghgnaaDoorW.PrintWords Go.Proofs.YtcjhejopcghgnaaDoorW.PrintLast Go.Proofs.YtcjhejopcghgnaaDoorW.PrintMore
attribute [local go_sem] max2_int min2_int max_two min_two max_three min_three max_four min_four   -- for this text's walks alone
set_option linter.unusedVariables false
set_option linter.unusedSimpArgs false

variable {gb : Bool}
/-! ### capnplaw07_awake: function 12 -/
def capnplaw07_awake.f (k : Nat)  : Option (Bool) := (capnplaw07_word.f k 0 3 1 0 0 0 false 0 0 0).bind fun t170 => ((capnplaw07_word.f k 0 0 2 0 0 0 false 0 0 0).bind fun t171 => ((capnplaw07_word.f k 2 0 0 0 0 0 false 0 1 0).bind fun t172 => ((capnplaw07_word.f k 2 0 0 0 0 0 true 1 1 0).bind fun t173 => ((capnplaw07_word.f k 2 0 0 0 0 0 false 0 0 0).bind fun t174 => ((capnplaw07_word.f k 2 0 0 0 0 0 true 0 1 0).bind fun t175 => ((capnplaw07_word.f k 2 0 0 0 0 0 false 0 9 0).bind fun t176 => ((capnplaw07_word.f k 2 0 0 0 0 0 false 5 7 0).bind fun t180 => ((some (([(([t172, t173, t174, t175, t176, t170] : List Int)), (([t170, t180, t171] : List Int))] : List (List Int)) : List (List Int))).bind fun y184 => ((far_Follow.f y184 0 0).bind fun bt187 => ((far_Follow.f y184 0 1).bind fun bt191 => ((far_Follow.f y184 0 2).bind fun bt195 => ((far_Follow.f y184 0 3).bind fun bt199 => ((far_Follow.f y184 0 4).bind fun bt203 => ((far_Follow.f y184 0 5).bind fun bt207 => (if bt187.1 = t170 then (if bt187.2.1 = 1 then (if bt187.2.2.1 = 1 then (if bt187.2.2.2 = 0 then (if bt191.1 = t171 then (if bt191.2.1 = 7 then (if bt191.2.2.1 = 5 then (if bt191.2.2.2 = 0 then (if bt195.2.2.2 = 3 then (if bt199.2.2.2 = 3 then (if bt203.2.2.2 = 2 then (if bt207.1 = t170 then (if bt207.2.1 = 0 then (if bt207.2.2.1 = 6 then (if bt207.2.2.2 = 0 then (if 0 < (y184.length : Int) then (if 0 < ((rd_L5 y184 0).length : Int) then ((far_IsFar.f (rd (rd_L5 y184 0) 0)).bind fun t213 => (if t213 = true then ((far_IsFar.f t170).bind fun t214 => (some (!t214))) else (none))) else (none)) else (none)) else (none)) else (none)) else (none)) else (none)) else (none)) else (none)) else (none)) else (none)) else (none)) else (none)) else (none)) else (none)) else (none)) else (none)) else (none))))))))))))))))
theorem capnplaw07_awake.mono : ∀ k, LeO (capnplaw07_awake.f k ) (capnplaw07_awake.f (k + 1) ) := by
  intro  k
  unfold capnplaw07_awake.f
  repeat' first
      | (with_reducible apply capnplaw07_word.mono)
      | (with_reducible exact LeO.refl _)
      | (with_reducible refine LeO.bind ?_ (fun _ => ?_))
set_option maxHeartbeats 8000000 in
set_option maxRecDepth 100000 in
theorem capnplaw07_awake.calls (k : Nat)  (r : Bool) (w : World) (hG : Glob gb w) (h : capnplaw07_awake.f k  = some r) :
    Calls Tryd.prog 12 #[] w fun e w' => e = .returned (.bool r) ∧ Below w.heap.size w w' := by
  have HG := Aside0.mk hG
  clear hG
  have HB := Aside0.mk (Below.refl w.heap.size w)
  have H := h
  unfold capnplaw07_awake.f at H
  clear h
  replace H := Option.bind_eq_some_iff.mp H
  obtain ⟨t170, A10, H⟩ := H
  have A1 := Aside0.mk A10
  clear A10
  replace H := Option.bind_eq_some_iff.mp H
  obtain ⟨t171, A20, H⟩ := H
  have A2 := Aside0.mk A20
  clear A20
  replace H := Option.bind_eq_some_iff.mp H
  obtain ⟨t172, A30, H⟩ := H
  have A3 := Aside0.mk A30
  clear A30
  replace H := Option.bind_eq_some_iff.mp H
  obtain ⟨t173, A40, H⟩ := H
  have A4 := Aside0.mk A40
  clear A40
  replace H := Option.bind_eq_some_iff.mp H
  obtain ⟨t174, A50, H⟩ := H
  have A5 := Aside0.mk A50
  clear A50
  replace H := Option.bind_eq_some_iff.mp H
  obtain ⟨t175, A60, H⟩ := H
  have A6 := Aside0.mk A60
  clear A60
  replace H := Option.bind_eq_some_iff.mp H
  obtain ⟨t176, A70, H⟩ := H
  have A7 := Aside0.mk A70
  clear A70
  obtain ⟨y177, hy177⟩ : ∃ y_ : List Int, y_ = (([t172, t173, t174, t175, t176, t170] : List Int)) := ⟨_, rfl⟩
  replace H : ((capnplaw07_word.f k 2 0 0 0 0 0 false 5 7 0).bind fun t180 => ((some (([y177, (([t170, t180, t171] : List Int))] : List (List Int)) : List (List Int))).bind fun y184 => ((far_Follow.f y184 0 0).bind fun bt187 => ((far_Follow.f y184 0 1).bind fun bt191 => ((far_Follow.f y184 0 2).bind fun bt195 => ((far_Follow.f y184 0 3).bind fun bt199 => ((far_Follow.f y184 0 4).bind fun bt203 => ((far_Follow.f y184 0 5).bind fun bt207 => (if bt187.1 = t170 then (if bt187.2.1 = 1 then (if bt187.2.2.1 = 1 then (if bt187.2.2.2 = 0 then (if bt191.1 = t171 then (if bt191.2.1 = 7 then (if bt191.2.2.1 = 5 then (if bt191.2.2.2 = 0 then (if bt195.2.2.2 = 3 then (if bt199.2.2.2 = 3 then (if bt203.2.2.2 = 2 then (if bt207.1 = t170 then (if bt207.2.1 = 0 then (if bt207.2.2.1 = 6 then (if bt207.2.2.2 = 0 then (if 0 < (y184.length : Int) then (if 0 < ((rd_L5 y184 0).length : Int) then ((far_IsFar.f (rd (rd_L5 y184 0) 0)).bind fun t213 => (if t213 = true then ((far_IsFar.f t170).bind fun t214 => (some (!t214))) else (none))) else (none)) else (none)) else (none)) else (none)) else (none)) else (none)) else (none)) else (none)) else (none)) else (none)) else (none)) else (none)) else (none)) else (none)) else (none)) else (none)) else (none)))))))))) = some r := by (rw [hy177]; with_reducible exact H)
  have Ny177 := Aside0.mk hy177
  clear hy177
  replace H := Option.bind_eq_some_iff.mp H
  obtain ⟨t180, A80, H⟩ := H
  have A8 := Aside0.mk A80
  clear A80
  obtain ⟨y181, hy181⟩ : ∃ y_ : List Int, y_ = (([t170, t180, t171] : List Int)) := ⟨_, rfl⟩
  replace H : ((some (([y177, y181] : List (List Int)) : List (List Int))).bind fun y184 => ((far_Follow.f y184 0 0).bind fun bt187 => ((far_Follow.f y184 0 1).bind fun bt191 => ((far_Follow.f y184 0 2).bind fun bt195 => ((far_Follow.f y184 0 3).bind fun bt199 => ((far_Follow.f y184 0 4).bind fun bt203 => ((far_Follow.f y184 0 5).bind fun bt207 => (if bt187.1 = t170 then (if bt187.2.1 = 1 then (if bt187.2.2.1 = 1 then (if bt187.2.2.2 = 0 then (if bt191.1 = t171 then (if bt191.2.1 = 7 then (if bt191.2.2.1 = 5 then (if bt191.2.2.2 = 0 then (if bt195.2.2.2 = 3 then (if bt199.2.2.2 = 3 then (if bt203.2.2.2 = 2 then (if bt207.1 = t170 then (if bt207.2.1 = 0 then (if bt207.2.2.1 = 6 then (if bt207.2.2.2 = 0 then (if 0 < (y184.length : Int) then (if 0 < ((rd_L5 y184 0).length : Int) then ((far_IsFar.f (rd (rd_L5 y184 0) 0)).bind fun t213 => (if t213 = true then ((far_IsFar.f t170).bind fun t214 => (some (!t214))) else (none))) else (none)) else (none)) else (none)) else (none)) else (none)) else (none)) else (none)) else (none)) else (none)) else (none)) else (none)) else (none)) else (none)) else (none)) else (none)) else (none)) else (none))))))))) = some r := by (rw [hy181]; with_reducible exact H)
  have Ny181 := Aside0.mk hy181
  clear hy181
  obtain ⟨y184, hy184⟩ : ∃ y_ : List (List Int), y_ = (([y177, y181] : List (List Int))) := ⟨_, rfl⟩
  replace H : ((far_Follow.f y184 0 0).bind fun bt187 => ((far_Follow.f y184 0 1).bind fun bt191 => ((far_Follow.f y184 0 2).bind fun bt195 => ((far_Follow.f y184 0 3).bind fun bt199 => ((far_Follow.f y184 0 4).bind fun bt203 => ((far_Follow.f y184 0 5).bind fun bt207 => (if bt187.1 = t170 then (if bt187.2.1 = 1 then (if bt187.2.2.1 = 1 then (if bt187.2.2.2 = 0 then (if bt191.1 = t171 then (if bt191.2.1 = 7 then (if bt191.2.2.1 = 5 then (if bt191.2.2.2 = 0 then (if bt195.2.2.2 = 3 then (if bt199.2.2.2 = 3 then (if bt203.2.2.2 = 2 then (if bt207.1 = t170 then (if bt207.2.1 = 0 then (if bt207.2.2.1 = 6 then (if bt207.2.2.2 = 0 then (if 0 < (y184.length : Int) then (if 0 < ((rd_L5 y184 0).length : Int) then ((far_IsFar.f (rd (rd_L5 y184 0) 0)).bind fun t213 => (if t213 = true then ((far_IsFar.f t170).bind fun t214 => (some (!t214))) else (none))) else (none)) else (none)) else (none)) else (none)) else (none)) else (none)) else (none)) else (none)) else (none)) else (none)) else (none)) else (none)) else (none)) else (none)) else (none)) else (none)) else (none)))))))) = some r := by (have H2_ := (Option.bind_some _ _).symm.trans H; rw [hy184]; with_reducible exact H2_)
  have Ny184 := Aside0.mk hy184
  clear hy184
  replace H := Option.bind_eq_some_iff.mp H
  obtain ⟨⟨t187, t188, t189, t190⟩, A90, H⟩ := H
  dsimp only at H
  have A9 := Aside0.mk A90
  clear A90
  replace H := Option.bind_eq_some_iff.mp H
  obtain ⟨⟨t191, t192, t193, t194⟩, A100, H⟩ := H
  dsimp only at H
  have A10 := Aside0.mk A100
  clear A100
  replace H := Option.bind_eq_some_iff.mp H
  obtain ⟨⟨t195, t196, t197, t198⟩, A110, H⟩ := H
  dsimp only at H
  have A11 := Aside0.mk A110
  clear A110
  replace H := Option.bind_eq_some_iff.mp H
  obtain ⟨⟨t199, t200, t201, t202⟩, A120, H⟩ := H
  dsimp only at H
  have A12 := Aside0.mk A120
  clear A120
  replace H := Option.bind_eq_some_iff.mp H
  obtain ⟨⟨t203, t204, t205, t206⟩, A130, H⟩ := H
  dsimp only at H
  have A13 := Aside0.mk A130
  clear A130
  replace H := Option.bind_eq_some_iff.mp H
  obtain ⟨⟨t207, t208, t209, t210⟩, A140, H⟩ := H
  dsimp only at H
  have A14 := Aside0.mk A140
  clear A140
  by_cases c15 : t187 = t170
  · rw [if_pos c15] at H
    have c15b0 : (t187 == t170) = true := beq_iff_eq.mpr c15
    clear c15
    by_cases c16 : t188 = 1
    · rw [if_pos c16] at H
      have c16b0 : (t188 == 1) = true := beq_iff_eq.mpr c16
      clear c16
      by_cases c17 : t189 = 1
      · rw [if_pos c17] at H
        have c17b0 : (t189 == 1) = true := beq_iff_eq.mpr c17
        clear c17
        by_cases c18 : t190 = 0
        · rw [if_pos c18] at H
          have c18b0 : (t190 == 0) = true := beq_iff_eq.mpr c18
          clear c18
          by_cases c19 : t191 = t171
          · rw [if_pos c19] at H
            have c19b0 : (t191 == t171) = true := beq_iff_eq.mpr c19
            clear c19
            by_cases c20 : t192 = 7
            · rw [if_pos c20] at H
              have c20b0 : (t192 == 7) = true := beq_iff_eq.mpr c20
              clear c20
              by_cases c21 : t193 = 5
              · rw [if_pos c21] at H
                have c21b0 : (t193 == 5) = true := beq_iff_eq.mpr c21
                clear c21
                by_cases c22 : t194 = 0
                · rw [if_pos c22] at H
                  have c22b0 : (t194 == 0) = true := beq_iff_eq.mpr c22
                  clear c22
                  by_cases c23 : t198 = 3
                  · rw [if_pos c23] at H
                    have c23b0 : (t198 == 3) = true := beq_iff_eq.mpr c23
                    clear c23
                    by_cases c24 : t202 = 3
                    · rw [if_pos c24] at H
                      have c24b0 : (t202 == 3) = true := beq_iff_eq.mpr c24
                      clear c24
                      by_cases c25 : t206 = 2
                      · rw [if_pos c25] at H
                        have c25b0 : (t206 == 2) = true := beq_iff_eq.mpr c25
                        clear c25
                        by_cases c26 : t207 = t170
                        · rw [if_pos c26] at H
                          have c26b0 : (t207 == t170) = true := beq_iff_eq.mpr c26
                          clear c26
                          by_cases c27 : t208 = 0
                          · rw [if_pos c27] at H
                            have c27b0 : (t208 == 0) = true := beq_iff_eq.mpr c27
                            clear c27
                            by_cases c28 : t209 = 6
                            · rw [if_pos c28] at H
                              have c28b0 : (t209 == 6) = true := beq_iff_eq.mpr c28
                              clear c28
                              by_cases c29 : t210 = 0
                              · rw [if_pos c29] at H
                                have c29b0 : (t210 == 0) = true := beq_iff_eq.mpr c29
                                clear c29
                                by_cases c30 : 0 < (y184.length : Int)
                                · rw [if_pos c30] at H
                                  have c30b0 : decide (0 < (y184.length : Int)) = true := decide_eq_true c30
                                  clear c30
                                  by_cases c31 : 0 < ((rd_L5 y184 0).length : Int)
                                  · rw [if_pos c31] at H
                                    have c31b0 : decide (0 < ((rd_L5 y184 0).length : Int)) = true := decide_eq_true c31
                                    clear c31
                                    replace H := Option.bind_eq_some_iff.mp H
                                    obtain ⟨t213, A320, H⟩ := H
                                    replace H : (if t213 = true then ((far_IsFar.f t170).bind fun t214 => (some (!t214))) else (none)) = some r := H
                                    have A32 := Aside0.mk A320
                                    clear A320
                                    by_cases c33 : t213 = true
                                    · subst c33
                                      have H1 : ((far_IsFar.f t170).bind fun t214 => (some (!t214))) = some r := by rw [if_pos rfl] at H; exact H
                                      clear H
                                      have H := H1
                                      clear H1
                                      replace H := Option.bind_eq_some_iff.mp H
                                      obtain ⟨t214, A340, H⟩ := H
                                      replace H : (some (!t214)) = some r := H
                                      have A34 := Aside0.mk A340
                                      clear A340
                                      obtain rfl := Option.some.inj H
                                      go_enter Tryd.func12, Tryd.ntmps12
                                      go_wp2_with (first | ((with_reducible refine gate_callee (f := 20) rfl ?_); refine goesL_ (some 29) rfl rfl Tryd.func20 (by kernel_rfl) rfl #[.agg #[.int .i64 0, .int .i64 3, .int .i64 1, .int .i64 0, .int .i64 0, .int .i64 0, .bool false, .int .i64 0, .int .u32 0, .int .u32 0]] rfl (by (try simp only [List.map_toArray, List.map_cons, List.map_nil]); rfl) ?_; (with_reducible refine (capnplaw07_word.calls k 0 3 1 0 0 0 false 0 0 0 t170 _ A1.out).mono ?_); rintro e w35 ⟨rfl, hb⟩; refine ⟨_, rfl, ?_⟩; have n0_ := Aside0.mk (below_step HB.out hb); clear HB; have HB := n0_; (try clear n0_); (try clear hb); (skip); (skip); (skip)) | ((with_reducible refine gate_callee (f := 20) rfl ?_); refine goesL_ (some 31) rfl rfl Tryd.func20 (by kernel_rfl) rfl #[.agg #[.int .i64 0, .int .i64 0, .int .i64 2, .int .i64 0, .int .i64 0, .int .i64 0, .bool false, .int .i64 0, .int .u32 0, .int .u32 0]] rfl (by (try simp only [List.map_toArray, List.map_cons, List.map_nil]); rfl) ?_; (with_reducible refine (capnplaw07_word.calls k 0 0 2 0 0 0 false 0 0 0 t171 _ A2.out).mono ?_); rintro e w36 ⟨rfl, hb⟩; refine ⟨_, rfl, ?_⟩; have n0_ := Aside0.mk (below_step HB.out hb); clear HB; have HB := n0_; (try clear n0_); (try clear hb); (skip); (skip); (skip)) | ((with_reducible refine gate_callee (f := 20) rfl ?_); refine goesL_ (some 33) rfl rfl Tryd.func20 (by kernel_rfl) rfl #[.agg #[.int .i64 2, .int .i64 0, .int .i64 0, .int .i64 0, .int .i64 0, .int .i64 0, .bool false, .int .i64 0, .int .u32 1, .int .u32 0]] rfl (by (try simp only [List.map_toArray, List.map_cons, List.map_nil]); rfl) ?_; (with_reducible refine (capnplaw07_word.calls k 2 0 0 0 0 0 false 0 1 0 t172 _ A3.out).mono ?_); rintro e w37 ⟨rfl, hb⟩; refine ⟨_, rfl, ?_⟩; have n0_ := Aside0.mk (below_step HB.out hb); clear HB; have HB := n0_; (try clear n0_); (try clear hb); (skip); (skip); (skip)) | ((with_reducible refine gate_callee (f := 20) rfl ?_); refine goesL_ (some 35) rfl rfl Tryd.func20 (by kernel_rfl) rfl #[.agg #[.int .i64 2, .int .i64 0, .int .i64 0, .int .i64 0, .int .i64 0, .int .i64 0, .bool true, .int .i64 1, .int .u32 1, .int .u32 0]] rfl (by (try simp only [List.map_toArray, List.map_cons, List.map_nil]); rfl) ?_; (with_reducible refine (capnplaw07_word.calls k 2 0 0 0 0 0 true 1 1 0 t173 _ A4.out).mono ?_); rintro e w38 ⟨rfl, hb⟩; refine ⟨_, rfl, ?_⟩; have n0_ := Aside0.mk (below_step HB.out hb); clear HB; have HB := n0_; (try clear n0_); (try clear hb); (skip); (skip); (skip)) | ((with_reducible refine gate_callee (f := 20) rfl ?_); refine goesL_ (some 37) rfl rfl Tryd.func20 (by kernel_rfl) rfl #[.agg #[.int .i64 2, .int .i64 0, .int .i64 0, .int .i64 0, .int .i64 0, .int .i64 0, .bool false, .int .i64 0, .int .u32 0, .int .u32 0]] rfl (by (try simp only [List.map_toArray, List.map_cons, List.map_nil]); rfl) ?_; (with_reducible refine (capnplaw07_word.calls k 2 0 0 0 0 0 false 0 0 0 t174 _ A5.out).mono ?_); rintro e w39 ⟨rfl, hb⟩; refine ⟨_, rfl, ?_⟩; have n0_ := Aside0.mk (below_step HB.out hb); clear HB; have HB := n0_; (try clear n0_); (try clear hb); (skip); (skip); (skip)) | ((with_reducible refine gate_callee (f := 20) rfl ?_); refine goesL_ (some 39) rfl rfl Tryd.func20 (by kernel_rfl) rfl #[.agg #[.int .i64 2, .int .i64 0, .int .i64 0, .int .i64 0, .int .i64 0, .int .i64 0, .bool true, .int .i64 0, .int .u32 1, .int .u32 0]] rfl (by (try simp only [List.map_toArray, List.map_cons, List.map_nil]); rfl) ?_; (with_reducible refine (capnplaw07_word.calls k 2 0 0 0 0 0 true 0 1 0 t175 _ A6.out).mono ?_); rintro e w40 ⟨rfl, hb⟩; refine ⟨_, rfl, ?_⟩; have n0_ := Aside0.mk (below_step HB.out hb); clear HB; have HB := n0_; (try clear n0_); (try clear hb); (skip); (skip); (skip)) | ((with_reducible refine gate_callee (f := 20) rfl ?_); refine goesL_ (some 41) rfl rfl Tryd.func20 (by kernel_rfl) rfl #[.agg #[.int .i64 2, .int .i64 0, .int .i64 0, .int .i64 0, .int .i64 0, .int .i64 0, .bool false, .int .i64 0, .int .u32 9, .int .u32 0]] rfl (by (try simp only [List.map_toArray, List.map_cons, List.map_nil]); rfl) ?_; (with_reducible refine (capnplaw07_word.calls k 2 0 0 0 0 0 false 0 9 0 t176 _ A7.out).mono ?_); rintro e w41 ⟨rfl, hb⟩; refine ⟨_, rfl, ?_⟩; have n0_ := Aside0.mk (below_step HB.out hb); clear HB; have HB := n0_; (try clear n0_); (try clear hb); (skip); (skip); (skip)) | ((with_reducible refine gate_dst (N := 43) rfl ?_); refine Kd.R_lit (Kd.int .u64) _ 23 ?hg (N := 43) ?hd (xs := ([t172, t173, t174, t175, t176, t170] : List Int)) (inner := [.int .u64 t172, .int .u64 t173, .int .u64 t174, .int .u64 t175, .int .u64 t176, .int .u64 t170]) (ok := fun _ => True) (okp := fun _ => True) ?hr ?hp (fun _ hk => hk) trivial (Below.refl _ _) (Nat.le_refl _) (by simp) ?_; (case hd => rfl); (case hg => rfl); (case hr => (go_simp; done)); (case hp => exact (Reps.one (show Kd.M (Kd.int .u64) _ _ _ t172 [.int .u64 t172] from rfl) (Reps.one (show Kd.M (Kd.int .u64) _ _ _ t173 [.int .u64 t173] from rfl) (Reps.one (show Kd.M (Kd.int .u64) _ _ _ t174 [.int .u64 t174] from rfl) (Reps.one (show Kd.M (Kd.int .u64) _ _ _ t175 [.int .u64 t175] from rfl) (Reps.one (show Kd.M (Kd.int .u64) _ _ _ t176 [.int .u64 t176] from rfl) (Reps.one (show Kd.M (Kd.int .u64) _ _ _ t170 [.int .u64 t170] from rfl) (Reps.none _ _)))))))); intro v178 w42 ho43 hb hg_ hnew_; clear hg_ hnew_; ((rw [← Ny177.out] at ho43)); have n0_ := Aside0.mk (Kd.R_lower ho43 (below_size HB.out)); have n1_ := Aside0.mk (below_step HB.out hb); clear HB; have HO179 := n0_; have HB := n1_; (try clear n0_; try clear n1_); clear hb ho43) | ((with_reducible refine gate_callee (f := 20) rfl ?_); refine goesL_ (some 46) rfl rfl Tryd.func20 (by kernel_rfl) rfl #[.agg #[.int .i64 2, .int .i64 0, .int .i64 0, .int .i64 0, .int .i64 0, .int .i64 0, .bool false, .int .i64 5, .int .u32 7, .int .u32 0]] rfl (by (try simp only [List.map_toArray, List.map_cons, List.map_nil]); rfl) ?_; (with_reducible refine (capnplaw07_word.calls k 2 0 0 0 0 0 false 5 7 0 t180 _ A8.out).mono ?_); rintro e w44 ⟨rfl, hb⟩; refine ⟨_, rfl, ?_⟩; have n0_ := Aside0.mk (Kd.R_below HO179.out hb); have n1_ := Aside0.mk (below_step HB.out hb); clear HO179; clear HB; have HO179 := n0_; have HB := n1_; (try clear n0_; try clear n1_); (try clear hb); (skip); (skip); (skip)) | ((with_reducible refine gate_dst (N := 48) rfl ?_); refine Kd.R_lit (Kd.int .u64) _ 23 ?hg (N := 48) ?hd (xs := ([t170, t180, t171] : List Int)) (inner := [.int .u64 t170, .int .u64 t180, .int .u64 t171]) (ok := fun _ => True) (okp := fun _ => True) ?hr ?hp (fun _ hk => hk) trivial (Below.refl _ _) (Nat.le_refl _) (by simp) ?_; (case hd => rfl); (case hg => rfl); (case hr => (go_simp; done)); (case hp => exact (Reps.one (show Kd.M (Kd.int .u64) _ _ _ t170 [.int .u64 t170] from rfl) (Reps.one (show Kd.M (Kd.int .u64) _ _ _ t180 [.int .u64 t180] from rfl) (Reps.one (show Kd.M (Kd.int .u64) _ _ _ t171 [.int .u64 t171] from rfl) (Reps.none _ _))))); intro v182 w45 ho46 hb hg_ hnew_; clear hg_ hnew_; ((rw [← Ny181.out] at ho46)); have n0_ := Aside0.mk (Kd.R_elder' HO179.out (Kd.R_base ho46) hb); have n1_ := Aside0.mk (Kd.R_lower (Kd.R_new' ho46 (Kd.R_lt HO179.out)) (below_size HB.out)); have n2_ := Aside0.mk (below_step HB.out hb); clear HO179; clear HB; have HO179 := n0_; have HO183 := n1_; have HB := n2_; (try clear n0_; try clear n1_; try clear n2_); clear hb ho46; obtain ⟨Ao47, co47, eo47⟩ := Kd.R_slice HO179.out; subst eo47; obtain ⟨Ao48, co48, eo48⟩ := Kd.R_slice HO183.out; subst eo48) | ((with_reducible refine gate_dst (N := 49) rfl ?_); refine Kd.N_lit (Kd.slice 23 (Kd.int .u64)) _ 40 ?hg (N' := 49) ?hd (xs := ([y177, y181] : List (List Int))) (inner := [.slice Ao47 y177.length co47, .slice Ao48 y181.length co48]) (ok := (fun _ => True)) (okp := (fun _ => True)) ?hr ?hp (fun _ hk => hk) ((show ∀ k_, w45.heap.size ≤ k_ → (fun _ => True) k_ from fun k_ hk => trivial) _ (Nat.le_refl _)) (Below.refl _ _) (Nat.le_refl _) (by simp) ?_; (case hd => rfl); (case hg => rfl); (case hr => (go_simp; done)); (case hp => exact (Reps.one (show Kd.FK (Kd.slice 23 (Kd.int .u64)) _ _ y177 [.slice Ao47 y177.length co47] from (Kd.FK_slice_mk (Kd.R_reads' (Kd.R_mono (ok' := (fun _ => True)) (HO179.out) (fun k_ hk => trivial))).2.1 (Kd.R_F (Kd.R_mono (ok' := (fun _ => True)) (HO179.out) (fun k_ hk => trivial))))) (Reps.one (show Kd.FK (Kd.slice 23 (Kd.int .u64)) _ _ y181 [.slice Ao48 y181.length co48] from (Kd.FK_slice_mk (Kd.R_reads' (Kd.R_mono (ok' := (fun _ => True)) (HO183.out) (fun k_ hk => trivial))).2.1 (Kd.R_F (Kd.R_mono (ok' := (fun _ => True)) (HO183.out) (fun k_ hk => trivial))))) (Reps.none _ _)))); intro v185 w49 ho50 hb hg_ hnew_; clear hg_ hnew_; ((rw [← Ny184.out] at ho50)); have n0_ := Aside0.mk (Kd.N_lower ho50 (below_size HB.out)); have n1_ := Aside0.mk (below_step HB.out hb); clear HB; clear HO179; clear HO183; have HO186 := n0_; have HB := n1_; (try clear n0_; try clear n1_); clear hb ho50; obtain ⟨Ao51, co51, eo51⟩ := Kd.N_slice HO186.out; subst eo51) | ((with_reducible refine gate_callee (f := 14) rfl ?_); refine goesL_ (some 52) rfl rfl Tryd.func14 (by kernel_rfl) rfl #[.slice Ao51 y184.length co51, .int .i64 0, .int .i64 0] rfl (by (try simp only [List.map_toArray, List.map_cons, List.map_nil]); rfl) ?_; (with_reducible refine (far_Follow.calls (gb := gb) _ _ y184 0 0 t187 t188 t189 t190 _ ?side1 ?side2 ?side3 A9.out).mono ?_); (case side1 => exact Glob.below HG.out HB.out); (case side2 => repeat ((exact (Kd.N_reads' HO186.out).2.2))); (case side3 => exact (Kd.N_reads' HO186.out).2.1); rintro e w52 ⟨rfl, hb⟩; refine ⟨_, rfl, ?_⟩; have n0_ := Aside0.mk (Kd.N_below HO186.out hb); have n1_ := Aside0.mk (below_step HB.out hb); (try clear HO186); clear HB; have HO186 := n0_; have HB := n1_; (try clear n0_; try clear n1_); (try clear hb); (skip); (skip); (skip)) | ((with_reducible refine gate_callee (f := 14) rfl ?_); refine goesL_ (some 59) rfl rfl Tryd.func14 (by kernel_rfl) rfl #[.slice Ao51 y184.length co51, .int .i64 0, .int .i64 1] rfl (by (try simp only [List.map_toArray, List.map_cons, List.map_nil]); rfl) ?_; (with_reducible refine (far_Follow.calls (gb := gb) _ _ y184 0 1 t191 t192 t193 t194 _ ?side1 ?side2 ?side3 A10.out).mono ?_); (case side1 => exact Glob.below HG.out HB.out); (case side2 => repeat ((exact (Kd.N_reads' HO186.out).2.2))); (case side3 => exact (Kd.N_reads' HO186.out).2.1); rintro e w53 ⟨rfl, hb⟩; refine ⟨_, rfl, ?_⟩; have n0_ := Aside0.mk (Kd.N_below HO186.out hb); have n1_ := Aside0.mk (below_step HB.out hb); (try clear HO186); clear HB; have HO186 := n0_; have HB := n1_; (try clear n0_; try clear n1_); (try clear hb); (skip); (skip); (skip)) | ((with_reducible refine gate_callee (f := 14) rfl ?_); refine goesL_ (some 66) rfl rfl Tryd.func14 (by kernel_rfl) rfl #[.slice Ao51 y184.length co51, .int .i64 0, .int .i64 2] rfl (by (try simp only [List.map_toArray, List.map_cons, List.map_nil]); rfl) ?_; (with_reducible refine (far_Follow.calls (gb := gb) _ _ y184 0 2 t195 t196 t197 t198 _ ?side1 ?side2 ?side3 A11.out).mono ?_); (case side1 => exact Glob.below HG.out HB.out); (case side2 => repeat ((exact (Kd.N_reads' HO186.out).2.2))); (case side3 => exact (Kd.N_reads' HO186.out).2.1); rintro e w54 ⟨rfl, hb⟩; refine ⟨_, rfl, ?_⟩; have n0_ := Aside0.mk (Kd.N_below HO186.out hb); have n1_ := Aside0.mk (below_step HB.out hb); (try clear HO186); clear HB; have HO186 := n0_; have HB := n1_; (try clear n0_; try clear n1_); (try clear hb); (skip); (skip); (skip)) | ((with_reducible refine gate_callee (f := 14) rfl ?_); refine goesL_ (some 73) rfl rfl Tryd.func14 (by kernel_rfl) rfl #[.slice Ao51 y184.length co51, .int .i64 0, .int .i64 3] rfl (by (try simp only [List.map_toArray, List.map_cons, List.map_nil]); rfl) ?_; (with_reducible refine (far_Follow.calls (gb := gb) _ _ y184 0 3 t199 t200 t201 t202 _ ?side1 ?side2 ?side3 A12.out).mono ?_); (case side1 => exact Glob.below HG.out HB.out); (case side2 => repeat ((exact (Kd.N_reads' HO186.out).2.2))); (case side3 => exact (Kd.N_reads' HO186.out).2.1); rintro e w55 ⟨rfl, hb⟩; refine ⟨_, rfl, ?_⟩; have n0_ := Aside0.mk (Kd.N_below HO186.out hb); have n1_ := Aside0.mk (below_step HB.out hb); (try clear HO186); clear HB; have HO186 := n0_; have HB := n1_; (try clear n0_; try clear n1_); (try clear hb); (skip); (skip); (skip)) | ((with_reducible refine gate_callee (f := 14) rfl ?_); refine goesL_ (some 80) rfl rfl Tryd.func14 (by kernel_rfl) rfl #[.slice Ao51 y184.length co51, .int .i64 0, .int .i64 4] rfl (by (try simp only [List.map_toArray, List.map_cons, List.map_nil]); rfl) ?_; (with_reducible refine (far_Follow.calls (gb := gb) _ _ y184 0 4 t203 t204 t205 t206 _ ?side1 ?side2 ?side3 A13.out).mono ?_); (case side1 => exact Glob.below HG.out HB.out); (case side2 => repeat ((exact (Kd.N_reads' HO186.out).2.2))); (case side3 => exact (Kd.N_reads' HO186.out).2.1); rintro e w56 ⟨rfl, hb⟩; refine ⟨_, rfl, ?_⟩; have n0_ := Aside0.mk (Kd.N_below HO186.out hb); have n1_ := Aside0.mk (below_step HB.out hb); (try clear HO186); clear HB; have HO186 := n0_; have HB := n1_; (try clear n0_; try clear n1_); (try clear hb); (skip); (skip); (skip)) | ((with_reducible refine gate_callee (f := 14) rfl ?_); refine goesL_ (some 87) rfl rfl Tryd.func14 (by kernel_rfl) rfl #[.slice Ao51 y184.length co51, .int .i64 0, .int .i64 5] rfl (by (try simp only [List.map_toArray, List.map_cons, List.map_nil]); rfl) ?_; (with_reducible refine (far_Follow.calls (gb := gb) _ _ y184 0 5 t207 t208 t209 t210 _ ?side1 ?side2 ?side3 A14.out).mono ?_); (case side1 => exact Glob.below HG.out HB.out); (case side2 => repeat ((exact (Kd.N_reads' HO186.out).2.2))); (case side3 => exact (Kd.N_reads' HO186.out).2.1); rintro e w57 ⟨rfl, hb⟩; refine ⟨_, rfl, ?_⟩; have n0_ := Aside0.mk (Kd.N_below HO186.out hb); have n1_ := Aside0.mk (below_step HB.out hb); (try clear HO186); clear HB; have HO186 := n0_; have HB := n1_; (try clear n0_; try clear n1_); (try clear hb); (skip); (skip); (skip); have p211 : 0 ≤ (0 : Int) := (by omega); have q211 : 0 < (y184.length : Int) := of_decide_eq_true (by (with_reducible assumption)); obtain ⟨ad211, A211_0, c211_0, e211, hx211_0, hl211_0, hi211_0⟩ := at_L5 (Kd.N_reads' HO186.out).2.2 0 p211 q211; cases e211; obtain ⟨ce211, hce211, hMe211, hcc211⟩ := Kd.N_get HO186.out [] 0 p211 q211; obtain ⟨ua211_0, uc211_0, rfl, ul211_0, ge211_0⟩ := Kd.FK_slice_open hMe211; have hv211_0 := hcc211 0 _ rfl; rw [Nat.add_zero, show ((Kd.slice 23 (Kd.int .u64))).sz = 1 from rfl, Nat.mul_one] at hv211_0; replace hv211_0 := Option.some.inj (hv211_0.symm.trans hx211_0); injection hv211_0 with hva_ hvn_ hvc_; rw [hva_] at ge211_0; rw [hvc_] at ul211_0; have HL211_0 := Aside0.mk (show Kd.V (Kd.int .u64) 23 _ w.heap.size _ _ (rd_L5 y184 0) from Kd.V_mk ul211_0 ge211_0); clear hva_ hvn_ hvc_ ge211_0 ul211_0; clear hcc211 hce211; have qi211 : (0 < y184.length) = True := eq_true (by omega); (try rw [show ((0 : Int)).toNat = 0 from rfl] at hx211_0); (try rw [Addr.add_zero'] at hx211_0); have HR211_0 := Aside0.mk hi211_0; clear hi211_0 hl211_0; replace p211 := eq_true p211; replace q211 := eq_true q211; have p212 : 0 ≤ (0 : Int) := (by omega); have q212 : 0 < ((rd_L5 y184 0).length : Int) := of_decide_eq_true (by (with_reducible assumption)); obtain ⟨ad212, e212, hx212_0⟩ := Kd.at_int (by repeat ((with_reducible exact HR211_0.out))) 0 p212 q212; cases e212; have qi212 : (0 < (rd_L5 y184 0).length) = True := eq_true (by omega); (try rw [show ((0 : Int)).toNat = 0 from rfl] at hx212_0); (try rw [Addr.add_zero'] at hx212_0); replace p212 := eq_true p212; replace q212 := eq_true q212) | (go_at_call 16; (with_reducible refine (far_IsFar.calls (gb := gb) (rd (rd_L5 y184 0) 0) true _ ?side1 A32.out).mono ?_); (case side1 => exact Glob.below HG.out HB.out); rintro e w58 ⟨rfl, hb⟩; have n3_ := Aside0.mk (below_step HB.out hb); (try clear HO186); (try clear HL211_0); (try clear HR211_0); clear HB; have HB := n3_; (try clear n0_; try clear n1_; try clear n2_; try clear n3_); (try clear hb); (skip); (skip); (skip)) | (go_at_call 16; (with_reducible refine (far_IsFar.calls (gb := gb) t170 t214 _ ?side1 A34.out).mono ?_); (case side1 => exact Glob.below HG.out HB.out); rintro e w59 ⟨rfl, hb⟩; have n3_ := Aside0.mk (below_step HB.out hb); (try clear HO186); (try clear HL211_0); (try clear HR211_0); clear HB; have HB := n3_; (try clear n0_; try clear n1_; try clear n2_; try clear n3_); (try clear hb); (skip); (skip); (skip)))
                                      go_ret
                                      exact ⟨by rfl, by repeat ((with_reducible exact HB.out))⟩
                                    · replace c33 := Bool.eq_false_iff.mpr c33
                                      subst c33
                                      have H1 : (none) = some r := by rw [if_neg (show ¬ (false = true) by decide)] at H; exact H
                                      clear H
                                      have H := H1
                                      clear H1
                                      exact absurd H (by simp)
                                  · rw [if_neg c31] at H
                                    exact absurd H (by simp)
                                · rw [if_neg c30] at H
                                  exact absurd H (by simp)
                              · rw [if_neg c29] at H
                                exact absurd H (by simp)
                            · rw [if_neg c28] at H
                              exact absurd H (by simp)
                          · rw [if_neg c27] at H
                            exact absurd H (by simp)
                        · rw [if_neg c26] at H
                          exact absurd H (by simp)
                      · rw [if_neg c25] at H
                        exact absurd H (by simp)
                    · rw [if_neg c24] at H
                      exact absurd H (by simp)
                  · rw [if_neg c23] at H
                    exact absurd H (by simp)
                · rw [if_neg c22] at H
                  exact absurd H (by simp)
              · rw [if_neg c21] at H
                exact absurd H (by simp)
            · rw [if_neg c20] at H
              exact absurd H (by simp)
          · rw [if_neg c19] at H
            exact absurd H (by simp)
        · rw [if_neg c18] at H
          exact absurd H (by simp)
      · rw [if_neg c17] at H
        exact absurd H (by simp)
    · rw [if_neg c16] at H
      exact absurd H (by simp)
  · rw [if_neg c15] at H
    exact absurd H (by simp)

end Go.Proofs.YtcjhejopcghgnaaDoor.P

set_option linter.unusedVariables false
namespace Go.Proofs.YtcjhejopcghgnaaDoor.P
open Go.RowKit Go.Proofs.YtcjhejopcghgnaaDoorW.PrintWords Go.Proofs.YtcjhejopcghgnaaDoorW.PrintLast Go.Proofs.YtcjhejopcghgnaaDoorW.PrintMore
theorem wrap_u64_any (x : Int) : IntKind.u64.wrap x = x % 18446744073709551616 := by simp [IntKind.wrap, IntKind.bits, IntKind.signed]
theorem wrap_u64 {x : Int} (h : 0 ≤ x ∧ x < 18446744073709551616) : IntKind.u64.wrap x = x := by rw [wrap_u64_any]; omega
theorem wrap64_id {x : Int} (h : -9223372036854775808 ≤ x ∧ x < 9223372036854775808) : wrap64 x = x := by unfold wrap64; omega
/-- A list of words that a slice can hold; a list of segments. -/
def Words (xs : List Int) : Prop := xs.length ≤ 9223372036854775807 ∧ ∀ x ∈ xs, 0 ≤ x ∧ x ≤ 18446744073709551615
def Bytes (xs : List Int) : Prop := xs.length ≤ 9223372036854775807 ∧ ∀ x ∈ xs, 0 ≤ x ∧ x ≤ 255
def Segs (l : List (List Int)) : Prop := l.length ≤ 9223372036854775807 ∧ ∀ s ∈ l, Words s
end Go.Proofs.YtcjhejopcghgnaaDoor.P

namespace Go.Proofs.YtcjhejopcghgnaaDoor.P
open Go.RowKit Go.Proofs.YtcjhejopcghgnaaDoorW.PrintWords Go.Proofs.YtcjhejopcghgnaaDoorW.PrintLast Go.Proofs.YtcjhejopcghgnaaDoorW.PrintMore
attribute [local go_sem] max2_int min2_int max_two min_two max_three min_three max_four min_four   -- for this text's walks alone
set_option linter.unusedVariables false
set_option linter.unusedSimpArgs false

variable {gb : Bool}
/-! ### capnpref01_SameWords: function 40 -/
def capnpref01_SameWords.l0 : Nat → List Int → List Int → Int → Option (Bool)
  | 0, _, _, _ => none
  | k + 1, x0, x1, x5 => if x5 < (x0.length : Int) then (if 0 ≤ x5 then (if x5 < (x1.length : Int) then (if (rd x0 x5) = (rd x1 x5) then (capnpref01_SameWords.l0 k x0 x1 (wrap64 (x5 + 1))) else (some false)) else (none)) else (none)) else (some true)
def capnpref01_SameWords.f (k : Nat) (l0 l1 : List Int) : Option (Bool) := if (l0.length : Int) = (l1.length : Int) then (capnpref01_SameWords.l0 k l0 l1 0) else (some false)
theorem capnpref01_SameWords.mono_l : ∀ k, (∀ y0 y1 y2, LeO (capnpref01_SameWords.l0 k y0 y1 y2) (capnpref01_SameWords.l0 (k + 1) y0 y1 y2))
  | 0 => fun _ _ _ r h => by simp [capnpref01_SameWords.l0] at h
  | k + 1 => by
    have ih0 := capnpref01_SameWords.mono_l k
    · intro y0 y1 y2
      unfold capnpref01_SameWords.l0
      repeat' first
      | (with_reducible apply ih0)
      | (with_reducible exact LeO.refl _)
      | (with_reducible refine LeO.ite ?_ ?_)
theorem capnpref01_SameWords.mono : ∀ a0 a1 k, LeO (capnpref01_SameWords.f k a0 a1) (capnpref01_SameWords.f (k + 1) a0 a1) := by
  intro a0 a1 k
  have ih0 := capnpref01_SameWords.mono_l k
  unfold capnpref01_SameWords.f
  repeat' first
      | (with_reducible apply ih0)
      | (with_reducible exact LeO.refl _)
      | (with_reducible refine LeO.ite ?_ ?_)
set_option maxHeartbeats 8000000 in
set_option maxRecDepth 100000 in
theorem capnpref01_SameWords.calls (k : Nat) (A0 : Option Addr) (c0 : Nat) (l0 : List Int) (A1 : Option Addr) (c1 : Nat) (l1 : List Int) (r : Bool) (w : World) (hr0 : Kd.C (Kd.int .u64) w A0 l0.length l0) (hc0 : l0.length ≤ c0) (hr1 : Kd.C (Kd.int .u64) w A1 l1.length l1) (hc1 : l1.length ≤ c1) (h : capnpref01_SameWords.f k l0 l1 = some r) :
    Calls Tryd.prog 40 #[.slice A0 l0.length c0, .slice A1 l1.length c1] w fun e w' => e = .returned (.bool r) ∧ Drawn0 w w' := by
  have HR0 := Aside0.mk hr0
  clear hr0 hc0
  have HR1 := Aside0.mk hr1
  clear hr1 hc1
  have H : (if (l0.length : Int) = (l1.length : Int) then (capnpref01_SameWords.l0 k l0 l1 0) else (some false)) = some r := h
  clear h
  by_cases c3 : (l0.length : Int) = (l1.length : Int)
  · rw [if_pos c3] at H
    have c3b1 : ((l0.length : Int) != (l1.length : Int)) = false := bne_eq_false_iff_eq.mpr c3
    clear c3
    have H' := Aside0.mk H
    clear H
    go_enter Tryd.func40, Tryd.ntmps40
    go_wp2
    repeat (go_quiet (fail); try go_wp2)
    go_loopg [5] k (fun kq v5 w' => ∃ (x5_1 : Int), v5 = .int .i64 x5_1 ∧ Aside0 (capnpref01_SameWords.l0 kq l0 l1 x5_1 = some r) ∧ Aside0 (kq ≤ k) ∧ Drawn0 w w')
    case atStart => exact ⟨(0), (by rfl), H', ⟨Nat.le_refl _⟩, by repeat (exact Drawn0.refl _)⟩
    case round =>
      clear H'
      skip
      skip
      skip
      try clear c3b0
      try clear c3b1
      try clear c3b2
      obtain ⟨x5_1, rfl, HA, HK1, ⟨m1, rfl⟩⟩ := hrel
      cases gk with
      | zero => exact absurd HA.out (by simp [capnpref01_SameWords.l0])
      | succ k1 =>
        have H := HA.out
        clear HA
        simp only [capnpref01_SameWords.l0] at H
        by_cases c4 : x5_1 < (l0.length : Int)
        · rw [if_pos c4] at H
          have c4b0 : decide (x5_1 < (l0.length : Int)) = true := decide_eq_true c4
          clear c4
          by_cases c5 : 0 ≤ x5_1
          · rw [if_pos c5] at H
            have c5b0 : decide (0 ≤ x5_1) = true := decide_eq_true c5
            clear c5
            by_cases c6 : x5_1 < (l1.length : Int)
            · rw [if_pos c6] at H
              have c6b0 : decide (x5_1 < (l1.length : Int)) = true := decide_eq_true c6
              clear c6
              by_cases c7 : (rd l0 x5_1) = (rd l1 x5_1)
              · rw [if_pos c7] at H
                have c7b1 : ((rd l0 x5_1) != (rd l1 x5_1)) = false := bne_eq_false_iff_eq.mpr c7
                clear c7
                have H' := Aside0.mk H
                clear H
                have p305 : 0 ≤ (x5_1 : Int) := of_decide_eq_true (by (with_reducible assumption))
                have q305 : x5_1 < (l0.length : Int) := of_decide_eq_true (by (with_reducible assumption))
                obtain ⟨ad305, e305, hx305_0⟩ := Kd.at_int HR0.out x5_1 p305 q305
                cases e305
                replace p305 := eq_true p305
                replace q305 := eq_true q305
                have p306 : 0 ≤ (x5_1 : Int) := of_decide_eq_true (by (with_reducible assumption))
                have q306 : x5_1 < (l1.length : Int) := of_decide_eq_true (by (with_reducible assumption))
                obtain ⟨ad306, e306, hx306_0⟩ := Kd.at_int HR1.out x5_1 p306 q306
                cases e306
                replace p306 := eq_true p306
                replace q306 := eq_true q306
                go_wp2
                repeat (go_quiet (fail); try go_wp2)
                go_roundg k1
                case measure => omega
                case rel => exact ⟨(wrap64 (x5_1 + 1)), (by rfl), H', ⟨by have := HK1.out; omega⟩, by repeat (first | exact Drawn0.refl _ | apply Drawn0.step)⟩
              · rw [if_neg c7] at H
                have c7b1 : ((rd l0 x5_1) != (rd l1 x5_1)) = true := bne_iff_ne.mpr c7
                obtain rfl := Option.some.inj H
                have p305 : 0 ≤ (x5_1 : Int) := of_decide_eq_true (by (with_reducible assumption))
                have q305 : x5_1 < (l0.length : Int) := of_decide_eq_true (by (with_reducible assumption))
                obtain ⟨ad305, e305, hx305_0⟩ := Kd.at_int HR0.out x5_1 p305 q305
                cases e305
                replace p305 := eq_true p305
                replace q305 := eq_true q305
                have p306 : 0 ≤ (x5_1 : Int) := of_decide_eq_true (by (with_reducible assumption))
                have q306 : x5_1 < (l1.length : Int) := of_decide_eq_true (by (with_reducible assumption))
                obtain ⟨ad306, e306, hx306_0⟩ := Kd.at_int HR1.out x5_1 p306 q306
                cases e306
                replace p306 := eq_true p306
                replace q306 := eq_true q306
                go_wp2
                repeat (go_quiet (fail); try go_wp2)
                go_ret
                exact ⟨by rfl, by repeat (first | exact Drawn0.refl _ | apply Drawn0.step)⟩
            · rw [if_neg c6] at H
              exact absurd H (by simp)
          · rw [if_neg c5] at H
            exact absurd H (by simp)
        · rw [if_neg c4] at H
          have c4b0 : decide (x5_1 < (l0.length : Int)) = false := decide_eq_false c4
          clear c4
          obtain rfl := Option.some.inj H
          go_wp2
          repeat (go_quiet (fail); try go_wp2)
          go_ret
          exact ⟨by rfl, by repeat (first | exact Drawn0.refl _ | apply Drawn0.step)⟩
  · rw [if_neg c3] at H
    have c3b1 : ((l0.length : Int) != (l1.length : Int)) = true := bne_iff_ne.mpr c3
    obtain rfl := Option.some.inj H
    go_enter Tryd.func40, Tryd.ntmps40
    go_wp2
    repeat (go_quiet (fail); try go_wp2)
    go_ret
    exact ⟨by rfl, by repeat (exact Drawn0.refl _)⟩

end Go.Proofs.YtcjhejopcghgnaaDoor.P

namespace Go.Proofs.YtcjhejopcghgnaaDoor.P
open Go.RowKit Go.Proofs.YtcjhejopcghgnaaDoorW.PrintWords Go.Proofs.YtcjhejopcghgnaaDoorW.PrintLast Go.Proofs.YtcjhejopcghgnaaDoorW.PrintMore
attribute [local go_sem] max2_int min2_int max_two min_two max_three min_three max_four min_four   -- for this text's walks alone
set_option linter.unusedVariables false
set_option linter.unusedSimpArgs false

variable {gb : Bool}
/-! ### capnpref04_Few: function 13 -/
def capnpref04_Few.l0 : Nat → List (List Int) → Int → Option (Bool)
  | 0, _, _ => none
  | k + 1, x0, x3 => if x3 < (x0.length : Int) then (if 0 ≤ x3 then (if ((rd_L5 x0 x3).length : Int) > 300 then (some false) else (capnpref04_Few.l0 k x0 (wrap64 (x3 + 1)))) else (none)) else (some (decide ((x0.length : Int) ≤ 20)))
def capnpref04_Few.f (k : Nat) (l0 : List (List Int)) : Option (Bool) := capnpref04_Few.l0 k l0 0
theorem capnpref04_Few.mono_l : ∀ k, (∀ y0 y1, LeO (capnpref04_Few.l0 k y0 y1) (capnpref04_Few.l0 (k + 1) y0 y1))
  | 0 => fun _ _ r h => by simp [capnpref04_Few.l0] at h
  | k + 1 => by
    have ih0 := capnpref04_Few.mono_l k
    · intro y0 y1
      unfold capnpref04_Few.l0
      repeat' first
      | (with_reducible apply ih0)
      | (with_reducible exact LeO.refl _)
      | (with_reducible refine LeO.ite ?_ ?_)
theorem capnpref04_Few.mono : ∀ a0 k, LeO (capnpref04_Few.f k a0) (capnpref04_Few.f (k + 1) a0) := by
  intro a0 k
  have ih0 := capnpref04_Few.mono_l k
  unfold capnpref04_Few.f
  repeat' (with_reducible apply ih0)
set_option maxHeartbeats 8000000 in
set_option maxRecDepth 100000 in
theorem capnpref04_Few.calls (k : Nat) (A0 : Option Addr) (c0 : Nat) (l0 : List (List Int)) (r : Bool) (w : World) (hr0 : Kd.C (Kd.slice 23 (Kd.int .u64)) w A0 l0.length l0) (hc0 : l0.length ≤ c0) (h : capnpref04_Few.f k l0 = some r) :
    Calls Tryd.prog 13 #[.slice A0 l0.length c0] w fun e w' => e = .returned (.bool r) ∧ Drawn0 w w' := by
  have HR0 := Aside0.mk hr0
  clear hr0 hc0
  have H : (capnpref04_Few.l0 k l0 0) = some r := h
  clear h
  have H' := Aside0.mk H
  clear H
  go_enter Tryd.func13, Tryd.ntmps13
  go_wp2
  go_loopg [3] k (fun kq v3 w' => ∃ (x3_1 : Int), v3 = .int .i64 x3_1 ∧ Aside0 (capnpref04_Few.l0 kq l0 x3_1 = some r) ∧ Aside0 (kq ≤ k) ∧ Drawn0 w w')
  case atStart => exact ⟨(0), (by rfl), H', ⟨Nat.le_refl _⟩, by repeat (exact Drawn0.refl _)⟩
  case round =>
    clear H'
    skip
    obtain ⟨x3_1, rfl, HA, HK1, ⟨m1, rfl⟩⟩ := hrel
    cases gk with
    | zero => exact absurd HA.out (by simp [capnpref04_Few.l0])
    | succ k1 =>
      have H := HA.out
      clear HA
      simp only [capnpref04_Few.l0] at H
      by_cases c2 : x3_1 < (l0.length : Int)
      · rw [if_pos c2] at H
        have c2b0 : decide (x3_1 < (l0.length : Int)) = true := decide_eq_true c2
        clear c2
        by_cases c3 : 0 ≤ x3_1
        · rw [if_pos c3] at H
          have c3b0 : decide (0 ≤ x3_1) = true := decide_eq_true c3
          clear c3
          by_cases c4 : ((rd_L5 l0 x3_1).length : Int) > 300
          · rw [if_pos c4] at H
            have c4b0 : decide (300 < ((rd_L5 l0 x3_1).length : Int)) = true := decide_eq_true c4
            clear c4
            obtain rfl := Option.some.inj H
            have p215 : 0 ≤ (x3_1 : Int) := of_decide_eq_true (by (with_reducible assumption))
            have q215 : x3_1 < (l0.length : Int) := of_decide_eq_true (by (with_reducible assumption))
            obtain ⟨ad215, A215_0, c215_0, e215, hx215_0, hl215_0, hi215_0⟩ := at_L5 HR0.out x3_1 p215 q215
            cases e215
            clear hi215_0 hl215_0
            replace p215 := eq_true p215
            replace q215 := eq_true q215
            go_wp2
            go_ret
            exact ⟨by rfl, by repeat (first | exact Drawn0.refl _ | apply Drawn0.step)⟩
          · rw [if_neg c4] at H
            have c4b0 : decide (300 < ((rd_L5 l0 x3_1).length : Int)) = false := decide_eq_false c4
            clear c4
            have H' := Aside0.mk H
            clear H
            have p215 : 0 ≤ (x3_1 : Int) := of_decide_eq_true (by (with_reducible assumption))
            have q215 : x3_1 < (l0.length : Int) := of_decide_eq_true (by (with_reducible assumption))
            obtain ⟨ad215, A215_0, c215_0, e215, hx215_0, hl215_0, hi215_0⟩ := at_L5 HR0.out x3_1 p215 q215
            cases e215
            clear hi215_0 hl215_0
            replace p215 := eq_true p215
            replace q215 := eq_true q215
            go_wp2
            go_roundg k1
            case measure => omega
            case rel => exact ⟨(wrap64 (x3_1 + 1)), (by rfl), H', ⟨by have := HK1.out; omega⟩, by repeat (first | exact Drawn0.refl _ | apply Drawn0.step)⟩
        · rw [if_neg c3] at H
          exact absurd H (by simp)
      · rw [if_neg c2] at H
        have c2b0 : decide (x3_1 < (l0.length : Int)) = false := decide_eq_false c2
        clear c2
        obtain rfl := Option.some.inj H
        go_wp2
        go_ret
        exact ⟨by rfl, by repeat (first | exact Drawn0.refl _ | apply Drawn0.step)⟩

end Go.Proofs.YtcjhejopcghgnaaDoor.P

set_option linter.unusedVariables false
set_option linter.unusedSimpArgs false
namespace Go.Proofs.YtcjhejopcghgnaaDoor.P
open Go.RowKit Go.Proofs.YtcjhejopcghgnaaDoorW.PrintWords Go.Proofs.YtcjhejopcghgnaaDoorW.PrintLast Go.Proofs.YtcjhejopcghgnaaDoorW.PrintMore
theorem le_of_mono {α : Type} {f : Nat → Option α} (h : ∀ k, LeO (f k) (f (k + 1))) {n : Nat} {r : α} (h0 : f n = some r) : ∀ k, n ≤ k → f k = some r := by
  intro k hk
  induction k with
  | zero => obtain rfl : n = 0 := by omega
            exact h0
  | succ k ih =>
    rcases Nat.lt_or_ge k n with hn | hn
    · obtain rfl : n = k + 1 := by omega
      exact h0
    · exact h k _ (ih hn)
theorem rd_L1_nat {l : List (List Int)} {j : Nat} (h : j < l.length) : rd_L5 l (j : Int) = l[j] := by
  unfold rd_L5
  rw [Int.toNat_natCast, List.getD_eq_getElem?_getD, List.getElem?_eq_getElem h]
  rfl
theorem rd_nat {l : List Int} {j : Nat} (h : j < l.length) : rd l (j : Int) = l[j] := by
  unfold rd
  rw [Int.toNat_natCast, List.getD_eq_getElem?_getD, List.getElem?_eq_getElem h]
  rfl
theorem Segs.seg {l : List (List Int)} (h : Segs l) (s : Int) : Words (rd_L5 l s) := by
  unfold rd_L5
  rw [List.getD_eq_getElem?_getD]
  by_cases hs : s.toNat < l.length
  · rw [List.getElem?_eq_getElem hs]
    exact h.2 _ (List.getElem_mem hs)
  · rw [List.getElem?_eq_none (by omega)]
    exact ⟨by simp, fun x hx => by simp at hx⟩
/-- A range that is in bounds. -/
def inB (l : List (List Int)) (s a n : Int) : Prop := 0 ≤ s ∧ s < (l.length : Int) ∧ 0 ≤ a ∧ 0 ≤ n ∧ a + n ≤ ((rd_L5 l s).length : Int)
instance (l : List (List Int)) (s a n : Int) : Decidable (inB l s a n) := by unfold inB; infer_instance
theorem InBounds_eq {l : List (List Int)} (h : Segs l) (s a n : Int) : arena_InBounds.f l s a n = some (decide (inB l s a n)) := by
  have hw := (h.seg s).1
  unfold arena_InBounds.f
  by_cases hb : inB l s a n
  · obtain ⟨h1, h2, h3, h4, h5⟩ := hb
    rw [decide_eq_true (show inB l s a n from ⟨h1, h2, h3, h4, h5⟩), if_pos h1, if_pos h2, if_pos h3, if_pos h4, if_pos h1, if_pos (by omega), wrap64_id (by omega), decide_eq_true (by omega)]
  · rw [decide_eq_false hb]
    unfold inB at hb
    repeat' split
    all_goals first
      | rfl
      | (exfalso; omega)
      | (rw [wrap64_id (by omega), decide_eq_false (by omega)])
theorem Word_eq {l : List (List Int)} (h : Segs l) (s a : Int) : arena_Word.f l s a = some (if inB l s a 1 then (rd (rd_L5 l s) a, true) else (0, false)) := by
  unfold arena_Word.f
  rw [InBounds_eq h]
  simp only [Option.bind_some, decide_eq_true_eq]
  by_cases hb : inB l s a 1
  · have hb' := hb
    obtain ⟨h1, h2, h3, h4, h5⟩ := hb'
    rw [if_pos hb, if_pos h1, if_pos h2, if_pos h3, if_pos (by omega), if_pos hb]
  · rw [if_neg hb, if_neg hb]
/-- The words of a range. -/
def cut (l : List (List Int)) (s a n : Int) : List Int := ((rd_L5 l s).drop a.toNat).take n.toNat
theorem Slice_eq {l : List (List Int)} (h : Segs l) (s a n : Int) (hn : n < 17592186044416) : arena_Slice.f l s a n = some (if inB l s a n then (cut l s a n, true) else ([], false)) := by
  unfold arena_Slice.f
  rw [InBounds_eq h]
  simp only [Option.bind_some, decide_eq_true_eq]
  by_cases hb : inB l s a n
  · have hb' := hb
    obtain ⟨h1, h2, h3, h4, h5⟩ := hb'
    rw [if_pos hb, if_pos ⟨h1, h2, h3, h4, h5, hn⟩, if_pos hb]
    rfl
  · rw [if_neg hb, if_neg hb]
theorem Slice_no {l : List (List Int)} (h : Segs l) (s a n : Int) (hb : ¬ inB l s a n) : arena_Slice.f l s a n = some ([], false) := by
  unfold arena_Slice.f
  rw [InBounds_eq h]
  simp only [Option.bind_some, decide_eq_true_eq]
  rw [if_neg hb]
theorem same_loop (a b : List Int) (hl : a.length = b.length) (hm : a.length ≤ 9223372036854775807) : ∀ (d k j : Nat), j + d = a.length → d < k → capnpref01_SameWords.l0 k a b j = some (decide (a.drop j = b.drop j)) := by
  intro d
  induction d with
  | zero =>
    intro k j hj hk
    obtain ⟨k, rfl⟩ : ∃ q, k = q + 1 := ⟨k - 1, by omega⟩
    simp only [capnpref01_SameWords.l0]
    rw [if_neg (by omega), List.drop_eq_nil_of_le (by omega), List.drop_eq_nil_of_le (by omega)]
    rfl
  | succ d ih =>
    intro k j hj hk
    obtain ⟨k, rfl⟩ : ∃ q, k = q + 1 := ⟨k - 1, by omega⟩
    simp only [capnpref01_SameWords.l0]
    have ha : j < a.length := by omega
    have hb : j < b.length := by omega
    rw [if_pos (by omega), if_pos (by omega), if_pos (by omega), rd_nat ha, rd_nat hb, wrap64_id (by omega), show (j : Int) + 1 = ((j + 1 : Nat) : Int) by push_cast; rfl, ih k (j + 1) (by omega) (by omega), List.drop_eq_getElem_cons ha, List.drop_eq_getElem_cons hb]
    by_cases he : a[j] = b[j]
    · rw [if_pos he]
      simp only [Option.some.injEq, decide_eq_decide, List.cons.injEq, he, true_and]
    · rw [if_neg he, decide_eq_false (by rw [List.cons.injEq]; exact fun h => he h.1)]
theorem SameWords_eq (a b : List Int) (hm : a.length ≤ 9223372036854775807) (k : Nat) (hk : a.length < k) : capnpref01_SameWords.f k a b = some (decide (a = b)) := by
  unfold capnpref01_SameWords.f
  by_cases hl : a.length = b.length
  · rw [if_pos (by omega)]
    have := same_loop a b hl hm a.length k 0 (by omega) hk
    simpa using this
  · rw [if_neg (by omega), decide_eq_false (fun h => hl (by rw [h]))]
def Few (l : List (List Int)) : Prop := l.length ≤ 20 ∧ ∀ s ∈ l, s.length ≤ 300
theorem few_loop {l : List (List Int)} (h : Segs l) (hl : l.length ≤ 9223372036854775807) : ∀ (d k j : Nat), j + d = l.length → d < k → capnpref04_Few.l0 k l j = some (decide (l.length ≤ 20 ∧ ∀ s ∈ l.drop j, s.length ≤ 300)) := by
  intro d
  induction d with
  | zero =>
    intro k j hj hk
    obtain ⟨k, rfl⟩ : ∃ q, k = q + 1 := ⟨k - 1, by omega⟩
    simp only [capnpref04_Few.l0]
    rw [if_neg (by omega), List.drop_eq_nil_of_le (by omega)]
    simp only [Option.some.injEq, decide_eq_decide]
    constructor
    · intro h
      exact ⟨by omega, fun s hs => by simp at hs⟩
    · intro h
      have := h.1
      omega
  | succ d ih =>
    intro k j hj hk
    obtain ⟨k, rfl⟩ : ∃ q, k = q + 1 := ⟨k - 1, by omega⟩
    simp only [capnpref04_Few.l0]
    have ha : j < l.length := by omega
    rw [if_pos (by omega), if_pos (by omega), rd_L1_nat ha, wrap64_id (by omega), show (j : Int) + 1 = ((j + 1 : Nat) : Int) by push_cast; rfl, ih k (j + 1) (by omega) (by omega), List.drop_eq_getElem_cons ha]
    by_cases he : l[j].length ≤ 300
    · rw [if_neg (by omega)]
      simp only [Option.some.injEq, decide_eq_decide, List.mem_cons, forall_eq_or_imp, he, true_and]
    · rw [if_pos (by omega), decide_eq_false]
      intro hc
      exact he (hc.2 _ List.mem_cons_self)
instance (l : List (List Int)) : Decidable (Few l) := by unfold Few; infer_instance
theorem Few_eq {l : List (List Int)} (h : Segs l) (k : Nat) (hk : l.length + 1 < k) : capnpref04_Few.f k l = some (decide (Few l)) := by
  have := few_loop h h.1 l.length k 0 (by omega) (by omega)
  rw [List.drop_zero] at this
  exact this
/-- The number of all words. -/
def tot (l : List (List Int)) : Nat := (l.map List.length).sum
theorem tot_few {l : List (List Int)} (h : ∀ s ∈ l, s.length ≤ 300) : tot l ≤ 300 * l.length := by
  induction l with
  | nil => simp [tot]
  | cons s l ih =>
    have h1 := h s List.mem_cons_self
    have h2 := ih fun x hx => h x (List.mem_cons_of_mem _ hx)
    simp only [tot, List.map_cons, List.sum_cons, List.length_cons] at h2 ⊢
    omega
end Go.Proofs.YtcjhejopcghgnaaDoor.P

set_option linter.unusedVariables false
set_option linter.unusedSimpArgs false
namespace Go.Proofs.YtcjhejopcghgnaaDoor.P
open Go.RowKit Go.Proofs.YtcjhejopcghgnaaDoorW.PrintWords Go.Proofs.YtcjhejopcghgnaaDoorW.PrintLast Go.Proofs.YtcjhejopcghgnaaDoorW.PrintMore
theorem bits_and (x y : Int) : Go.bits .and .u64 x y = IntKind.u64.wrap (((BitVec.ofInt 64 x &&& BitVec.ofInt 64 y).toNat : Nat) : Int) := rfl
theorem bits_or (x y : Int) : Go.bits .or .u64 x y = IntKind.u64.wrap (((BitVec.ofInt 64 x ||| BitVec.ofInt 64 y).toNat : Nat) : Int) := rfl
theorem bits_andNot (x y : Int) : Go.bits .andNot .u64 x y = IntKind.u64.wrap (((BitVec.ofInt 64 x &&& ~~~BitVec.ofInt 64 y).toNat : Nat) : Int) := rfl
theorem ofInt_toNat {a : Nat} (h : a < 2 ^ 64) : (BitVec.ofInt 64 (a : Int)).toNat = a := by
  simp; omega
/-- 'and' with a mask of low bits. -/
theorem bits_and_low {a : Nat} (h : a < 2 ^ 64) {m : Nat} (hm : m ≤ 64) : Go.bits .and .u64 (a : Int) ((2 ^ m - 1 : Nat) : Int) = ((a % 2 ^ m : Nat) : Int) := by
  have hp : 2 ^ m ≤ 2 ^ 64 := Nat.pow_le_pow_right (by decide) hm
  have hq : 0 < 2 ^ m := Nat.pow_pos (by decide)
  rw [bits_and, BitVec.toNat_and, ofInt_toNat h, ofInt_toNat (show 2 ^ m - 1 < 2 ^ 64 by omega), Nat.and_two_pow_sub_one_eq_mod]
  have := Nat.mod_lt a hq
  exact wrap_u64 ⟨by omega, by omega⟩
theorem mask_eq (m : Nat) (h1 : 1 ≤ m) (h2 : m ≤ 64) : word_mask.f m = some ((2 ^ m - 1 : Nat) : Int) := by
  unfold word_mask.f
  have e1 : wrap64 (64 - (m : Int)) = ((64 - m : Nat) : Int) := by rw [wrap64_id (by omega)]; omega
  rw [e1, wrap_u64 (by omega), if_pos (by omega)]
  simp only [shr, IntKind.bits, Int.toNat_natCast, Option.some.injEq]
  rw [Nat.min_eq_left (by omega)]
  have hk : 2 ^ 64 = 2 ^ m * 2 ^ (64 - m) := by rw [← Nat.pow_add]; congr 1; omega
  have hp : 0 < 2 ^ (64 - m) := Nat.pow_pos (by decide)
  have hd : (18446744073709551615 : Nat) / 2 ^ (64 - m) = 2 ^ m - 1 := by
    rw [show (18446744073709551615 : Nat) = 2 ^ 64 - 1 from rfl, hk]
    rw [Nat.div_eq_iff hp]
    have hq : 0 < 2 ^ m := Nat.pow_pos (by decide)
    constructor
    · rw [Nat.sub_mul]; omega
    · have : (2 ^ m - 1) * 2 ^ (64 - m) = 2 ^ m * 2 ^ (64 - m) - 2 ^ (64 - m) := by rw [Nat.sub_mul, Nat.one_mul]
      have h3 : 2 ^ (64 - m) ≤ 2 ^ m * 2 ^ (64 - m) := Nat.le_mul_of_pos_left _ hq
      omega
  rw [← hd]
  simp
/-- A bit field of a word. -/
theorem field_eq (a : Nat) (h : a < 2 ^ 64) (i m : Nat) (h1 : 1 ≤ m) (h2 : i + m ≤ 64) : word_Field.f a i m = some ((a / 2 ^ i % 2 ^ m : Nat) : Int) := by
  unfold word_Field.f
  rw [wrap_u64 (by omega), if_pos (by omega), mask_eq m h1 (by omega)]
  simp only [Option.bind_some, shr, IntKind.bits, Int.toNat_natCast, Option.some.injEq]
  rw [Nat.min_eq_left (by omega)]
  have hc : ((a : Int) / 2 ^ i) = ((a / 2 ^ i : Nat) : Int) := by simp
  rw [hc]
  exact bits_and_low (Nat.lt_of_le_of_lt (Nat.div_le_self _ _) h) (by omega)
theorem shl_eq (a : Nat) (i : Nat) (hi : i < 64) : shl .u64 a i = ((a * 2 ^ i % 2 ^ 64 : Nat) : Int) := by
  simp only [shl, IntKind.bits, Int.toNat_natCast]
  rw [Nat.min_eq_left (by omega), wrap_u64_any]
  simp
theorem signed_eq (a : Nat) (h : a < 2 ^ 64) (i m : Nat) (h1 : 1 ≤ m) (h2 : i + m ≤ 64) (h3 : 1 ≤ i) :
    word_Signed.f a i m = some (if 2 ^ (m - 1) ≤ a / 2 ^ i % 2 ^ m then ((a / 2 ^ i % 2 ^ m : Nat) : Int) - ((2 ^ m : Nat) : Int) else ((a / 2 ^ i % 2 ^ m : Nat) : Int)) := by
  unfold word_Signed.f
  have e1 : wrap64 (wrap64 (64 - (i : Int)) - (m : Int)) = ((64 - i - m : Nat) : Int) := by rw [wrap64_id (x := 64 - (i : Int)) (by omega), wrap64_id (by omega)]; omega
  have e2 : wrap64 (64 - (m : Int)) = ((64 - m : Nat) : Int) := by rw [wrap64_id (by omega)]; omega
  rw [e1, e2, wrap_u64 (by omega), wrap_u64 (by omega), if_pos (by omega), if_pos (by omega), shl_eq _ _ (by omega)]
  simp only [shr, IntKind.bits, Int.toNat_natCast, Option.some.injEq]
  rw [Nat.min_eq_left (by omega)]
  -- the field stands at the top
  have key : a * 2 ^ (64 - i - m) % 2 ^ 64 = (a % 2 ^ (i + m)) * 2 ^ (64 - i - m) := by
    have : 2 ^ 64 = 2 ^ (i + m) * 2 ^ (64 - i - m) := by rw [← Nat.pow_add]; congr 1; omega
    rw [this, Nat.mul_mod_mul_right]
  have hv : a / 2 ^ i % 2 ^ m = a % 2 ^ (i + m) / 2 ^ i := by
    rw [Nat.pow_add, Nat.mod_mul_right_div_self]
  rw [key, hv]
  generalize hb : a % 2 ^ (i + m) = b
  have hb1 : b < 2 ^ (i + m) := by rw [← hb]; exact Nat.mod_lt _ (Nat.pow_pos (by decide))
  have p1 : 2 ^ (i + m) = 2 * 2 ^ (i + m - 1) := by rw [← Nat.pow_succ']; congr 1; omega
  have p2 : 2 ^ (i + m - 1) * 2 ^ (64 - i - m) = 2 ^ 63 := by rw [← Nat.pow_add]; congr 1; omega
  have p3 : 2 ^ (64 - m) = 2 ^ i * 2 ^ (64 - i - m) := by rw [← Nat.pow_add]; congr 1; omega
  have p4 : 2 ^ (i + m - 1) = 2 ^ i * 2 ^ (m - 1) := by rw [← Nat.pow_add]; congr 1; omega
  have p5 : 2 ^ (i + m) * 2 ^ (64 - i - m) = 2 ^ 64 := by rw [← Nat.pow_add]; congr 1; omega
  have p6 : 2 ^ (i + m) = 2 ^ i * 2 ^ m := by rw [← Nat.pow_add]
  have q1 : 0 < 2 ^ i := Nat.pow_pos (by decide)
  have q2 : 0 < 2 ^ (64 - i - m) := Nat.pow_pos (by decide)
  by_cases hneg : 2 ^ (i + m - 1) ≤ b
  · have hc : 2 ^ 63 ≤ b * 2 ^ (64 - i - m) := by rw [← p2]; exact Nat.mul_le_mul_right _ hneg
    have hc2 : b * 2 ^ (64 - i - m) < 2 ^ 64 := by rw [← p5]; exact Nat.mul_lt_mul_of_pos_right hb1 q2
    have hcond : 2 ^ (m - 1) ≤ b / 2 ^ i := by rw [Nat.le_div_iff_mul_le q1, Nat.mul_comm, ← p4]; exact hneg
    rw [if_pos hcond]
    have hw : wrap64 ((b * 2 ^ (64 - i - m) : Nat) : Int) = ((b * 2 ^ (64 - i - m) : Nat) : Int) - 18446744073709551616 := by
      unfold wrap64
      have : (2 : Nat) ^ 63 = 9223372036854775808 := rfl
      have : (2 : Nat) ^ 64 = 18446744073709551616 := rfl
      omega
    rw [hw]
    have h64 : (18446744073709551616 : Int) = ((2 ^ (i + m) * 2 ^ (64 - i - m) : Nat) : Int) := by rw [p5]; rfl
    rw [h64, p6]
    have e4 : ((2 : Int) ^ (64 - m)) = ((2 ^ i * 2 ^ (64 - i - m) : Nat) : Int) := by rw [← p3]; simp
    rw [e4]
    have e5 : ((b * 2 ^ (64 - i - m) : Nat) : Int) - ((2 ^ i * 2 ^ m * 2 ^ (64 - i - m) : Nat) : Int) = ((b : Int) - ((2 ^ i * 2 ^ m : Nat) : Int)) * ((2 ^ (64 - i - m) : Nat) : Int) := by push_cast; rw [Int.sub_mul]
    rw [e5, show ((2 ^ i * 2 ^ (64 - i - m) : Nat) : Int) = ((2 ^ i : Nat) : Int) * ((2 ^ (64 - i - m) : Nat) : Int) by push_cast; rfl]
    rw [Int.mul_ediv_mul_of_pos_left _ _ (by exact_mod_cast q2)]
    rw [show ((b : Int) - ((2 ^ i * 2 ^ m : Nat) : Int)) = (b : Int) + ((2 ^ i : Nat) : Int) * (-((2 ^ m : Nat) : Int)) by push_cast; rw [Int.mul_neg]; rfl]
    rw [Int.add_mul_ediv_left _ _ (by exact_mod_cast (Nat.pos_iff_ne_zero.mp q1))]
    push_cast
    rfl
  · have hcond : ¬ 2 ^ (m - 1) ≤ b / 2 ^ i := by rw [Nat.le_div_iff_mul_le q1, Nat.mul_comm, ← p4]; exact hneg
    rw [if_neg hcond]
    have hlt : b * 2 ^ (64 - i - m) < 2 ^ 63 := by rw [← p2]; exact Nat.mul_lt_mul_of_pos_right (by omega) q2
    have : (2 : Nat) ^ 63 = 9223372036854775808 := rfl
    rw [wrap64_id (by omega)]
    have e4 : ((2 : Int) ^ (64 - m)) = ((2 ^ i * 2 ^ (64 - i - m) : Nat) : Int) := by rw [← p3]; simp
    rw [e4, ← Int.natCast_ediv, Nat.mul_div_mul_right _ _ q2]
end Go.Proofs.YtcjhejopcghgnaaDoor.P

set_option linter.unusedVariables false
set_option linter.unusedSimpArgs false
namespace Go.Proofs.YtcjhejopcghgnaaDoor.P
open Go.RowKit Go.Proofs.YtcjhejopcghgnaaDoorW.PrintWords Go.Proofs.YtcjhejopcghgnaaDoorW.PrintLast Go.Proofs.YtcjhejopcghgnaaDoorW.PrintMore
abbrev PT := Int × Int × Int × Int × Int × Int × Bool × Int × Int × Int
def sgn30 (v : Int) : Int := if 536870912 ≤ v then v - 1073741824 else v
/-- What a word decodes to. -/
def decI (a : Int) : PT :=
  if a % 4 = 0 then (0, sgn30 (a / 4 % 1073741824), a / 4294967296 % 65536, a / 281474976710656 % 65536, 0, 0, false, 0, 0, 0)
  else if a % 4 = 1 then (1, sgn30 (a / 4 % 1073741824), 0, 0, a / 4294967296 % 8, a / 34359738368 % 536870912, false, 0, 0, 0)
  else if a % 4 = 2 then (2, 0, 0, 0, 0, 0, a / 4 % 2 == 1, a / 8 % 536870912, a / 4294967296 % 4294967296, 0)
  else (3, 0, 0, 0, 0, 0, false, 0, a / 4294967296 % 4294967296, a / 4 % 1073741824)
theorem fieldI {a : Int} (h : 0 ≤ a ∧ a < 18446744073709551616) (i m : Nat) (h1 : 1 ≤ m) (h2 : i + m ≤ 64) : word_Field.f a i m = some (a / 2 ^ i % 2 ^ m) := by
  obtain ⟨n, rfl⟩ := Int.eq_ofNat_of_zero_le h.1
  rw [field_eq n (by omega) i m h1 h2]
  simp
theorem signedI {a : Int} (h : 0 ≤ a ∧ a < 18446744073709551616) : word_Signed.f a 2 30 = some (sgn30 (a / 4 % 1073741824)) := by
  obtain ⟨n, rfl⟩ := Int.eq_ofNat_of_zero_le h.1
  refine (signed_eq n (by omega) 2 30 (by decide) (by decide) (by decide)).trans ?_
  unfold sgn30
  simp only [Option.some.injEq]
  rw [show (2 : Nat) ^ (30 - 1) = 536870912 from rfl, show (2 : Nat) ^ 2 = 4 from rfl, show (2 : Nat) ^ 30 = 1073741824 from rfl]
  split <;> split <;> omega
theorem Decode_eq {a : Int} (h : 0 ≤ a ∧ a < 18446744073709551616) : pointer_Decode.f a = some (decI a) := by
  have k0 : word_Field.f a 0 2 = some (a % 4) := by have := fieldI h 0 2 (by decide) (by decide); simpa using this
  have k1 : word_Field.f a 32 16 = some (a / 4294967296 % 65536) := fieldI h 32 16 (by decide) (by decide)
  have k2 : word_Field.f a 48 16 = some (a / 281474976710656 % 65536) := fieldI h 48 16 (by decide) (by decide)
  have k3 : word_Field.f a 32 3 = some (a / 4294967296 % 8) := fieldI h 32 3 (by decide) (by decide)
  have k4 : word_Field.f a 35 29 = some (a / 34359738368 % 536870912) := fieldI h 35 29 (by decide) (by decide)
  have k5 : word_Field.f a 2 1 = some (a / 4 % 2) := fieldI h 2 1 (by decide) (by decide)
  have k6 : word_Field.f a 3 29 = some (a / 8 % 536870912) := fieldI h 3 29 (by decide) (by decide)
  have k7 : word_Field.f a 32 32 = some (a / 4294967296 % 4294967296) := fieldI h 32 32 (by decide) (by decide)
  have k8 : word_Field.f a 2 30 = some (a / 4 % 1073741824) := fieldI h 2 30 (by decide) (by decide)
  unfold pointer_Decode.f pointer_decoders_1.f pointer_decoders_2.f pointer_decoders_3.f pointer_decoders_4.f decI
  rw [k0, k1, k2, k3, k4, k5, k6, k7, k8, signedI h]
  simp only [Option.bind_some]
  rw [wrap64_id (x := a / 4294967296 % 65536) (by omega), wrap64_id (x := a / 281474976710656 % 65536) (by omega), wrap64_id (x := a / 4294967296 % 8) (by omega), wrap64_id (x := a / 34359738368 % 536870912) (by omega), wrap64_id (x := a / 8 % 536870912) (by omega)]
  rw [show a / 4294967296 % 4294967296 % 4294967296 = a / 4294967296 % 4294967296 by omega, show a / 4 % 1073741824 % 4294967296 = a / 4 % 1073741824 by omega]
  by_cases c0 : a % 4 = 0
  · simp [c0]
  by_cases c1 : a % 4 = 1
  · simp [c1]
  by_cases c2 : a % 4 = 2
  · simp [c2]
  · have c3 : a % 4 = 3 := by omega
    simp [c3]
/-- The word of a pointer of one of the four kinds, its fields cut to their widths. -/
def pakI (p : PT) : Int :=
  if p.1 = 0 then p.2.1 % 1073741824 * 4 + p.2.2.1 % 65536 * 4294967296 + p.2.2.2.1 % 65536 * 281474976710656
  else if p.1 = 1 then 1 + p.2.1 % 1073741824 * 4 + p.2.2.2.2.1 % 8 * 4294967296 + p.2.2.2.2.2.1 % 536870912 * 34359738368
  else if p.1 = 2 then 2 + (if p.2.2.2.2.2.2.1 then 4 else 0) + p.2.2.2.2.2.2.2.1 % 536870912 * 8 + p.2.2.2.2.2.2.2.2.1 % 4294967296 * 4294967296
  else 3 + p.2.2.2.2.2.2.2.2.2 % 1073741824 * 4 + p.2.2.2.2.2.2.2.2.1 % 4294967296 * 4294967296
theorem pakI_range (p : PT) : 0 ≤ pakI p ∧ pakI p < 18446744073709551616 := by
  unfold pakI
  split
  · omega
  split
  · omega
  split
  · split <;> omega
  · omega
/-- Is a pointer valid? -/
def vldP (p : PT) : Prop :=
  (p.1 = 0 ∧ -536870912 ≤ p.2.1 ∧ p.2.1 ≤ 536870911 ∧ 0 ≤ p.2.2.1 ∧ p.2.2.1 ≤ 65535 ∧ 0 ≤ p.2.2.2.1 ∧ p.2.2.2.1 ≤ 65535 ∧ p.2.2.2.2.1 = 0 ∧ p.2.2.2.2.2.1 = 0 ∧ p.2.2.2.2.2.2.1 = false ∧ p.2.2.2.2.2.2.2.1 = 0 ∧ p.2.2.2.2.2.2.2.2.1 = 0 ∧ p.2.2.2.2.2.2.2.2.2 = 0) ∨
  (p.1 = 1 ∧ -536870912 ≤ p.2.1 ∧ p.2.1 ≤ 536870911 ∧ p.2.2.1 = 0 ∧ p.2.2.2.1 = 0 ∧ 0 ≤ p.2.2.2.2.1 ∧ p.2.2.2.2.1 ≤ 7 ∧ 0 ≤ p.2.2.2.2.2.1 ∧ p.2.2.2.2.2.1 ≤ 536870911 ∧ p.2.2.2.2.2.2.1 = false ∧ p.2.2.2.2.2.2.2.1 = 0 ∧ p.2.2.2.2.2.2.2.2.1 = 0 ∧ p.2.2.2.2.2.2.2.2.2 = 0) ∨
  (p.1 = 2 ∧ p.2.1 = 0 ∧ p.2.2.1 = 0 ∧ p.2.2.2.1 = 0 ∧ p.2.2.2.2.1 = 0 ∧ p.2.2.2.2.2.1 = 0 ∧ 0 ≤ p.2.2.2.2.2.2.2.1 ∧ p.2.2.2.2.2.2.2.1 ≤ 536870911 ∧ 0 ≤ p.2.2.2.2.2.2.2.2.1 ∧ p.2.2.2.2.2.2.2.2.1 ≤ 4294967295 ∧ p.2.2.2.2.2.2.2.2.2 = 0) ∨
  (p.1 = 3 ∧ p.2.1 = 0 ∧ p.2.2.1 = 0 ∧ p.2.2.2.1 = 0 ∧ p.2.2.2.2.1 = 0 ∧ p.2.2.2.2.2.1 = 0 ∧ p.2.2.2.2.2.2.1 = false ∧ p.2.2.2.2.2.2.2.1 = 0 ∧ 0 ≤ p.2.2.2.2.2.2.2.2.1 ∧ p.2.2.2.2.2.2.2.2.1 ≤ 4294967295 ∧ 0 ≤ p.2.2.2.2.2.2.2.2.2 ∧ p.2.2.2.2.2.2.2.2.2 ≤ 1073741823)
instance (p : PT) : Decidable (vldP p) := by unfold vldP; infer_instance
theorem decI_valid {a : Int} (h : 0 ≤ a ∧ a < 18446744073709551616) : vldP (decI a) := by
  unfold decI vldP sgn30
  split
  · refine .inl ⟨rfl, ?_, ?_, by simp; omega, by simp; omega, by simp; omega, by simp; omega, rfl, rfl, rfl, rfl, rfl, rfl⟩ <;> (simp only []; split <;> omega)
  split
  · refine .inr (.inl ⟨rfl, ?_, ?_, rfl, rfl, by simp; omega, by simp; omega, by simp; omega, by simp; omega, rfl, rfl, rfl, rfl⟩) <;> (simp only []; split <;> omega)
  split
  · exact .inr (.inr (.inl ⟨rfl, rfl, rfl, rfl, rfl, rfl, by simp; omega, by simp; omega, by simp; omega, by simp; omega, rfl⟩))
  · exact .inr (.inr (.inr ⟨rfl, rfl, rfl, rfl, rfl, rfl, rfl, rfl, by simp; omega, by simp; omega, by simp; omega, by simp; omega⟩))
theorem dec_pak {p : PT} (h : vldP p) : decI (pakI p) = p := by
  obtain ⟨k, o, d, q, e, c, b, pd, sg, lo⟩ := p
  unfold vldP at h
  simp only at h
  rcases h with ⟨rfl, h1, h2, h3, h4, h5, h6, rfl, rfl, rfl, rfl, rfl, rfl⟩ | ⟨rfl, h1, h2, rfl, rfl, h3, h4, h5, h6, rfl, rfl, rfl, rfl⟩ | ⟨rfl, rfl, rfl, rfl, rfl, rfl, h1, h2, h3, h4, rfl⟩ | ⟨rfl, rfl, rfl, rfl, rfl, rfl, rfl, rfl, h1, h2, h3, h4⟩
  · simp only [pakI, decI, if_true]
    rw [if_pos (by omega)]
    simp only [Prod.mk.injEq, and_true, true_and, sgn30]
    refine ⟨?_, by omega, by omega⟩
    split <;> omega
  · simp only [pakI, decI, if_true, show ¬ ((1 : Int) = 0) by decide, if_false]
    rw [if_neg (by omega), if_pos (by omega)]
    simp only [Prod.mk.injEq, and_true, true_and, sgn30]
    refine ⟨?_, by omega, by omega⟩
    split <;> omega
  · simp only [pakI, decI, if_true, show ¬ ((2 : Int) = 0) by decide, show ¬ ((2 : Int) = 1) by decide, if_false]
    cases b
    · simp only [Bool.false_eq_true, if_false]
      rw [if_neg (by omega), if_neg (by omega), if_pos (by omega)]
      simp only [Prod.mk.injEq, and_true, true_and]
      refine ⟨by rw [beq_eq_false_iff_ne]; omega, by omega, by omega⟩
    · simp only [if_true]
      rw [if_neg (by omega), if_neg (by omega), if_pos (by omega)]
      simp only [Prod.mk.injEq, and_true, true_and]
      refine ⟨by rw [beq_iff_eq]; omega, by omega, by omega⟩
  · simp only [pakI, decI, show ¬ ((3 : Int) = 0) by decide, show ¬ ((3 : Int) = 1) by decide, show ¬ ((3 : Int) = 2) by decide, if_false]
    rw [if_neg (by omega), if_neg (by omega), if_neg (by omega)]
    simp only [Prod.mk.injEq, and_true, true_and]
    omega
theorem pak_dec {a : Int} (h : 0 ≤ a ∧ a < 18446744073709551616) : pakI (decI a) = a := by
  unfold decI sgn30
  split
  · simp only [pakI, if_true]; split <;> omega
  split
  · simp only [pakI, if_true, show ¬ ((1 : Int) = 0) by decide, if_false]; split <;> omega
  split
  · simp only [pakI, if_true, show ¬ ((2 : Int) = 0) by decide, show ¬ ((2 : Int) = 1) by decide, if_false]
    by_cases hb : a / 4 % 2 = 1
    · rw [if_pos (by rw [beq_iff_eq]; exact hb)]; omega
    · rw [if_neg (by rw [beq_iff_eq]; exact hb)]; omega
  · simp only [pakI, show ¬ ((3 : Int) = 0) by decide, show ¬ ((3 : Int) = 1) by decide, show ¬ ((3 : Int) = 2) by decide, if_false]; omega
end Go.Proofs.YtcjhejopcghgnaaDoor.P

namespace Go.Proofs.YtcjhejopcghgnaaDoor.P
open Go.RowKit Go.Proofs.YtcjhejopcghgnaaDoorW.PrintWords Go.Proofs.YtcjhejopcghgnaaDoorW.PrintLast Go.Proofs.YtcjhejopcghgnaaDoorW.PrintMore
attribute [local go_sem] max2_int min2_int max_two min_two max_three min_three max_four min_four   -- for this text's walks alone
set_option linter.unusedVariables false
set_option linter.unusedSimpArgs false

variable {gb : Bool}
/-! ### capnpref01_Pow: function 50 -/
def capnpref01_Pow.l0 : Nat → Int → Int → Int → Option (Int)
  | 0, _, _, _ => none
  | k + 1, x0, x3, x4 => if x4 < x0 then (capnpref01_Pow.l0 k x0 (IntKind.u64.wrap (x3 * 2)) (wrap64 (x4 + 1))) else (some x3)
def capnpref01_Pow.f (k : Nat) (a0 : Int) : Option (Int) := capnpref01_Pow.l0 k a0 1 0
theorem capnpref01_Pow.mono_l : ∀ k, (∀ y0 y1 y2, LeO (capnpref01_Pow.l0 k y0 y1 y2) (capnpref01_Pow.l0 (k + 1) y0 y1 y2))
  | 0 => fun _ _ _ r h => by simp [capnpref01_Pow.l0] at h
  | k + 1 => by
    have ih0 := capnpref01_Pow.mono_l k
    · intro y0 y1 y2
      unfold capnpref01_Pow.l0
      repeat' first
      | (with_reducible apply ih0)
      | (with_reducible exact LeO.refl _)
      | (with_reducible refine LeO.ite ?_ ?_)
theorem capnpref01_Pow.mono : ∀ a0 k, LeO (capnpref01_Pow.f k a0) (capnpref01_Pow.f (k + 1) a0) := by
  intro a0 k
  have ih0 := capnpref01_Pow.mono_l k
  unfold capnpref01_Pow.f
  repeat' (with_reducible apply ih0)
set_option maxHeartbeats 8000000 in
set_option maxRecDepth 100000 in
theorem capnpref01_Pow.calls (k : Nat) (a0 r : Int) (w : World) (h : capnpref01_Pow.f k a0 = some r) :
    Calls Tryd.prog 50 #[.int .i64 a0] w fun e w' => e = .returned (.int .u64 r) ∧ Drawn0 w w' := by
  have H : (capnpref01_Pow.l0 k a0 1 0) = some r := h
  clear h
  have H' := Aside0.mk H
  clear H
  go_enter Tryd.func50, Tryd.ntmps50
  go_wp2
  go_loopg [3, 4] k (fun kq v3 v4 w' => ∃ (x3_1 x4_1 : Int), v3 = .int .u64 x3_1 ∧ v4 = .int .i64 x4_1 ∧ Aside0 (capnpref01_Pow.l0 kq a0 x3_1 x4_1 = some r) ∧ Aside0 (kq ≤ k) ∧ Drawn0 w w')
  case atStart => exact ⟨(1), (0), (by rfl), (by rfl), H', ⟨Nat.le_refl _⟩, by repeat (exact Drawn0.refl _)⟩
  case round =>
    clear H'
    obtain ⟨x3_1, x4_1, rfl, rfl, HA, HK1, ⟨m1, rfl⟩⟩ := hrel
    cases gk with
    | zero => exact absurd HA.out (by simp [capnpref01_Pow.l0])
    | succ k1 =>
      have H := HA.out
      clear HA
      simp only [capnpref01_Pow.l0] at H
      by_cases c2 : x4_1 < a0
      · rw [if_pos c2] at H
        have c2b0 : decide (x4_1 < a0) = true := decide_eq_true c2
        clear c2
        have H' := Aside0.mk H
        clear H
        go_wp2
        go_roundg k1
        case measure => omega
        case rel => exact ⟨(IntKind.u64.wrap (x3_1 * 2)), (wrap64 (x4_1 + 1)), (by rfl), (by rfl), H', ⟨by have := HK1.out; omega⟩, by repeat (first | exact Drawn0.refl _ | apply Drawn0.step)⟩
      · rw [if_neg c2] at H
        have c2b0 : decide (x4_1 < a0) = false := decide_eq_false c2
        clear c2
        obtain rfl := Option.some.inj H
        go_wp2
        go_ret
        exact ⟨by rfl, by repeat (first | exact Drawn0.refl _ | apply Drawn0.step)⟩

end Go.Proofs.YtcjhejopcghgnaaDoor.P

namespace Go.Proofs.YtcjhejopcghgnaaDoor.P
open Go.RowKit Go.Proofs.YtcjhejopcghgnaaDoorW.PrintWords Go.Proofs.YtcjhejopcghgnaaDoorW.PrintLast Go.Proofs.YtcjhejopcghgnaaDoorW.PrintMore
attribute [local go_sem] max2_int min2_int max_two min_two max_three min_three max_four min_four   -- for this text's walks alone
set_option linter.unusedVariables false
set_option linter.unusedSimpArgs false

variable {gb : Bool}
/-! ### capnpref01_Field: function 39 -/
def capnpref01_Field.l0 : Nat → Int → Int → Int → Int → Int → Option (Int)
  | 0, _, _, _, _, _ => none
  | k + 1, x0, x1, x2, x7, x8 => if x8 < x2 then ((capnpref01_Pow.f k (wrap64 (x1 + x8))).bind fun t216 => (if t216 = 0 then (none) else (if (Int.tmod (IntKind.u64.wrap (Int.tdiv x0 t216)) 2) = 1 then ((capnpref01_Pow.f k x8).bind fun t217 => (capnpref01_Field.l0 k x0 x1 x2 (IntKind.u64.wrap (x7 + t217)) (wrap64 (x8 + 1)))) else (capnpref01_Field.l0 k x0 x1 x2 x7 (wrap64 (x8 + 1)))))) else (some x7)
def capnpref01_Field.f (k : Nat) (a0 a1 a2 : Int) : Option (Int) := capnpref01_Field.l0 k a0 a1 a2 0 0
theorem capnpref01_Field.mono_l : ∀ k, (∀ y0 y1 y2 y3 y4, LeO (capnpref01_Field.l0 k y0 y1 y2 y3 y4) (capnpref01_Field.l0 (k + 1) y0 y1 y2 y3 y4))
  | 0 => fun _ _ _ _ _ r h => by simp [capnpref01_Field.l0] at h
  | k + 1 => by
    have ih0 := capnpref01_Field.mono_l k
    · intro y0 y1 y2 y3 y4
      unfold capnpref01_Field.l0
      repeat' first
      | (with_reducible apply ih0)
      | (with_reducible apply capnpref01_Pow.mono)
      | (with_reducible exact LeO.refl _)
      | (with_reducible refine LeO.ite ?_ ?_)
      | (with_reducible refine LeO.bind ?_ (fun _ => ?_))
theorem capnpref01_Field.mono : ∀ a0 a1 a2 k, LeO (capnpref01_Field.f k a0 a1 a2) (capnpref01_Field.f (k + 1) a0 a1 a2) := by
  intro a0 a1 a2 k
  have ih0 := capnpref01_Field.mono_l k
  unfold capnpref01_Field.f
  repeat' (with_reducible apply ih0)
set_option maxHeartbeats 8000000 in
set_option maxRecDepth 100000 in
theorem capnpref01_Field.calls (k : Nat) (a0 a1 a2 r : Int) (w : World) (h : capnpref01_Field.f k a0 a1 a2 = some r) :
    Calls Tryd.prog 39 #[.int .u64 a0, .int .i64 a1, .int .i64 a2] w fun e w' => e = .returned (.int .u64 r) ∧ Drawn0 w w' := by
  have H : (capnpref01_Field.l0 k a0 a1 a2 0 0) = some r := h
  clear h
  have H' := Aside0.mk H
  clear H
  go_enter Tryd.func39, Tryd.ntmps39
  go_wp2
  go_loopg [7, 8] k (fun kq v7 v8 w' => ∃ (x7_1 x8_1 : Int), v7 = .int .u64 x7_1 ∧ v8 = .int .i64 x8_1 ∧ Aside0 (capnpref01_Field.l0 kq a0 a1 a2 x7_1 x8_1 = some r) ∧ Aside0 (kq ≤ k) ∧ Drawn0 w w')
  case atStart => exact ⟨(0), (0), (by rfl), (by rfl), H', ⟨Nat.le_refl _⟩, by repeat (exact Drawn0.refl _)⟩
  case round =>
    clear H'
    skip
    skip
    obtain ⟨x7_1, x8_1, rfl, rfl, HA, HK1, ⟨m1, rfl⟩⟩ := hrel
    cases gk with
    | zero => exact absurd HA.out (by simp [capnpref01_Field.l0])
    | succ k1 =>
      have H := HA.out
      clear HA
      simp only [capnpref01_Field.l0] at H
      by_cases c4 : x8_1 < a2
      · rw [if_pos c4] at H
        have c4b0 : decide (x8_1 < a2) = true := decide_eq_true c4
        clear c4
        replace H := Option.bind_eq_some_iff.mp H
        obtain ⟨t216, A50, H⟩ := H
        have A5 := Aside0.mk A50
        clear A50
        by_cases c6 : t216 = 0
        · rw [if_pos c6] at H
          exact absurd H (by simp)
        · rw [if_neg c6] at H
          by_cases c7 : (Int.tmod (IntKind.u64.wrap (Int.tdiv a0 t216)) 2) = 1
          · rw [if_pos c7] at H
            have c7b0 : ((Int.tmod (IntKind.u64.wrap (Int.tdiv a0 t216)) 2) == 1) = true := beq_iff_eq.mpr c7
            clear c7
            replace H := Option.bind_eq_some_iff.mp H
            obtain ⟨t217, A80, H⟩ := H
            replace H : (capnpref01_Field.l0 k1 a0 a1 a2 (IntKind.u64.wrap (x7_1 + t217)) (wrap64 (x8_1 + 1))) = some r := H
            have A8 := Aside0.mk A80
            clear A80
            have H' := Aside0.mk H
            clear H
            go_wp2_with (first | ((with_reducible refine gate_callee (f := 50) rfl ?_); refine goesL_ (some 18) rfl rfl Tryd.func50 (by kernel_rfl) rfl #[.int .i64 (wrap64 (a1 + x8_1))] rfl (by (try simp only [List.map_toArray, List.map_cons, List.map_nil]); rfl) ?_; (with_reducible refine (capnpref01_Pow.calls k1 (wrap64 (a1 + x8_1)) t216 _ A5.out).mono ?_); rintro e w' ⟨rfl, ⟨nd, rfl⟩⟩; refine ⟨_, rfl, ?_⟩) | ((with_reducible refine gate_callee (f := 50) rfl ?_); refine goesL_ (some 24) rfl rfl Tryd.func50 (by kernel_rfl) rfl #[.int .i64 x8_1] rfl (by (try simp only [List.map_toArray, List.map_cons, List.map_nil]); rfl) ?_; (with_reducible refine (capnpref01_Pow.calls k1 x8_1 t217 _ A8.out).mono ?_); rintro e w' ⟨rfl, ⟨nd, rfl⟩⟩; refine ⟨_, rfl, ?_⟩))
            go_roundg k1
            case measure => omega
            case rel => exact ⟨(IntKind.u64.wrap (x7_1 + t217)), (wrap64 (x8_1 + 1)), (by rfl), (by rfl), H', ⟨by have := HK1.out; omega⟩, by repeat (first | exact Drawn0.refl _ | apply Drawn0.step)⟩
          · rw [if_neg c7] at H
            have c7b0 : ((Int.tmod (IntKind.u64.wrap (Int.tdiv a0 t216)) 2) == 1) = false := beq_eq_false_iff_ne.mpr c7
            have H' := Aside0.mk H
            clear H
            go_wp2_with (((with_reducible refine gate_callee (f := 50) rfl ?_); refine goesL_ (some 18) rfl rfl Tryd.func50 (by kernel_rfl) rfl #[.int .i64 (wrap64 (a1 + x8_1))] rfl (by (try simp only [List.map_toArray, List.map_cons, List.map_nil]); rfl) ?_; (with_reducible refine (capnpref01_Pow.calls k1 (wrap64 (a1 + x8_1)) t216 _ A5.out).mono ?_); rintro e w' ⟨rfl, ⟨nd, rfl⟩⟩; refine ⟨_, rfl, ?_⟩))
            go_roundg k1
            case measure => omega
            case rel => exact ⟨(x7_1), (wrap64 (x8_1 + 1)), (by rfl), (by rfl), H', ⟨by have := HK1.out; omega⟩, by repeat (first | exact Drawn0.refl _ | apply Drawn0.step)⟩
      · rw [if_neg c4] at H
        have c4b0 : decide (x8_1 < a2) = false := decide_eq_false c4
        clear c4
        obtain rfl := Option.some.inj H
        go_wp2
        go_ret
        exact ⟨by rfl, by repeat (first | exact Drawn0.refl _ | apply Drawn0.step)⟩

end Go.Proofs.YtcjhejopcghgnaaDoor.P

namespace Go.Proofs.YtcjhejopcghgnaaDoor.P
open Go.RowKit Go.Proofs.YtcjhejopcghgnaaDoorW.PrintWords Go.Proofs.YtcjhejopcghgnaaDoorW.PrintLast Go.Proofs.YtcjhejopcghgnaaDoorW.PrintMore
attribute [local go_sem] max2_int min2_int max_two min_two max_three min_three max_four min_four   -- for this text's walks alone
set_option linter.unusedVariables false
set_option linter.unusedSimpArgs false

variable {gb : Bool}
/-! ### capnpref01_Signed: function 38 -/
def capnpref01_Signed.f (k : Nat) (a0 a1 a2 : Int) : Option (Int) := (capnpref01_Field.f k a0 a1 a2).bind fun t218 => (if a2 = 64 then (some (wrap64 (t218))) else ((capnpref01_Pow.f k (wrap64 (a2 - 1))).bind fun t219 => (if t218 ≥ t219 then ((capnpref01_Pow.f k (wrap64 (a2 - 1))).bind fun t220 => ((capnpref01_Pow.f k (wrap64 (a2 - 1))).bind fun t221 => (some (wrap64 ((wrap64 ((wrap64 (t218)) - (wrap64 (t220)))) - (wrap64 (t221))))))) else (some (wrap64 (t218))))))
theorem capnpref01_Signed.mono : ∀ a0 a1 a2 k, LeO (capnpref01_Signed.f k a0 a1 a2) (capnpref01_Signed.f (k + 1) a0 a1 a2) := by
  intro a0 a1 a2 k
  unfold capnpref01_Signed.f
  repeat' first
      | (with_reducible apply capnpref01_Field.mono)
      | (with_reducible apply capnpref01_Pow.mono)
      | (with_reducible exact LeO.refl _)
      | (with_reducible refine LeO.ite ?_ ?_)
      | (with_reducible refine LeO.bind ?_ (fun _ => ?_))
set_option maxHeartbeats 8000000 in
set_option maxRecDepth 100000 in
theorem capnpref01_Signed.calls (k : Nat) (a0 a1 a2 r : Int) (w : World) (h : capnpref01_Signed.f k a0 a1 a2 = some r) :
    Calls Tryd.prog 38 #[.int .u64 a0, .int .i64 a1, .int .i64 a2] w fun e w' => e = .returned (.int .i64 r) ∧ Drawn0 w w' := by
  have H := h
  unfold capnpref01_Signed.f at H
  clear h
  replace H := Option.bind_eq_some_iff.mp H
  obtain ⟨t218, A40, H⟩ := H
  have A4 := Aside0.mk A40
  clear A40
  by_cases c5 : a2 = 64
  · rw [if_pos c5] at H
    have c5b0 : (a2 == 64) = true := beq_iff_eq.mpr c5
    clear c5
    obtain rfl := Option.some.inj H
    go_enter Tryd.func38, Tryd.ntmps38
    go_wp2_with (((with_reducible refine gate_callee (f := 39) rfl ?_); refine goesL_ (some 11) rfl rfl Tryd.func39 (by kernel_rfl) rfl #[.int .u64 a0, .int .i64 a1, .int .i64 a2] rfl (by (try simp only [List.map_toArray, List.map_cons, List.map_nil]); rfl) ?_; (with_reducible refine (capnpref01_Field.calls k a0 a1 a2 t218 _ A4.out).mono ?_); rintro e w' ⟨rfl, ⟨nd, rfl⟩⟩; refine ⟨_, rfl, ?_⟩))
    go_ret
    exact ⟨by rfl, by repeat (first | exact Drawn0.refl _ | apply Drawn0.step)⟩
  · rw [if_neg c5] at H
    have c5b0 : (a2 == 64) = false := beq_eq_false_iff_ne.mpr c5
    replace H := Option.bind_eq_some_iff.mp H
    obtain ⟨t219, A60, H⟩ := H
    have A6 := Aside0.mk A60
    clear A60
    by_cases c7 : t218 ≥ t219
    · rw [if_pos c7] at H
      have c7b0 : decide (t219 ≤ t218) = true := decide_eq_true c7
      clear c7
      replace H := Option.bind_eq_some_iff.mp H
      obtain ⟨t220, A80, H⟩ := H
      replace H : ((capnpref01_Pow.f k (wrap64 (a2 - 1))).bind fun t221 => (some (wrap64 ((wrap64 ((wrap64 (t218)) - (wrap64 (t220)))) - (wrap64 (t221)))))) = some r := H
      have A8 := Aside0.mk A80
      clear A80
      replace H := Option.bind_eq_some_iff.mp H
      obtain ⟨t221, A90, H⟩ := H
      replace H : (some (wrap64 ((wrap64 ((wrap64 (t218)) - (wrap64 (t220)))) - (wrap64 (t221))))) = some r := H
      have A9 := Aside0.mk A90
      clear A90
      obtain rfl := Option.some.inj H
      go_enter Tryd.func38, Tryd.ntmps38
      go_wp2_with (first | ((with_reducible refine gate_callee (f := 39) rfl ?_); refine goesL_ (some 11) rfl rfl Tryd.func39 (by kernel_rfl) rfl #[.int .u64 a0, .int .i64 a1, .int .i64 a2] rfl (by (try simp only [List.map_toArray, List.map_cons, List.map_nil]); rfl) ?_; (with_reducible refine (capnpref01_Field.calls k a0 a1 a2 t218 _ A4.out).mono ?_); rintro e w' ⟨rfl, ⟨nd, rfl⟩⟩; refine ⟨_, rfl, ?_⟩) | ((with_reducible refine gate_callee (f := 50) rfl ?_); refine goesL_ (some 19) rfl rfl Tryd.func50 (by kernel_rfl) rfl #[.int .i64 (wrap64 (a2 - 1))] rfl (by (try simp only [List.map_toArray, List.map_cons, List.map_nil]); rfl) ?_; (with_reducible refine (capnpref01_Pow.calls k (wrap64 (a2 - 1)) t219 _ A6.out).mono ?_); rintro e w' ⟨rfl, ⟨nd, rfl⟩⟩; refine ⟨_, rfl, ?_⟩) | ((with_reducible refine gate_callee (f := 50) rfl ?_); refine goesL_ (some 25) rfl rfl Tryd.func50 (by kernel_rfl) rfl #[.int .i64 (wrap64 (a2 - 1))] rfl (by (try simp only [List.map_toArray, List.map_cons, List.map_nil]); rfl) ?_; (with_reducible refine (capnpref01_Pow.calls k (wrap64 (a2 - 1)) t220 _ A8.out).mono ?_); rintro e w' ⟨rfl, ⟨nd, rfl⟩⟩; refine ⟨_, rfl, ?_⟩) | ((with_reducible refine gate_callee (f := 50) rfl ?_); refine goesL_ (some 30) rfl rfl Tryd.func50 (by kernel_rfl) rfl #[.int .i64 (wrap64 (a2 - 1))] rfl (by (try simp only [List.map_toArray, List.map_cons, List.map_nil]); rfl) ?_; (with_reducible refine (capnpref01_Pow.calls k (wrap64 (a2 - 1)) t221 _ A9.out).mono ?_); rintro e w' ⟨rfl, ⟨nd, rfl⟩⟩; refine ⟨_, rfl, ?_⟩))
      go_ret
      exact ⟨by rfl, by repeat (first | exact Drawn0.refl _ | apply Drawn0.step)⟩
    · rw [if_neg c7] at H
      have c7b0 : decide (t219 ≤ t218) = false := decide_eq_false c7
      clear c7
      obtain rfl := Option.some.inj H
      go_enter Tryd.func38, Tryd.ntmps38
      go_wp2_with (first | ((with_reducible refine gate_callee (f := 39) rfl ?_); refine goesL_ (some 11) rfl rfl Tryd.func39 (by kernel_rfl) rfl #[.int .u64 a0, .int .i64 a1, .int .i64 a2] rfl (by (try simp only [List.map_toArray, List.map_cons, List.map_nil]); rfl) ?_; (with_reducible refine (capnpref01_Field.calls k a0 a1 a2 t218 _ A4.out).mono ?_); rintro e w' ⟨rfl, ⟨nd, rfl⟩⟩; refine ⟨_, rfl, ?_⟩) | ((with_reducible refine gate_callee (f := 50) rfl ?_); refine goesL_ (some 19) rfl rfl Tryd.func50 (by kernel_rfl) rfl #[.int .i64 (wrap64 (a2 - 1))] rfl (by (try simp only [List.map_toArray, List.map_cons, List.map_nil]); rfl) ?_; (with_reducible refine (capnpref01_Pow.calls k (wrap64 (a2 - 1)) t219 _ A6.out).mono ?_); rintro e w' ⟨rfl, ⟨nd, rfl⟩⟩; refine ⟨_, rfl, ?_⟩))
      go_ret
      exact ⟨by rfl, by repeat (first | exact Drawn0.refl _ | apply Drawn0.step)⟩

end Go.Proofs.YtcjhejopcghgnaaDoor.P

namespace Go.Proofs.YtcjhejopcghgnaaDoor.P
open Go.RowKit Go.Proofs.YtcjhejopcghgnaaDoorW.PrintWords Go.Proofs.YtcjhejopcghgnaaDoorW.PrintLast Go.Proofs.YtcjhejopcghgnaaDoorW.PrintMore
attribute [local go_sem] max2_int min2_int max_two min_two max_three min_three max_four min_four   -- for this text's walks alone
set_option linter.unusedVariables false
set_option linter.unusedSimpArgs false

variable {gb : Bool}
/-! ### capnpref02_Decode: function 21 -/
def capnpref02_Decode.f (k : Nat) (a0 : Int) : Option (Int × Int × Int × Int × Int × Int × Bool × Int × Int × Int) := if (wrap64 (Int.tmod a0 4)) = 0 then ((capnpref01_Signed.f k a0 2 30).bind fun t224 => ((capnpref01_Field.f k a0 32 16).bind fun t225 => ((capnpref01_Field.f k a0 48 16).bind fun t226 => (some (wrap64 (Int.tmod a0 4), t224, wrap64 (t225), wrap64 (t226), 0, 0, false, 0, 0, 0))))) else (if (wrap64 (Int.tmod a0 4)) = 1 then ((capnpref01_Signed.f k a0 2 30).bind fun t227 => ((capnpref01_Field.f k a0 32 3).bind fun t228 => ((capnpref01_Field.f k a0 35 29).bind fun t229 => (some (wrap64 (Int.tmod a0 4), t227, 0, 0, wrap64 (t228), wrap64 (t229), false, 0, 0, 0))))) else (if (wrap64 (Int.tmod a0 4)) = 2 then ((capnpref01_Field.f k a0 2 1).bind fun t230 => ((capnpref01_Field.f k a0 3 29).bind fun t231 => (some (wrap64 (Int.tmod a0 4), 0, 0, 0, 0, 0, (t230 == 1), wrap64 (t231), (IntKind.u64.wrap (Int.tdiv a0 4294967296)) % 4294967296, 0)))) else (if (wrap64 (Int.tmod a0 4)) = 3 then ((capnpref01_Field.f k a0 2 30).bind fun t232 => (some (wrap64 (Int.tmod a0 4), 0, 0, 0, 0, 0, false, 0, (IntKind.u64.wrap (Int.tdiv a0 4294967296)) % 4294967296, (t232) % 4294967296))) else (some (wrap64 (Int.tmod a0 4), 0, 0, 0, 0, 0, false, 0, 0, 0)))))
theorem capnpref02_Decode.mono : ∀ a0 k, LeO (capnpref02_Decode.f k a0) (capnpref02_Decode.f (k + 1) a0) := by
  intro a0 k
  unfold capnpref02_Decode.f
  repeat' first
      | (with_reducible apply capnpref01_Field.mono)
      | (with_reducible apply capnpref01_Signed.mono)
      | (with_reducible exact LeO.refl _)
      | (with_reducible refine LeO.ite ?_ ?_)
      | (with_reducible refine LeO.bind ?_ (fun _ => ?_))
set_option maxHeartbeats 8000000 in
set_option maxRecDepth 100000 in
theorem capnpref02_Decode.calls (k : Nat) (a0 r1 r2 r3 r4 r5 r6 : Int) (r7 : Bool) (r8 r9 r10 : Int) (w : World) (h : capnpref02_Decode.f k a0 = some (r1, r2, r3, r4, r5, r6, r7, r8, r9, r10)) :
    Calls Tryd.prog 21 #[.int .u64 a0] w fun e w' => e = .returned (.agg #[.int .i64 r1, .int .i64 r2, .int .i64 r3, .int .i64 r4, .int .i64 r5, .int .i64 r6, .bool r7, .int .i64 r8, .int .u32 r9, .int .u32 r10]) ∧ Below w.heap.size w w' := by
  have HB := Aside0.mk (Below.refl w.heap.size w)
  have H := h
  unfold capnpref02_Decode.f at H
  clear h
  by_cases c2 : (wrap64 (Int.tmod a0 4)) = 0
  · rw [if_pos c2] at H
    have c2b0 : ((wrap64 (Int.tmod a0 4)) == 0) = true := beq_iff_eq.mpr c2
    clear c2
    replace H := Option.bind_eq_some_iff.mp H
    obtain ⟨t224, A30, H⟩ := H
    have A3 := Aside0.mk A30
    clear A30
    replace H := Option.bind_eq_some_iff.mp H
    obtain ⟨t225, A40, H⟩ := H
    have A4 := Aside0.mk A40
    clear A40
    replace H := Option.bind_eq_some_iff.mp H
    obtain ⟨t226, A50, H⟩ := H
    replace H : (some (wrap64 (Int.tmod a0 4), t224, wrap64 (t225), wrap64 (t226), 0, 0, false, 0, 0, 0)) = some (r1, r2, r3, r4, r5, r6, r7, r8, r9, r10) := H
    have A5 := Aside0.mk A50
    clear A50
    simp only [Option.some.injEq, Prod.mk.injEq] at H
    obtain ⟨rfl, rfl, rfl, rfl, rfl, rfl, rfl, rfl, rfl, rfl⟩ := H
    go_enter Tryd.func21, Tryd.ntmps21
    go_wp2_with (first | ((with_reducible refine gate_dst (N := 2) rfl ?_); refine box_event ?hg (N := 2) ?hd (cs := #[.int .i64 0, .int .i64 0, .int .i64 0, .int .i64 0, .int .i64 0, .int .i64 0, .bool false, .int .i64 0, .int .u32 0, .int .u32 0]) (t := 39) ?hr ?_; (case hd => rfl); (case hg => rfl); (case hr => (go_simp; done)); intro gb222 hg w6 hbox hb; replace BK222 := Aside0.mk (hbox); replace GE222 := Aside0.mk (ge_of HB.out hg); replace HB := Aside0.mk (below_step HB.out hb); clear hb hbox hg) | ((with_reducible refine gate_dst (N := 3) rfl ?_); refine box_event ?hg (N := 3) ?hd (cs := #[.int .i64 0, .int .i64 0, .int .i64 0, .int .i64 0, .int .i64 0, .int .i64 0, .bool false, .int .i64 0, .int .u32 0, .int .u32 0]) (t := 39) ?hr ?_; (case hd => rfl); (case hg => rfl); (case hr => (go_simp; done)); intro gb223 hg w7 hbox hb; replace BK223 := Aside0.mk (hbox); replace GE223 := Aside0.mk (ge_of HB.out hg); replace HB := Aside0.mk (below_step HB.out hb); replace NB222_223 := Aside0.mk (ne_l BK222.out hg); replace BK222 := Aside0.mk (blk_below BK222.out hb); clear hb hbox hg; have hnc8 := NB222_223.out; obtain ⟨hcz9_0, hcz9_1, hcz9_2, hcz9_3, hcz9_4, hcz9_5, hcz9_6, hcz9_7, hcz9_8, hcz9_9⟩ := cells10 BK223.out; obtain ⟨hfz9_0, hfz9_1, hfz9_2, hfz9_3, -, -, -, -, -, -⟩ := frz10 BK223.out) | ((with_reducible refine gate_callee (f := 38) rfl ?_); refine goesL_ (some 13) rfl rfl Tryd.func38 (by kernel_rfl) rfl #[.int .u64 a0, .int .i64 2, .int .i64 30] rfl (by (try simp only [List.map_toArray, List.map_cons, List.map_nil]); rfl) ?_; (with_reducible refine (capnpref01_Signed.calls k a0 2 30 t224 _ A3.out).mono ?_); rintro e w' ⟨rfl, ⟨nd, rfl⟩⟩; refine ⟨_, rfl, ?_⟩) | ((with_reducible refine gate_callee (f := 39) rfl ?_); refine goesL_ (some 16) rfl rfl Tryd.func39 (by kernel_rfl) rfl #[.int .u64 a0, .int .i64 32, .int .i64 16] rfl (by (try simp only [List.map_toArray, List.map_cons, List.map_nil]); rfl) ?_; (with_reducible refine (capnpref01_Field.calls k a0 32 16 t225 _ A4.out).mono ?_); rintro e w' ⟨rfl, ⟨nd, rfl⟩⟩; refine ⟨_, rfl, ?_⟩) | ((with_reducible refine gate_callee (f := 39) rfl ?_); refine goesL_ (some 20) rfl rfl Tryd.func39 (by kernel_rfl) rfl #[.int .u64 a0, .int .i64 48, .int .i64 16] rfl (by (try simp only [List.map_toArray, List.map_cons, List.map_nil]); rfl) ?_; (with_reducible refine (capnpref01_Field.calls k a0 48 16 t226 _ A5.out).mono ?_); rintro e w' ⟨rfl, ⟨nd, rfl⟩⟩; refine ⟨_, rfl, ?_⟩; obtain ⟨hcz10_0, hcz10_1, hcz10_2, hcz10_3, hcz10_4, hcz10_5, hcz10_6, hcz10_7, hcz10_8, hcz10_9⟩ := cells10 BK222.out; obtain ⟨hfz10_0, hfz10_1, hfz10_2, hfz10_3, hfz10_4, hfz10_5, hfz10_6, hfz10_7, hfz10_8, hfz10_9⟩ := frz10 BK222.out))
    refine bodyPost_ret (results_cell_row rfl _ _ gb222 39 #[.int .i64 (wrap64 (Int.tmod a0 4)), .int .i64 t224, .int .i64 (wrap64 (t225)), .int .i64 (wrap64 (t226)), .int .i64 0, .int .i64 0, .bool false, .int .i64 0, .int .u32 0, .int .u32 0] (0, 0) _ rfl (by apply put10; refine blk_far ?_ NB222_223.out _; (with_reducible repeat ((refine blk_drewN ?_ _))); refine blk_far ?_ NB222_223.out _; (with_reducible repeat ((refine blk_drewN ?_ _))); refine blk_far ?_ NB222_223.out _; (with_reducible repeat ((refine blk_drewN ?_ _))); refine blk_far ?_ NB222_223.out _; exact BK222.out) Tryd.underlying39 rfl (by kernel_rfl)) rfl ?_
    exact ⟨by rfl, by repeat ((with_reducible first | exact HB.out | apply pw_below_drewN | refine below_set ?_ GE222.out | refine below_set ?_ GE223.out))⟩
  · rw [if_neg c2] at H
    have c2b0 : ((wrap64 (Int.tmod a0 4)) == 0) = false := beq_eq_false_iff_ne.mpr c2
    by_cases c11 : (wrap64 (Int.tmod a0 4)) = 1
    · rw [if_pos c11] at H
      have c11b0 : ((wrap64 (Int.tmod a0 4)) == 1) = true := beq_iff_eq.mpr c11
      clear c11
      replace H := Option.bind_eq_some_iff.mp H
      obtain ⟨t227, A120, H⟩ := H
      have A12 := Aside0.mk A120
      clear A120
      replace H := Option.bind_eq_some_iff.mp H
      obtain ⟨t228, A130, H⟩ := H
      have A13 := Aside0.mk A130
      clear A130
      replace H := Option.bind_eq_some_iff.mp H
      obtain ⟨t229, A140, H⟩ := H
      replace H : (some (wrap64 (Int.tmod a0 4), t227, 0, 0, wrap64 (t228), wrap64 (t229), false, 0, 0, 0)) = some (r1, r2, r3, r4, r5, r6, r7, r8, r9, r10) := H
      have A14 := Aside0.mk A140
      clear A140
      simp only [Option.some.injEq, Prod.mk.injEq] at H
      obtain ⟨rfl, rfl, rfl, rfl, rfl, rfl, rfl, rfl, rfl, rfl⟩ := H
      go_enter Tryd.func21, Tryd.ntmps21
      go_wp2_with (first | ((with_reducible refine gate_dst (N := 2) rfl ?_); refine box_event ?hg (N := 2) ?hd (cs := #[.int .i64 0, .int .i64 0, .int .i64 0, .int .i64 0, .int .i64 0, .int .i64 0, .bool false, .int .i64 0, .int .u32 0, .int .u32 0]) (t := 39) ?hr ?_; (case hd => rfl); (case hg => rfl); (case hr => (go_simp; done)); intro gb222 hg w15 hbox hb; replace BK222 := Aside0.mk (hbox); replace GE222 := Aside0.mk (ge_of HB.out hg); replace HB := Aside0.mk (below_step HB.out hb); clear hb hbox hg) | ((with_reducible refine gate_dst (N := 3) rfl ?_); refine box_event ?hg (N := 3) ?hd (cs := #[.int .i64 0, .int .i64 0, .int .i64 0, .int .i64 0, .int .i64 0, .int .i64 0, .bool false, .int .i64 0, .int .u32 0, .int .u32 0]) (t := 39) ?hr ?_; (case hd => rfl); (case hg => rfl); (case hr => (go_simp; done)); intro gb223 hg w16 hbox hb; replace BK223 := Aside0.mk (hbox); replace GE223 := Aside0.mk (ge_of HB.out hg); replace HB := Aside0.mk (below_step HB.out hb); replace NB222_223 := Aside0.mk (ne_l BK222.out hg); replace BK222 := Aside0.mk (blk_below BK222.out hb); clear hb hbox hg; have hnc17 := NB222_223.out; obtain ⟨hcz18_0, hcz18_1, hcz18_2, hcz18_3, hcz18_4, hcz18_5, hcz18_6, hcz18_7, hcz18_8, hcz18_9⟩ := cells10 BK223.out; obtain ⟨hfz18_0, hfz18_1, -, -, hfz18_4, hfz18_5, -, -, -, -⟩ := frz10 BK223.out) | ((with_reducible refine gate_callee (f := 38) rfl ?_); refine goesL_ (some 26) rfl rfl Tryd.func38 (by kernel_rfl) rfl #[.int .u64 a0, .int .i64 2, .int .i64 30] rfl (by (try simp only [List.map_toArray, List.map_cons, List.map_nil]); rfl) ?_; (with_reducible refine (capnpref01_Signed.calls k a0 2 30 t227 _ A12.out).mono ?_); rintro e w' ⟨rfl, ⟨nd, rfl⟩⟩; refine ⟨_, rfl, ?_⟩) | ((with_reducible refine gate_callee (f := 39) rfl ?_); refine goesL_ (some 29) rfl rfl Tryd.func39 (by kernel_rfl) rfl #[.int .u64 a0, .int .i64 32, .int .i64 3] rfl (by (try simp only [List.map_toArray, List.map_cons, List.map_nil]); rfl) ?_; (with_reducible refine (capnpref01_Field.calls k a0 32 3 t228 _ A13.out).mono ?_); rintro e w' ⟨rfl, ⟨nd, rfl⟩⟩; refine ⟨_, rfl, ?_⟩) | ((with_reducible refine gate_callee (f := 39) rfl ?_); refine goesL_ (some 33) rfl rfl Tryd.func39 (by kernel_rfl) rfl #[.int .u64 a0, .int .i64 35, .int .i64 29] rfl (by (try simp only [List.map_toArray, List.map_cons, List.map_nil]); rfl) ?_; (with_reducible refine (capnpref01_Field.calls k a0 35 29 t229 _ A14.out).mono ?_); rintro e w' ⟨rfl, ⟨nd, rfl⟩⟩; refine ⟨_, rfl, ?_⟩; obtain ⟨hcz19_0, hcz19_1, hcz19_2, hcz19_3, hcz19_4, hcz19_5, hcz19_6, hcz19_7, hcz19_8, hcz19_9⟩ := cells10 BK222.out; obtain ⟨hfz19_0, hfz19_1, hfz19_2, hfz19_3, hfz19_4, hfz19_5, hfz19_6, hfz19_7, hfz19_8, hfz19_9⟩ := frz10 BK222.out))
      refine bodyPost_ret (results_cell_row rfl _ _ gb222 39 #[.int .i64 (wrap64 (Int.tmod a0 4)), .int .i64 t227, .int .i64 0, .int .i64 0, .int .i64 (wrap64 (t228)), .int .i64 (wrap64 (t229)), .bool false, .int .i64 0, .int .u32 0, .int .u32 0] (0, 0) _ rfl (by apply put10; refine blk_far ?_ NB222_223.out _; (with_reducible repeat ((refine blk_drewN ?_ _))); refine blk_far ?_ NB222_223.out _; (with_reducible repeat ((refine blk_drewN ?_ _))); refine blk_far ?_ NB222_223.out _; (with_reducible repeat ((refine blk_drewN ?_ _))); refine blk_far ?_ NB222_223.out _; exact BK222.out) Tryd.underlying39 rfl (by kernel_rfl)) rfl ?_
      exact ⟨by rfl, by repeat ((with_reducible first | exact HB.out | apply pw_below_drewN | refine below_set ?_ GE222.out | refine below_set ?_ GE223.out))⟩
    · rw [if_neg c11] at H
      have c11b0 : ((wrap64 (Int.tmod a0 4)) == 1) = false := beq_eq_false_iff_ne.mpr c11
      by_cases c20 : (wrap64 (Int.tmod a0 4)) = 2
      · rw [if_pos c20] at H
        have c20b0 : ((wrap64 (Int.tmod a0 4)) == 2) = true := beq_iff_eq.mpr c20
        clear c20
        replace H := Option.bind_eq_some_iff.mp H
        obtain ⟨t230, A210, H⟩ := H
        have A21 := Aside0.mk A210
        clear A210
        replace H := Option.bind_eq_some_iff.mp H
        obtain ⟨t231, A220, H⟩ := H
        have A22 := Aside0.mk A220
        clear A220
        simp only [Option.some.injEq, Prod.mk.injEq] at H
        obtain ⟨rfl, rfl, rfl, rfl, rfl, rfl, rfl, rfl, rfl, rfl⟩ := H
        go_enter Tryd.func21, Tryd.ntmps21
        go_wp2_with (first | ((with_reducible refine gate_dst (N := 2) rfl ?_); refine box_event ?hg (N := 2) ?hd (cs := #[.int .i64 0, .int .i64 0, .int .i64 0, .int .i64 0, .int .i64 0, .int .i64 0, .bool false, .int .i64 0, .int .u32 0, .int .u32 0]) (t := 39) ?hr ?_; (case hd => rfl); (case hg => rfl); (case hr => (go_simp; done)); intro gb222 hg w23 hbox hb; replace BK222 := Aside0.mk (hbox); replace GE222 := Aside0.mk (ge_of HB.out hg); replace HB := Aside0.mk (below_step HB.out hb); clear hb hbox hg) | ((with_reducible refine gate_dst (N := 3) rfl ?_); refine box_event ?hg (N := 3) ?hd (cs := #[.int .i64 0, .int .i64 0, .int .i64 0, .int .i64 0, .int .i64 0, .int .i64 0, .bool false, .int .i64 0, .int .u32 0, .int .u32 0]) (t := 39) ?hr ?_; (case hd => rfl); (case hg => rfl); (case hr => (go_simp; done)); intro gb223 hg w24 hbox hb; replace BK223 := Aside0.mk (hbox); replace GE223 := Aside0.mk (ge_of HB.out hg); replace HB := Aside0.mk (below_step HB.out hb); replace NB222_223 := Aside0.mk (ne_l BK222.out hg); replace BK222 := Aside0.mk (blk_below BK222.out hb); clear hb hbox hg; have hnc25 := NB222_223.out; obtain ⟨hcz26_0, hcz26_1, hcz26_2, hcz26_3, hcz26_4, hcz26_5, hcz26_6, hcz26_7, hcz26_8, hcz26_9⟩ := cells10 BK223.out; obtain ⟨hfz26_0, -, -, -, -, -, hfz26_6, hfz26_7, hfz26_8, -⟩ := frz10 BK223.out) | ((with_reducible refine gate_callee (f := 39) rfl ?_); refine goesL_ (some 39) rfl rfl Tryd.func39 (by kernel_rfl) rfl #[.int .u64 a0, .int .i64 2, .int .i64 1] rfl (by (try simp only [List.map_toArray, List.map_cons, List.map_nil]); rfl) ?_; (with_reducible refine (capnpref01_Field.calls k a0 2 1 t230 _ A21.out).mono ?_); rintro e w' ⟨rfl, ⟨nd, rfl⟩⟩; refine ⟨_, rfl, ?_⟩) | ((with_reducible refine gate_callee (f := 39) rfl ?_); refine goesL_ (some 43) rfl rfl Tryd.func39 (by kernel_rfl) rfl #[.int .u64 a0, .int .i64 3, .int .i64 29] rfl (by (try simp only [List.map_toArray, List.map_cons, List.map_nil]); rfl) ?_; (with_reducible refine (capnpref01_Field.calls k a0 3 29 t231 _ A22.out).mono ?_); rintro e w' ⟨rfl, ⟨nd, rfl⟩⟩; refine ⟨_, rfl, ?_⟩; obtain ⟨hcz27_0, hcz27_1, hcz27_2, hcz27_3, hcz27_4, hcz27_5, hcz27_6, hcz27_7, hcz27_8, hcz27_9⟩ := cells10 BK222.out; obtain ⟨hfz27_0, hfz27_1, hfz27_2, hfz27_3, hfz27_4, hfz27_5, hfz27_6, hfz27_7, hfz27_8, hfz27_9⟩ := frz10 BK222.out))
        refine bodyPost_ret (results_cell_row rfl _ _ gb222 39 #[.int .i64 (wrap64 (Int.tmod a0 4)), .int .i64 0, .int .i64 0, .int .i64 0, .int .i64 0, .int .i64 0, .bool (t230 == 1), .int .i64 (wrap64 (t231)), .int .u32 ((IntKind.u64.wrap (Int.tdiv a0 4294967296)) % 4294967296), .int .u32 0] (0, 0) _ rfl (by apply put10; refine blk_far ?_ NB222_223.out _; refine blk_far ?_ NB222_223.out _; (with_reducible repeat ((refine blk_drewN ?_ _))); refine blk_far ?_ NB222_223.out _; (with_reducible repeat ((refine blk_drewN ?_ _))); refine blk_far ?_ NB222_223.out _; exact BK222.out) Tryd.underlying39 rfl (by kernel_rfl)) rfl ?_
        exact ⟨by rfl, by repeat ((with_reducible first | exact HB.out | apply pw_below_drewN | refine below_set ?_ GE222.out | refine below_set ?_ GE223.out))⟩
      · rw [if_neg c20] at H
        have c20b0 : ((wrap64 (Int.tmod a0 4)) == 2) = false := beq_eq_false_iff_ne.mpr c20
        by_cases c28 : (wrap64 (Int.tmod a0 4)) = 3
        · rw [if_pos c28] at H
          have c28b0 : ((wrap64 (Int.tmod a0 4)) == 3) = true := beq_iff_eq.mpr c28
          clear c28
          replace H := Option.bind_eq_some_iff.mp H
          obtain ⟨t232, A290, H⟩ := H
          have A29 := Aside0.mk A290
          clear A290
          simp only [Option.some.injEq, Prod.mk.injEq] at H
          obtain ⟨rfl, rfl, rfl, rfl, rfl, rfl, rfl, rfl, rfl, rfl⟩ := H
          go_enter Tryd.func21, Tryd.ntmps21
          go_wp2_with (first | ((with_reducible refine gate_dst (N := 2) rfl ?_); refine box_event ?hg (N := 2) ?hd (cs := #[.int .i64 0, .int .i64 0, .int .i64 0, .int .i64 0, .int .i64 0, .int .i64 0, .bool false, .int .i64 0, .int .u32 0, .int .u32 0]) (t := 39) ?hr ?_; (case hd => rfl); (case hg => rfl); (case hr => (go_simp; done)); intro gb222 hg w30 hbox hb; replace BK222 := Aside0.mk (hbox); replace GE222 := Aside0.mk (ge_of HB.out hg); replace HB := Aside0.mk (below_step HB.out hb); clear hb hbox hg) | ((with_reducible refine gate_dst (N := 3) rfl ?_); refine box_event ?hg (N := 3) ?hd (cs := #[.int .i64 0, .int .i64 0, .int .i64 0, .int .i64 0, .int .i64 0, .int .i64 0, .bool false, .int .i64 0, .int .u32 0, .int .u32 0]) (t := 39) ?hr ?_; (case hd => rfl); (case hg => rfl); (case hr => (go_simp; done)); intro gb223 hg w31 hbox hb; replace BK223 := Aside0.mk (hbox); replace GE223 := Aside0.mk (ge_of HB.out hg); replace HB := Aside0.mk (below_step HB.out hb); replace NB222_223 := Aside0.mk (ne_l BK222.out hg); replace BK222 := Aside0.mk (blk_below BK222.out hb); clear hb hbox hg; have hnc32 := NB222_223.out; obtain ⟨hcz33_0, hcz33_1, hcz33_2, hcz33_3, hcz33_4, hcz33_5, hcz33_6, hcz33_7, hcz33_8, hcz33_9⟩ := cells10 BK223.out; obtain ⟨hfz33_0, -, -, -, -, -, -, -, hfz33_8, hfz33_9⟩ := frz10 BK223.out) | ((with_reducible refine gate_callee (f := 39) rfl ?_); refine goesL_ (some 53) rfl rfl Tryd.func39 (by kernel_rfl) rfl #[.int .u64 a0, .int .i64 2, .int .i64 30] rfl (by (try simp only [List.map_toArray, List.map_cons, List.map_nil]); rfl) ?_; (with_reducible refine (capnpref01_Field.calls k a0 2 30 t232 _ A29.out).mono ?_); rintro e w' ⟨rfl, ⟨nd, rfl⟩⟩; refine ⟨_, rfl, ?_⟩; obtain ⟨hcz34_0, hcz34_1, hcz34_2, hcz34_3, hcz34_4, hcz34_5, hcz34_6, hcz34_7, hcz34_8, hcz34_9⟩ := cells10 BK222.out; obtain ⟨hfz34_0, hfz34_1, hfz34_2, hfz34_3, hfz34_4, hfz34_5, hfz34_6, hfz34_7, hfz34_8, hfz34_9⟩ := frz10 BK222.out))
          refine bodyPost_ret (results_cell_row rfl _ _ gb222 39 #[.int .i64 (wrap64 (Int.tmod a0 4)), .int .i64 0, .int .i64 0, .int .i64 0, .int .i64 0, .int .i64 0, .bool false, .int .i64 0, .int .u32 ((IntKind.u64.wrap (Int.tdiv a0 4294967296)) % 4294967296), .int .u32 ((t232) % 4294967296)] (0, 0) _ rfl (by apply put10; refine blk_far ?_ NB222_223.out _; refine blk_far ?_ NB222_223.out _; (with_reducible repeat ((refine blk_drewN ?_ _))); refine blk_far ?_ NB222_223.out _; exact BK222.out) Tryd.underlying39 rfl (by kernel_rfl)) rfl ?_
          exact ⟨by rfl, by repeat ((with_reducible first | exact HB.out | apply pw_below_drewN | refine below_set ?_ GE222.out | refine below_set ?_ GE223.out))⟩
        · rw [if_neg c28] at H
          have c28b0 : ((wrap64 (Int.tmod a0 4)) == 3) = false := beq_eq_false_iff_ne.mpr c28
          simp only [Option.some.injEq, Prod.mk.injEq] at H
          obtain ⟨rfl, rfl, rfl, rfl, rfl, rfl, rfl, rfl, rfl, rfl⟩ := H
          go_enter Tryd.func21, Tryd.ntmps21
          go_wp2_with (first | ((with_reducible refine gate_dst (N := 2) rfl ?_); refine box_event ?hg (N := 2) ?hd (cs := #[.int .i64 0, .int .i64 0, .int .i64 0, .int .i64 0, .int .i64 0, .int .i64 0, .bool false, .int .i64 0, .int .u32 0, .int .u32 0]) (t := 39) ?hr ?_; (case hd => rfl); (case hg => rfl); (case hr => (go_simp; done)); intro gb222 hg w35 hbox hb; replace BK222 := Aside0.mk (hbox); replace GE222 := Aside0.mk (ge_of HB.out hg); replace HB := Aside0.mk (below_step HB.out hb); clear hb hbox hg) | ((with_reducible refine gate_dst (N := 3) rfl ?_); refine box_event ?hg (N := 3) ?hd (cs := #[.int .i64 0, .int .i64 0, .int .i64 0, .int .i64 0, .int .i64 0, .int .i64 0, .bool false, .int .i64 0, .int .u32 0, .int .u32 0]) (t := 39) ?hr ?_; (case hd => rfl); (case hg => rfl); (case hr => (go_simp; done)); intro gb223 hg w36 hbox hb; replace BK223 := Aside0.mk (hbox); replace GE223 := Aside0.mk (ge_of HB.out hg); replace HB := Aside0.mk (below_step HB.out hb); replace NB222_223 := Aside0.mk (ne_l BK222.out hg); replace BK222 := Aside0.mk (blk_below BK222.out hb); clear hb hbox hg; have hnc37 := NB222_223.out; obtain ⟨hcz38_0, hcz38_1, hcz38_2, hcz38_3, hcz38_4, hcz38_5, hcz38_6, hcz38_7, hcz38_8, hcz38_9⟩ := cells10 BK223.out; have hfz38_0 := blk_frozen BK223.out 0; obtain ⟨hcz39_0, hcz39_1, hcz39_2, hcz39_3, hcz39_4, hcz39_5, hcz39_6, hcz39_7, hcz39_8, hcz39_9⟩ := cells10 BK222.out; obtain ⟨hfz39_0, hfz39_1, hfz39_2, hfz39_3, hfz39_4, hfz39_5, hfz39_6, hfz39_7, hfz39_8, hfz39_9⟩ := frz10 BK222.out))
          refine bodyPost_ret (results_cell_row rfl _ _ gb222 39 #[.int .i64 (wrap64 (Int.tmod a0 4)), .int .i64 0, .int .i64 0, .int .i64 0, .int .i64 0, .int .i64 0, .bool false, .int .i64 0, .int .u32 0, .int .u32 0] (0, 0) _ rfl (by apply put10; refine blk_far ?_ NB222_223.out _; exact BK222.out) Tryd.underlying39 rfl (by kernel_rfl)) rfl ?_
          exact ⟨by rfl, by repeat ((with_reducible first | exact HB.out | refine below_set ?_ GE222.out | refine below_set ?_ GE223.out))⟩

end Go.Proofs.YtcjhejopcghgnaaDoor.P

set_option linter.unusedVariables false
set_option linter.unusedSimpArgs false
namespace Go.Proofs.YtcjhejopcghgnaaDoor.P
open Go.RowKit Go.Proofs.YtcjhejopcghgnaaDoorW.PrintWords Go.Proofs.YtcjhejopcghgnaaDoorW.PrintLast Go.Proofs.YtcjhejopcghgnaaDoorW.PrintMore
theorem wrap_nat {n : Nat} (h : n < 2 ^ 64) : IntKind.u64.wrap (n : Int) = n := wrap_u64 ⟨Int.natCast_nonneg _, by omega⟩
theorem pow_loop (n : Nat) (hn : n ≤ 63) : ∀ (d k j : Nat), j + d = n → d < k → capnpref01_Pow.l0 k n ((2 ^ j : Nat) : Int) j = some ((2 ^ n : Nat) : Int) := by
  intro d
  induction d with
  | zero =>
    intro k j hj hk
    obtain ⟨k, rfl⟩ : ∃ m, k = m + 1 := ⟨k - 1, by omega⟩
    obtain rfl : j = n := by omega
    simp only [capnpref01_Pow.l0]
    rw [if_neg (by omega)]
  | succ d ih =>
    intro k j hj hk
    obtain ⟨k, rfl⟩ : ∃ m, k = m + 1 := ⟨k - 1, by omega⟩
    simp only [capnpref01_Pow.l0]
    rw [if_pos (by omega), wrap64_id (by omega)]
    have h2 : 2 ^ (j + 1) ≤ 2 ^ 63 := Nat.pow_le_pow_right (by decide) (by omega)
    have e : ((2 ^ j : Nat) : Int) * 2 = ((2 ^ (j + 1) : Nat) : Int) := by rw [Nat.pow_succ]; push_cast; rfl
    rw [e, wrap_nat (by omega)]
    exact ih k (j + 1) (by omega) (by omega)
theorem Pow_eq (n : Nat) (hn : n ≤ 63) (k : Nat) (hk : n < k) : capnpref01_Pow.f k n = some ((2 ^ n : Nat) : Int) := pow_loop n hn n k 0 (by omega) hk
theorem rfield_loop (a : Nat) (ha : a < 2 ^ 64) (i m : Nat) (h2 : i + m ≤ 64) : ∀ (d k j : Nat), j + d = m → d + 64 < k → capnpref01_Field.l0 k a i m ((a / 2 ^ i % 2 ^ j : Nat) : Int) j = some ((a / 2 ^ i % 2 ^ m : Nat) : Int) := by
  intro d
  induction d with
  | zero =>
    intro k j hj hk
    obtain ⟨k, rfl⟩ : ∃ q, k = q + 1 := ⟨k - 1, by omega⟩
    obtain rfl : j = m := by omega
    simp only [capnpref01_Field.l0]
    rw [if_neg (by omega)]
  | succ d ih =>
    intro k j hj hk
    obtain ⟨k, rfl⟩ : ∃ q, k = q + 1 := ⟨k - 1, by omega⟩
    simp only [capnpref01_Field.l0]
    rw [if_pos (by omega), wrap64_id (x := (i : Int) + (j : Int)) (by omega), show (i : Int) + (j : Int) = ((i + j : Nat) : Int) by push_cast; rfl, Pow_eq _ (by omega) k (by omega)]
    simp only [Option.bind_some]
    have hp : 0 < 2 ^ (i + j) := Nat.pow_pos (by decide)
    rw [if_neg (by omega)]
    have hdv : Int.tdiv (a : Int) ((2 ^ (i + j) : Nat) : Int) = ((a / 2 ^ (i + j) : Nat) : Int) := by rw [Int.tdiv_eq_ediv_of_nonneg (Int.natCast_nonneg _)]; push_cast; rfl
    have hlt : a / 2 ^ (i + j) < 2 ^ 64 := Nat.lt_of_le_of_lt (Nat.div_le_self _ _) ha
    rw [hdv, wrap_nat hlt]
    have hmd : Int.tmod ((a / 2 ^ (i + j) : Nat) : Int) 2 = ((a / 2 ^ (i + j) % 2 : Nat) : Int) := by rw [Int.tmod_eq_emod_of_nonneg (Int.natCast_nonneg _)]; push_cast; rfl
    rw [hmd]
    have hs : a / 2 ^ i % 2 ^ (j + 1) = a / 2 ^ i % 2 ^ j + 2 ^ j * (a / 2 ^ (i + j) % 2) := by
      rw [Nat.mod_pow_succ, Nat.div_div_eq_div_mul, ← Nat.pow_add]
    have hjj : (j : Int) + 1 = ((j + 1 : Nat) : Int) := by push_cast; rfl
    have hb : a / 2 ^ i % 2 ^ (j + 1) < 2 ^ 64 := Nat.lt_of_le_of_lt (Nat.mod_le _ _) (Nat.lt_of_le_of_lt (Nat.div_le_self _ _) ha)
    rw [wrap64_id (x := (j : Int) + 1) (by omega), hjj]
    rcases Nat.mod_two_eq_zero_or_one (a / 2 ^ (i + j)) with h0 | h0
    · rw [if_neg (by omega)]
      rw [h0] at hs
      rw [show a / 2 ^ i % 2 ^ j = a / 2 ^ i % 2 ^ (j + 1) by omega]
      exact ih k (j + 1) (by omega) (by omega)
    · rw [if_pos (by omega), Pow_eq _ (by omega) k (by omega)]
      simp only [Option.bind_some]
      rw [h0, Nat.mul_one] at hs
      rw [show ((a / 2 ^ i % 2 ^ j : Nat) : Int) + ((2 ^ j : Nat) : Int) = ((a / 2 ^ i % 2 ^ (j + 1) : Nat) : Int) by rw [hs]; push_cast; rfl, wrap_nat hb]
      exact ih k (j + 1) (by omega) (by omega)
theorem rField_eq {a : Int} (h : 0 ≤ a ∧ a < 18446744073709551616) (i m : Nat) (h2 : i + m ≤ 64) (k : Nat) (hk : 200 < k) : capnpref01_Field.f k a i m = some (a / 2 ^ i % 2 ^ m) := by
  obtain ⟨n, rfl⟩ := Int.eq_ofNat_of_zero_le h.1
  unfold capnpref01_Field.f
  have := rfield_loop n (by omega) i m h2 m k 0 (by omega) (by omega)
  simp only [Nat.pow_zero, Nat.mod_one] at this
  rw [show ((0 : Nat) : Int) = 0 from rfl] at this
  rw [this]
  simp
theorem rSigned_eq {a : Int} (h : 0 ≤ a ∧ a < 18446744073709551616) (k : Nat) (hk : 200 < k) : capnpref01_Signed.f k a 2 30 = some (sgn30 (a / 4 % 1073741824)) := by
  unfold capnpref01_Signed.f
  have e1 : capnpref01_Field.f k a 2 30 = some (a / 4 % 1073741824) := rField_eq h 2 30 (by decide) k hk
  have e2 : capnpref01_Pow.f k (wrap64 (30 - 1)) = some 536870912 := by rw [show wrap64 (30 - 1) = ((29 : Nat) : Int) by rw [wrap64_id (by omega)]; rfl, Pow_eq 29 (by decide) k (by omega)]; rfl
  rw [e1]
  simp only [Option.bind_some]
  rw [if_neg (by decide), e2]
  simp only [Option.bind_some]
  unfold sgn30
  by_cases hc : a / 4 % 1073741824 ≥ 536870912
  · rw [if_pos hc, if_pos hc]
    simp only [Option.some.injEq]
    rw [wrap64_id (x := a / 4 % 1073741824) (by omega), wrap64_id (x := 536870912) (by omega), wrap64_id (x := a / 4 % 1073741824 - 536870912) (by omega), wrap64_id (by omega)]
    omega
  · rw [if_neg hc, if_neg (by omega), wrap64_id (by omega)]
theorem rDecode_eq {a : Int} (h : 0 ≤ a ∧ a < 18446744073709551616) (k : Nat) (hk : 200 < k) : capnpref02_Decode.f k a = some (decI a) := by
  have k1 : capnpref01_Field.f k a 32 16 = some (a / 4294967296 % 65536) := rField_eq h 32 16 (by decide) k hk
  have k2 : capnpref01_Field.f k a 48 16 = some (a / 281474976710656 % 65536) := rField_eq h 48 16 (by decide) k hk
  have k3 : capnpref01_Field.f k a 32 3 = some (a / 4294967296 % 8) := rField_eq h 32 3 (by decide) k hk
  have k4 : capnpref01_Field.f k a 35 29 = some (a / 34359738368 % 536870912) := rField_eq h 35 29 (by decide) k hk
  have k5 : capnpref01_Field.f k a 2 1 = some (a / 4 % 2) := rField_eq h 2 1 (by decide) k hk
  have k6 : capnpref01_Field.f k a 3 29 = some (a / 8 % 536870912) := rField_eq h 3 29 (by decide) k hk
  have k8 : capnpref01_Field.f k a 2 30 = some (a / 4 % 1073741824) := rField_eq h 2 30 (by decide) k hk
  have hm : wrap64 (Int.tmod a 4) = a % 4 := by rw [Int.tmod_eq_emod_of_nonneg h.1, wrap64_id (by omega)]
  have hd : IntKind.u64.wrap (Int.tdiv a 4294967296) = a / 4294967296 := by rw [Int.tdiv_eq_ediv_of_nonneg h.1, wrap_u64 (by omega)]
  unfold capnpref02_Decode.f decI
  rw [hm, k1, k2, k3, k4, k5, k6, k8, rSigned_eq h k hk, hd]
  simp only [Option.bind_some]
  rw [wrap64_id (x := a / 4294967296 % 65536) (by omega), wrap64_id (x := a / 281474976710656 % 65536) (by omega), wrap64_id (x := a / 4294967296 % 8) (by omega), wrap64_id (x := a / 34359738368 % 536870912) (by omega), wrap64_id (x := a / 8 % 536870912) (by omega)]
  rw [show a / 4 % 1073741824 % 4294967296 = a / 4 % 1073741824 by omega]
  by_cases c0 : a % 4 = 0
  · simp [c0]
  by_cases c1 : a % 4 = 1
  · simp [c1]
  by_cases c2 : a % 4 = 2
  · simp [c2]
  · have c3 : a % 4 = 3 := by omega
    simp [c3]
theorem rValid_eq (k o d q e c : Int) (b : Bool) (pd sg lo : Int) (hs : 0 ≤ sg ∧ sg ≤ 4294967295) (hl : 0 ≤ lo ∧ lo ≤ 4294967295) : capnpref02_Valid.f k o d q e c b pd sg lo = some (decide (vldP (k, o, d, q, e, c, b, pd, sg, lo))) := by
  have beq0 : ∀ x : Int, (0 == x) = decide (x = 0) := fun x => by
    by_cases h : x = 0
    · subst h; rfl
    · rw [decide_eq_false h]; rw [beq_eq_false_iff_ne]; omega
  have ofs : ∀ x : Int, capnpref02_offset.f x = some (decide (-536870912 ≤ x ∧ x ≤ 536870911)) := fun x => by
    unfold capnpref02_offset.f
    by_cases h : x ≥ -536870912
    · rw [if_pos h]
      simp [h]
      try (intro; omega)
    · rw [if_neg h]
      simp [h]
      try omega
  unfold capnpref02_Valid.f
  simp only [beq0, ofs, Option.bind_some]
  cases b
  all_goals
    repeat' split
    all_goals
      simp only [Option.some.injEq]
      rw [Bool.eq_iff_iff]
      simp only [Bool.and_eq_true, decide_eq_true_eq, Bool.not_eq_true', Bool.false_eq_true, Bool.true_eq_false, Bool.not_true, Bool.not_false, and_true, true_and, and_false, false_and, false_iff, vldP, not_and, reduceCtorEq, or_false, false_or] at *
      try omega
theorem rEncode_eq (k o d q e c : Int) (b : Bool) (pd sg lo : Int) (hs : 0 ≤ sg ∧ sg ≤ 4294967295) (hl : 0 ≤ lo ∧ lo ≤ 4294967295) (n : Nat) (hn : 0 < n) :
    capnpref02_Encode.f n k o d q e c b pd sg lo = some (if vldP (k, o, d, q, e, c, b, pd, sg, lo) then (pakI (k, o, d, q, e, c, b, pd, sg, lo), true) else (0, false)) := by
  obtain ⟨n, rfl⟩ : ∃ m, n = m + 1 := ⟨n - 1, by omega⟩
  unfold capnpref02_Encode.f
  rw [rValid_eq k o d q e c b pd sg lo hs hl]
  simp only [Option.bind_some, decide_eq_true_eq]
  by_cases hv : vldP (k, o, d, q, e, c, b, pd, sg, lo)
  · rw [if_pos hv, if_pos hv]
    have hw : ∀ x : Int, 0 ≤ x ∧ x < 18446744073709551616 → IntKind.u64.wrap x = x := fun x h => wrap_u64 h
    have hm : ∀ x : Int, -536870912 ≤ x ∧ x ≤ 536870911 → (if x < 0 then wrap64 (x + 1073741824) else x) = x % 1073741824 := fun x h => by
      split
      · rw [wrap64_id (by omega)]; omega
      · omega
    unfold vldP at hv
    simp only at hv
    have key : ∀ x5 : Int, x5 = (if o < 0 then wrap64 (o + 1073741824) else o) → capnpref02_Encode.j0 (n + 1) (IntKind.u64.wrap k) x5 k o d q e c b pd sg lo = some (pakI (k, o, d, q, e, c, b, pd, sg, lo), true) := by
      intro x5 hx5
      simp only [capnpref02_Encode.j0]
      rcases hv with ⟨rfl, h1, h2, h3, h4, h5, h6, rfl, rfl, rfl, rfl, rfl, rfl⟩ | ⟨rfl, h1, h2, rfl, rfl, h3, h4, h5, h6, rfl, rfl, rfl, rfl⟩ | ⟨rfl, rfl, rfl, rfl, rfl, rfl, h1, h2, h3, h4, rfl⟩ | ⟨rfl, rfl, rfl, rfl, rfl, rfl, rfl, rfl, h1, h2, h3, h4⟩
      · rw [hm o ⟨h1, h2⟩] at hx5
        subst hx5
        simp only [if_true, pakI, Option.some.injEq, Prod.mk.injEq, and_true]
        rw [hw 0 (by omega), hw (o % 1073741824) (by omega), hw d (by omega), hw q (by omega), hw (4 * (o % 1073741824)) (by omega), hw (4294967296 * d) (by omega), hw (281474976710656 * q) (by omega), hw (0 + _) (by omega), hw (_ + 4294967296 * d) (by omega), hw (_ + 281474976710656 * q) (by omega)]
        omega
      · rw [hm o ⟨h1, h2⟩] at hx5
        subst hx5
        simp only [if_true, show ¬ ((1 : Int) = 0) by decide, if_false, pakI, Option.some.injEq, Prod.mk.injEq, and_true]
        rw [hw 1 (by omega), hw (o % 1073741824) (by omega), hw e (by omega), hw c (by omega), hw (4 * (o % 1073741824)) (by omega), hw (4294967296 * e) (by omega), hw (34359738368 * c) (by omega), hw (1 + _) (by omega), hw (_ + 4294967296 * e) (by omega), hw (_ + 34359738368 * c) (by omega)]
        omega
      · cases b
        · simp only [if_true, show ¬ ((2 : Int) = 0) by decide, show ¬ ((2 : Int) = 1) by decide, Bool.false_eq_true, if_false, pakI, Option.some.injEq, Prod.mk.injEq, and_true]
          rw [hw 2 (by omega), hw pd (by omega), hw sg (by omega), hw (8 * pd) (by omega), hw (4294967296 * sg) (by omega), hw (2 + _) (by omega), hw (_ + 4294967296 * sg) (by omega)]
          omega
        · simp only [if_true, show ¬ ((2 : Int) = 0) by decide, show ¬ ((2 : Int) = 1) by decide, if_false, pakI, Option.some.injEq, Prod.mk.injEq, and_true]
          rw [hw 2 (by omega), hw pd (by omega), hw sg (by omega), hw (8 * pd) (by omega), hw (4294967296 * sg) (by omega), hw (2 + 4) (by omega), hw (2 + 4 + _) (by omega), hw (_ + 4294967296 * sg) (by omega)]
          omega
      · simp only [show ¬ ((3 : Int) = 0) by decide, show ¬ ((3 : Int) = 1) by decide, show ¬ ((3 : Int) = 2) by decide, if_false, pakI, Option.some.injEq, Prod.mk.injEq, and_true]
        rw [hw 3 (by omega), hw lo (by omega), hw sg (by omega), hw (4 * lo) (by omega), hw (4294967296 * sg) (by omega), hw (3 + _) (by omega), hw (_ + 4294967296 * sg) (by omega)]
        omega
    split
    · rename_i ho
      exact key _ (by rw [if_pos ho])
    · rename_i ho
      exact key _ (by rw [if_neg ho])
  · rw [if_neg hv, if_neg hv]
end Go.Proofs.YtcjhejopcghgnaaDoor.P

namespace Go.Proofs.YtcjhejopcghgnaaDoor.P
open Go.RowKit Go.Proofs.YtcjhejopcghgnaaDoorW.PrintWords Go.Proofs.YtcjhejopcghgnaaDoorW.PrintLast Go.Proofs.YtcjhejopcghgnaaDoorW.PrintMore
attribute [local go_sem] max2_int min2_int max_two min_two max_three min_three max_four min_four   -- for this text's walks alone
set_option linter.unusedVariables false
set_option linter.unusedSimpArgs false

variable {gb : Bool}
/-! ### capnpref05_InBounds: function 30 -/
def capnpref05_InBounds.f (l0 : List (List Int)) (a1 a2 a3 : Int) : Option (Bool) := if a1 < 0 then (some false) else (if a1 ≥ (l0.length : Int) then (some false) else (if a2 < 0 then (some false) else (if a3 < 0 then (some false) else (if 0 ≤ a1 then (if a1 < (l0.length : Int) then (if a2 ≤ ((rd_L5 l0 a1).length : Int) then (some (decide (a3 ≤ (wrap64 (((rd_L5 l0 a1).length : Int) - a2))))) else (some false)) else (none)) else (none)))))
set_option maxHeartbeats 8000000 in
set_option maxRecDepth 100000 in
theorem capnpref05_InBounds.calls (A0 : Option Addr) (c0 : Nat) (l0 : List (List Int)) (a1 a2 a3 : Int) (r : Bool) (w : World) (hr0 : Kd.C (Kd.slice 23 (Kd.int .u64)) w A0 l0.length l0) (hc0 : l0.length ≤ c0) (h : capnpref05_InBounds.f l0 a1 a2 a3 = some r) :
    Calls Tryd.prog 30 #[.slice A0 l0.length c0, .int .i64 a1, .int .i64 a2, .int .i64 a3] w fun e w' => e = .returned (.bool r) ∧ Drawn0 w w' := by
  have HR0 := Aside0.mk hr0
  clear hr0 hc0
  have H := h
  unfold capnpref05_InBounds.f at H
  clear h
  by_cases c5 : a1 < 0
  · rw [if_pos c5] at H
    have c5b0 : decide (a1 < 0) = true := decide_eq_true c5
    clear c5
    obtain rfl := Option.some.inj H
    go_enter Tryd.func30, Tryd.ntmps30
    go_wp2
    go_ret
    exact ⟨by rfl, by repeat (exact Drawn0.refl _)⟩
  · rw [if_neg c5] at H
    have c5b0 : decide (a1 < 0) = false := decide_eq_false c5
    clear c5
    by_cases c6 : a1 ≥ (l0.length : Int)
    · rw [if_pos c6] at H
      have c6b0 : decide ((l0.length : Int) ≤ a1) = true := decide_eq_true c6
      clear c6
      obtain rfl := Option.some.inj H
      go_enter Tryd.func30, Tryd.ntmps30
      go_wp2
      go_ret
      exact ⟨by rfl, by repeat (exact Drawn0.refl _)⟩
    · rw [if_neg c6] at H
      have c6b0 : decide ((l0.length : Int) ≤ a1) = false := decide_eq_false c6
      clear c6
      by_cases c7 : a2 < 0
      · rw [if_pos c7] at H
        have c7b0 : decide (a2 < 0) = true := decide_eq_true c7
        clear c7
        obtain rfl := Option.some.inj H
        go_enter Tryd.func30, Tryd.ntmps30
        go_wp2
        go_ret
        exact ⟨by rfl, by repeat (exact Drawn0.refl _)⟩
      · rw [if_neg c7] at H
        have c7b0 : decide (a2 < 0) = false := decide_eq_false c7
        clear c7
        by_cases c8 : a3 < 0
        · rw [if_pos c8] at H
          have c8b0 : decide (a3 < 0) = true := decide_eq_true c8
          clear c8
          obtain rfl := Option.some.inj H
          go_enter Tryd.func30, Tryd.ntmps30
          go_wp2
          go_ret
          exact ⟨by rfl, by repeat (exact Drawn0.refl _)⟩
        · rw [if_neg c8] at H
          have c8b0 : decide (a3 < 0) = false := decide_eq_false c8
          clear c8
          by_cases c9 : 0 ≤ a1
          · rw [if_pos c9] at H
            have c9b0 : decide (0 ≤ a1) = true := decide_eq_true c9
            clear c9
            by_cases c10 : a1 < (l0.length : Int)
            · rw [if_pos c10] at H
              have c10b0 : decide (a1 < (l0.length : Int)) = true := decide_eq_true c10
              clear c10
              by_cases c11 : a2 ≤ ((rd_L5 l0 a1).length : Int)
              · rw [if_pos c11] at H
                have c11b0 : decide (a2 ≤ ((rd_L5 l0 a1).length : Int)) = true := decide_eq_true c11
                clear c11
                obtain rfl := Option.some.inj H
                have p399 : 0 ≤ (a1 : Int) := of_decide_eq_true (by (with_reducible assumption))
                have q399 : a1 < (l0.length : Int) := of_decide_eq_true (by (with_reducible assumption))
                obtain ⟨ad399, A399_0, c399_0, e399, hx399_0, hl399_0, hi399_0⟩ := at_L5 HR0.out a1 p399 q399
                cases e399
                clear hi399_0 hl399_0
                replace p399 := eq_true p399
                replace q399 := eq_true q399
                go_enter Tryd.func30, Tryd.ntmps30
                go_wp2
                go_ret
                exact ⟨by rfl, by repeat (exact Drawn0.refl _)⟩
              · rw [if_neg c11] at H
                have c11b0 : decide (a2 ≤ ((rd_L5 l0 a1).length : Int)) = false := decide_eq_false c11
                clear c11
                obtain rfl := Option.some.inj H
                have p399 : 0 ≤ (a1 : Int) := of_decide_eq_true (by (with_reducible assumption))
                have q399 : a1 < (l0.length : Int) := of_decide_eq_true (by (with_reducible assumption))
                obtain ⟨ad399, A399_0, c399_0, e399, hx399_0, hl399_0, hi399_0⟩ := at_L5 HR0.out a1 p399 q399
                cases e399
                clear hi399_0 hl399_0
                replace p399 := eq_true p399
                replace q399 := eq_true q399
                go_enter Tryd.func30, Tryd.ntmps30
                go_wp2
                go_ret
                exact ⟨by rfl, by repeat (exact Drawn0.refl _)⟩
            · rw [if_neg c10] at H
              exact absurd H (by simp)
          · rw [if_neg c9] at H
            exact absurd H (by simp)

end Go.Proofs.YtcjhejopcghgnaaDoor.P

namespace Go.Proofs.YtcjhejopcghgnaaDoor.P
open Go.RowKit Go.Proofs.YtcjhejopcghgnaaDoorW.PrintWords Go.Proofs.YtcjhejopcghgnaaDoorW.PrintLast Go.Proofs.YtcjhejopcghgnaaDoorW.PrintMore
attribute [local go_sem] max2_int min2_int max_two min_two max_three min_three max_four min_four   -- for this text's walks alone
set_option linter.unusedVariables false
set_option linter.unusedSimpArgs false

variable {gb : Bool}
/-! ### capnpref05_Word: function 36 -/
mutual
def capnpref05_Word.l0 : Nat → List (List Int) → Int → Int → Int → Option (Int × Bool)
  | 0, _, _, _, _ => none
  | k + 1, x0, x1, x2, x8 => if x8 < (x0.length : Int) then (capnpref05_Word.l1 k x0 x1 x2 x8 0) else (some (0, false))
def capnpref05_Word.l1 : Nat → List (List Int) → Int → Int → Int → Int → Option (Int × Bool)
  | 0, _, _, _, _, _ => none
  | k + 1, x0, x1, x2, x8, x9 => if 0 ≤ x8 then (if x8 < (x0.length : Int) then (if x9 < ((rd_L5 x0 x8).length : Int) then (if x8 = x1 then (if x9 = x2 then (if 0 ≤ x9 then (some (rd (rd_L5 x0 x8) x9, true)) else (none)) else (capnpref05_Word.l1 k x0 x1 x2 x8 (wrap64 (x9 + 1)))) else (capnpref05_Word.l1 k x0 x1 x2 x8 (wrap64 (x9 + 1)))) else (capnpref05_Word.l0 k x0 x1 x2 (wrap64 (x8 + 1)))) else (none)) else (none)
end
def capnpref05_Word.f (k : Nat) (l0 : List (List Int)) (a1 a2 : Int) : Option (Int × Bool) := capnpref05_Word.l0 k l0 a1 a2 0
theorem capnpref05_Word.mono_l : ∀ k, (∀ y0 y1 y2 y3, LeO (capnpref05_Word.l0 k y0 y1 y2 y3) (capnpref05_Word.l0 (k + 1) y0 y1 y2 y3)) ∧ (∀ y0 y1 y2 y3 y4, LeO (capnpref05_Word.l1 k y0 y1 y2 y3 y4) (capnpref05_Word.l1 (k + 1) y0 y1 y2 y3 y4))
  | 0 => ⟨fun _ _ _ _ r h => by simp [capnpref05_Word.l0] at h, fun _ _ _ _ _ r h => by simp [capnpref05_Word.l1] at h⟩
  | k + 1 => by
    obtain ⟨ih0, ih1⟩ := capnpref05_Word.mono_l k
    refine ⟨?_, ?_⟩
    · intro y0 y1 y2 y3
      unfold capnpref05_Word.l0
      repeat' first
      | (with_reducible apply ih1)
      | (with_reducible exact LeO.refl _)
      | (with_reducible refine LeO.ite ?_ ?_)
    · intro y0 y1 y2 y3 y4
      unfold capnpref05_Word.l1
      repeat' first
      | (with_reducible apply ih0)
      | (with_reducible apply ih1)
      | (with_reducible exact LeO.refl _)
      | (with_reducible refine LeO.ite ?_ ?_)
theorem capnpref05_Word.mono : ∀ a0 a1 a2 k, LeO (capnpref05_Word.f k a0 a1 a2) (capnpref05_Word.f (k + 1) a0 a1 a2) := by
  intro a0 a1 a2 k
  obtain ⟨ih0, ih1⟩ := capnpref05_Word.mono_l k
  unfold capnpref05_Word.f
  repeat' (with_reducible apply ih0)
set_option maxHeartbeats 8000000 in
set_option maxRecDepth 100000 in
theorem capnpref05_Word.calls (k : Nat) (A0 : Option Addr) (c0 : Nat) (l0 : List (List Int)) (a1 a2 r1 : Int) (r2 : Bool) (w : World) (hr0 : Kd.C (Kd.slice 23 (Kd.int .u64)) w A0 l0.length l0) (hc0 : l0.length ≤ c0) (h : capnpref05_Word.f k l0 a1 a2 = some (r1, r2)) :
    Calls Tryd.prog 36 #[.slice A0 l0.length c0, .int .i64 a1, .int .i64 a2] w fun e w' => e = .returned (.tuple #[.int .u64 r1, .bool r2]) ∧ Drawn0 w w' := by
  have HR0 := Aside0.mk hr0
  clear hr0 hc0
  have H : (capnpref05_Word.l0 k l0 a1 a2 0) = some (r1, r2) := h
  clear h
  have H' := Aside0.mk H
  clear H
  go_enter Tryd.func36, Tryd.ntmps36
  go_wp2
  go_loopg [8] k (fun kq v8 w' => ∃ (x8_1 : Int), v8 = .int .i64 x8_1 ∧ Aside0 (capnpref05_Word.l0 kq l0 a1 a2 x8_1 = some (r1, r2)) ∧ Aside0 (kq ≤ k) ∧ Drawn0 w w')
  case atStart => exact ⟨(0), (by rfl), H', ⟨Nat.le_refl _⟩, by repeat (exact Drawn0.refl _)⟩
  case round =>
    clear H'
    skip
    skip
    obtain ⟨x8_1, rfl, HA, HK1, ⟨m1, rfl⟩⟩ := hrel
    cases gk with
    | zero => exact absurd HA.out (by simp [capnpref05_Word.l0])
    | succ k1 =>
      have H := HA.out
      clear HA
      simp only [capnpref05_Word.l0] at H
      by_cases c4 : x8_1 < (l0.length : Int)
      · rw [if_pos c4] at H
        have c4b0 : decide (x8_1 < (l0.length : Int)) = true := decide_eq_true c4
        clear c4
        have H' := Aside0.mk H
        clear H
        go_wp2
        go_loopg [9] k1 (fun kq v9 w' => ∃ (x9_2 : Int), v9 = .int .i64 x9_2 ∧ Aside0 (capnpref05_Word.l1 kq l0 a1 a2 x8_1 x9_2 = some (r1, r2)) ∧ Aside0 (kq ≤ k1) ∧ Drawn0 w w')
        case atStart => exact ⟨(0), (by rfl), H', ⟨Nat.le_refl _⟩, by repeat (first | exact Drawn0.refl _ | apply Drawn0.step)⟩
        case round =>
          clear H'
          skip
          skip
          skip
          try clear c4b0
          skip
          obtain ⟨x9_2, rfl, HA, HK2, ⟨m2, rfl⟩⟩ := hrel
          cases gk with
          | zero => exact absurd HA.out (by simp [capnpref05_Word.l1])
          | succ k2 =>
            have H := HA.out
            clear HA
            simp only [capnpref05_Word.l1] at H
            by_cases c5 : 0 ≤ x8_1
            · rw [if_pos c5] at H
              have c5b0 : decide (0 ≤ x8_1) = true := decide_eq_true c5
              clear c5
              by_cases c6 : x8_1 < (l0.length : Int)
              · rw [if_pos c6] at H
                have c6b0 : decide (x8_1 < (l0.length : Int)) = true := decide_eq_true c6
                clear c6
                by_cases c7 : x9_2 < ((rd_L5 l0 x8_1).length : Int)
                · rw [if_pos c7] at H
                  have c7b0 : decide (x9_2 < ((rd_L5 l0 x8_1).length : Int)) = true := decide_eq_true c7
                  clear c7
                  by_cases c8 : x8_1 = a1
                  · rw [if_pos c8] at H
                    have c8b0 : (x8_1 == a1) = true := beq_iff_eq.mpr c8
                    clear c8
                    by_cases c9 : x9_2 = a2
                    · rw [if_pos c9] at H
                      have c9b0 : (x9_2 == a2) = true := beq_iff_eq.mpr c9
                      clear c9
                      by_cases c10 : 0 ≤ x9_2
                      · rw [if_pos c10] at H
                        have c10b0 : decide (0 ≤ x9_2) = true := decide_eq_true c10
                        clear c10
                        simp only [Option.some.injEq, Prod.mk.injEq] at H
                        obtain ⟨rfl, rfl⟩ := H
                        have p233 : 0 ≤ (x8_1 : Int) := of_decide_eq_true (by (with_reducible assumption))
                        have q233 : x8_1 < (l0.length : Int) := of_decide_eq_true (by (with_reducible assumption))
                        obtain ⟨ad233, A233_0, c233_0, e233, hx233_0, hl233_0, hi233_0⟩ := at_L5 HR0.out x8_1 p233 q233
                        cases e233
                        have HR233_0 := Aside0.mk hi233_0
                        clear hi233_0 hl233_0
                        replace p233 := eq_true p233
                        replace q233 := eq_true q233
                        have p234 : 0 ≤ (x8_1 : Int) := of_decide_eq_true (by (with_reducible assumption))
                        have q234 : x8_1 < (l0.length : Int) := of_decide_eq_true (by (with_reducible assumption))
                        obtain ⟨ad234, A234_0, c234_0, e234, hx234_0, hl234_0, hi234_0⟩ := at_L5 HR0.out x8_1 p234 q234
                        obtain rfl : ad233 = ad234 := (by injection e234)
                        have HR234_0 := Aside0.mk hi234_0
                        have HC234_0 := Aside0.mk hl234_0
                        clear hi234_0 hl234_0
                        replace p234 := eq_true p234
                        replace q234 := eq_true q234
                        have ea_ := Option.some.inj (hx233_0.symm.trans hx234_0)
                        injection ea_ with ea_ en_ ec_
                        subst ea_
                        subst ec_
                        clear en_
                        have p235 : 0 ≤ (x9_2 : Int) := of_decide_eq_true (by (with_reducible assumption))
                        have q235 : x9_2 < ((rd_L5 l0 x8_1).length : Int) := of_decide_eq_true (by (with_reducible assumption))
                        obtain ⟨ad235, e235, hx235_0⟩ := Kd.at_int HR234_0.out x9_2 p235 q235
                        cases e235
                        replace p235 := eq_true p235
                        replace q235 := eq_true q235
                        go_wp2
                        go_ret2
                        exact ⟨by rfl, by repeat (first | exact Drawn0.refl _ | apply Drawn0.step)⟩
                      · rw [if_neg c10] at H
                        exact absurd H (by simp)
                    · rw [if_neg c9] at H
                      have c9b0 : (x9_2 == a2) = false := beq_eq_false_iff_ne.mpr c9
                      have H' := Aside0.mk H
                      clear H
                      have p233 : 0 ≤ (x8_1 : Int) := of_decide_eq_true (by (with_reducible assumption))
                      have q233 : x8_1 < (l0.length : Int) := of_decide_eq_true (by (with_reducible assumption))
                      obtain ⟨ad233, A233_0, c233_0, e233, hx233_0, hl233_0, hi233_0⟩ := at_L5 HR0.out x8_1 p233 q233
                      cases e233
                      clear hi233_0 hl233_0
                      replace p233 := eq_true p233
                      replace q233 := eq_true q233
                      go_wp2
                      go_roundg k2
                      case measure => omega
                      case rel => exact ⟨(wrap64 (x9_2 + 1)), (by rfl), H', ⟨by have := HK2.out; omega⟩, by repeat (first | exact Drawn0.refl _ | apply Drawn0.step)⟩
                  · rw [if_neg c8] at H
                    have c8b0 : (x8_1 == a1) = false := beq_eq_false_iff_ne.mpr c8
                    have H' := Aside0.mk H
                    clear H
                    have p233 : 0 ≤ (x8_1 : Int) := of_decide_eq_true (by (with_reducible assumption))
                    have q233 : x8_1 < (l0.length : Int) := of_decide_eq_true (by (with_reducible assumption))
                    obtain ⟨ad233, A233_0, c233_0, e233, hx233_0, hl233_0, hi233_0⟩ := at_L5 HR0.out x8_1 p233 q233
                    cases e233
                    clear hi233_0 hl233_0
                    replace p233 := eq_true p233
                    replace q233 := eq_true q233
                    go_wp2
                    go_roundg k2
                    case measure => omega
                    case rel => exact ⟨(wrap64 (x9_2 + 1)), (by rfl), H', ⟨by have := HK2.out; omega⟩, by repeat (first | exact Drawn0.refl _ | apply Drawn0.step)⟩
                · rw [if_neg c7] at H
                  have c7b0 : decide (x9_2 < ((rd_L5 l0 x8_1).length : Int)) = false := decide_eq_false c7
                  clear c7
                  have H' := Aside0.mk H
                  clear H
                  have p233 : 0 ≤ (x8_1 : Int) := of_decide_eq_true (by (with_reducible assumption))
                  have q233 : x8_1 < (l0.length : Int) := of_decide_eq_true (by (with_reducible assumption))
                  obtain ⟨ad233, A233_0, c233_0, e233, hx233_0, hl233_0, hi233_0⟩ := at_L5 HR0.out x8_1 p233 q233
                  cases e233
                  clear hi233_0 hl233_0
                  replace p233 := eq_true p233
                  replace q233 := eq_true q233
                  go_wp2
                  go_roundg k2
                  case measure => have := HK2.out; omega
                  case rel => exact ⟨(wrap64 (x8_1 + 1)), (by rfl), H', ⟨by have := HK1.out; have := HK2.out; omega⟩, by repeat (first | exact Drawn0.refl _ | apply Drawn0.step)⟩
              · rw [if_neg c6] at H
                exact absurd H (by simp)
            · rw [if_neg c5] at H
              exact absurd H (by simp)
      · rw [if_neg c4] at H
        have c4b0 : decide (x8_1 < (l0.length : Int)) = false := decide_eq_false c4
        clear c4
        simp only [Option.some.injEq, Prod.mk.injEq] at H
        obtain ⟨rfl, rfl⟩ := H
        go_wp2
        go_ret2
        exact ⟨by rfl, by repeat (first | exact Drawn0.refl _ | apply Drawn0.step)⟩

end Go.Proofs.YtcjhejopcghgnaaDoor.P

set_option linter.unusedVariables false
set_option linter.unusedSimpArgs false
namespace Go.Proofs.YtcjhejopcghgnaaDoor.P
open Go.RowKit Go.Proofs.YtcjhejopcghgnaaDoorW.PrintWords Go.Proofs.YtcjhejopcghgnaaDoorW.PrintLast Go.Proofs.YtcjhejopcghgnaaDoorW.PrintMore
theorem rInBounds_eq {l : List (List Int)} (h : Segs l) (s a n : Int) : capnpref05_InBounds.f l s a n = some (decide (inB l s a n)) := by
  have hw := (h.seg s).1
  unfold capnpref05_InBounds.f
  by_cases hb : inB l s a n
  · have hb' := hb
    obtain ⟨h1, h2, h3, h4, h5⟩ := hb'
    rw [decide_eq_true hb, if_neg (by omega), if_neg (by omega), if_neg (by omega), if_neg (by omega), if_pos h1, if_pos h2, if_pos (by omega), wrap64_id (by omega), decide_eq_true (by omega)]
  · rw [decide_eq_false hb]
    unfold inB at hb
    repeat' split
    all_goals first
      | rfl
      | (exfalso; omega)
      | (rw [wrap64_id (by omega), decide_eq_false (by omega)])
/-- Rounds that two nested loops over all words take. -/
def rounds : List (List Int) → Nat
  | [] => 1
  | s :: t => s.length + 2 + rounds t
theorem rWord_skip {l : List (List Int)} (h : Segs l) (s a : Int) {i : Nat} (hi : i < l.length) : ∀ (d k j : Nat), j + d = l[i].length → ¬ ((i : Int) = s ∧ (j : Int) ≤ a ∧ a < l[i].length) → capnpref05_Word.l1 (k + d + 1) l s a i j = capnpref05_Word.l0 k l s a ((i + 1 : Nat) : Int) := by
  intro d
  have hw := (h.2 _ (List.getElem_mem hi)).1
  have hl := h.1
  induction d with
  | zero =>
    intro k j hj hn
    rw [Nat.add_zero, capnpref05_Word.l1, if_pos (by omega), if_pos (by omega), rd_L1_nat hi, if_neg (by omega), wrap64_id (by omega)]
    rfl
  | succ d ih =>
    intro k j hj hn
    have e := ih k (j + 1) (by omega) (by omega)
    rw [← Nat.add_assoc, capnpref05_Word.l1, if_pos (by omega), if_pos (by omega), rd_L1_nat hi, if_pos (by omega), wrap64_id (by omega), show (j : Int) + 1 = ((j + 1 : Nat) : Int) by push_cast; rfl]
    by_cases h1 : (i : Int) = s
    · rw [if_pos h1, if_neg (by omega)]
      exact e
    · rw [if_neg h1]
      exact e
theorem rWord_hit {l : List (List Int)} (h : Segs l) {i t : Nat} (hi : i < l.length) (ht : t < l[i].length) : ∀ (d k j : Nat), j + d = t → d < k → capnpref05_Word.l1 k l i t i j = some (rd (rd_L5 l i) t, true) := by
  intro d
  have hw := (h.2 _ (List.getElem_mem hi)).1
  have hl := h.1
  induction d with
  | zero =>
    intro k j hj hk
    obtain ⟨k, rfl⟩ : ∃ q, k = q + 1 := ⟨k - 1, by omega⟩
    obtain rfl : j = t := by omega
    rw [capnpref05_Word.l1, if_pos (by omega), if_pos (by omega), rd_L1_nat hi, if_pos (by omega), if_pos rfl, if_pos rfl, if_pos (by omega)]
  | succ d ih =>
    intro k j hj hk
    obtain ⟨k, rfl⟩ : ∃ q, k = q + 1 := ⟨k - 1, by omega⟩
    have e := ih k (j + 1) (by omega) (by omega)
    rw [capnpref05_Word.l1, if_pos (by omega), if_pos (by omega), rd_L1_nat hi, if_pos (by omega), if_pos rfl, if_neg (by omega), wrap64_id (by omega), show (j : Int) + 1 = ((j + 1 : Nat) : Int) by push_cast; rfl, e, rd_L1_nat hi]
theorem rWord_loop {l : List (List Int)} (h : Segs l) (s a : Int) : ∀ (d k i : Nat), i + d = l.length → rounds (l.drop i) ≤ k → (s < (i : Int) → ¬ inB l s a 1) → capnpref05_Word.l0 k l s a i = some (if inB l s a 1 then (rd (rd_L5 l s) a, true) else (0, false)) := by
  intro d
  have hl := h.1
  induction d with
  | zero =>
    intro k i hi hk hn
    rw [List.drop_eq_nil_of_le (by omega)] at hk
    simp only [rounds] at hk
    obtain ⟨k, rfl⟩ : ∃ q, k = q + 1 := ⟨k - 1, by omega⟩
    rw [capnpref05_Word.l0, if_neg (by omega), if_neg]
    intro hb
    have hb' := hb
    obtain ⟨h1, h2, h3, h4, h5⟩ := hb'
    exact hn (by omega) hb
  | succ d ih =>
    intro k i hi hk hn
    have ha : i < l.length := by omega
    rw [List.drop_eq_getElem_cons ha] at hk
    simp only [rounds] at hk
    obtain ⟨k, rfl⟩ : ∃ q, k = q + l[i].length + 1 + 1 := ⟨k - l[i].length - 2, by omega⟩
    rw [capnpref05_Word.l0, if_pos (by omega)]
    by_cases hc : (i : Int) = s ∧ (0 : Int) ≤ a ∧ a < l[i].length
    · obtain ⟨rfl, h0, h1⟩ := hc
      obtain ⟨t, rfl⟩ := Int.eq_ofNat_of_zero_le h0
      have e := rWord_hit h ha (t := t) (by omega) t (k + l[i].length + 1) 0 (by omega) (by omega)
      rw [show ((0 : Nat) : Int) = 0 from rfl] at e
      rw [e, if_pos]
      refine ⟨by omega, by omega, h0, by omega, ?_⟩
      rw [rd_L1_nat ha]
      omega
    · have e := rWord_skip h s a ha l[i].length k 0 (by omega) (by rw [show ((0 : Nat) : Int) = 0 from rfl]; exact hc)
      rw [show ((0 : Nat) : Int) = 0 from rfl] at e
      rw [e]
      refine ih k (i + 1) (by omega) (by omega) ?_
      intro hs hb
      by_cases hlt : s < (i : Int)
      · exact hn hlt hb
      · obtain rfl : s = (i : Int) := by omega
        obtain ⟨h1, h2, h3, h4, h5⟩ := hb
        rw [rd_L1_nat ha] at h5
        exact hc ⟨rfl, h3, by omega⟩
theorem rWord_eq {l : List (List Int)} (h : Segs l) (s a : Int) (k : Nat) (hk : rounds l ≤ k) : capnpref05_Word.f k l s a = some (if inB l s a 1 then (rd (rd_L5 l s) a, true) else (0, false)) := by
  have := rWord_loop h s a l.length k 0 (by omega) (by simpa using hk) (fun hs hb => by have := hb.1; omega)
  exact this
theorem take_succ_drop {l : List Int} {a j : Nat} (h : a + j < l.length) : (l.drop a).take j ++ [l[a + j]] = (l.drop a).take (j + 1) := by
  rw [List.take_add_one, List.getElem?_drop, List.getElem?_eq_getElem h]
  rfl
end Go.Proofs.YtcjhejopcghgnaaDoor.P

set_option linter.unusedVariables false
namespace Go.Proofs.YtcjhejopcghgnaaDoor.P
open Go.RowKit Go.Proofs.YtcjhejopcghgnaaDoorW.PrintWords Go.Proofs.YtcjhejopcghgnaaDoorW.PrintLast Go.Proofs.YtcjhejopcghgnaaDoorW.PrintMore
/-- With enough rounds the function tells this. -/
def Has {α : Type} (g : Nat → Option α) (v : α) : Prop := ∃ K, ∀ k, K ≤ k → g k = some v
section
variable {α β : Type} {f g : Nat → Option α} {v : α} {r : β}
theorem Has.some_ (v : α) : Has (fun _ => some v) v := ⟨0, fun _ _ => rfl⟩
theorem Has.const {o : Option α} (h : o = some v) : Has (fun _ => o) v := ⟨0, fun _ _ => h⟩
theorem Has.bind {h : Nat → α → Option β} (hg : Has g v) (hh : Has (fun k => h k v) r) : Has (fun k => (g k).bind (h k)) r := by
  obtain ⟨K, hK⟩ := hg
  obtain ⟨K', hK'⟩ := hh
  exact ⟨max K K', fun k hk => by show (g k).bind (h k) = _; rw [hK k (by omega)]; exact hK' k (by omega)⟩
theorem Has.step (h : ∀ k, f (k + 1) = g k) (hg : Has g v) : Has f v := by
  obtain ⟨K, hK⟩ := hg
  refine ⟨K + 1, fun k hk => ?_⟩
  obtain ⟨k, rfl⟩ : ∃ m, k = m + 1 := ⟨k - 1, by omega⟩
  rw [h]
  exact hK k (by omega)
theorem Has.pos {c : Prop} [Decidable c] (hc : c) (hf : Has f v) : Has (fun k => if c then f k else g k) v := by simp only [if_pos hc]; exact hf
theorem Has.neg {c : Prop} [Decidable c] (hc : ¬ c) (hg : Has g v) : Has (fun k => if c then f k else g k) v := by simp only [if_neg hc]; exact hg
theorem Has.ex (h : Has g v) : ∃ k, g k = some v := by
  obtain ⟨K, hK⟩ := h
  exact ⟨K, hK K (Nat.le_refl _)⟩
theorem Has.eq (h : Has g v) {u : α} (e : v = u) : Has g u := e ▸ h
end
theorem w64 {x : Int} (h : -9223372036854775808 ≤ x ∧ x ≤ 9223372036854775807) : wrap64 x = x := by unfold wrap64; omega
theorem w64s (i : Nat) (h : i < 4611686018427387904) : wrap64 ((i : Int) + 1) = ((i + 1 : Nat) : Int) := by rw [w64 (by omega)]; push_cast; rfl
end Go.Proofs.YtcjhejopcghgnaaDoor.P

namespace Go.Proofs.YtcjhejopcghgnaaDoor.P
open Go.RowKit Go.Proofs.YtcjhejopcghgnaaDoorW.PrintWords Go.Proofs.YtcjhejopcghgnaaDoorW.PrintLast Go.Proofs.YtcjhejopcghgnaaDoorW.PrintMore
attribute [local go_sem] max2_int min2_int max_two min_two max_three min_three max_four min_four   -- for this text's walks alone
set_option linter.unusedVariables false
set_option linter.unusedSimpArgs false

variable {gb : Bool}
/-! ### capnpref07_IsFar: function 17 -/
def capnpref07_IsFar.f (a0 : Int) : Option (Bool) := some ((Int.tmod a0 4) == 2)
set_option maxHeartbeats 8000000 in
set_option maxRecDepth 100000 in
theorem capnpref07_IsFar.calls (a0 : Int) (r : Bool) (w : World) (h : capnpref07_IsFar.f a0 = some r) :
    Calls Tryd.prog 17 #[.int .u64 a0] w fun e w' => e = .returned (.bool r) ∧ Drawn0 w w' := by
  have H : (some ((Int.tmod a0 4) == 2)) = some r := h
  clear h
  obtain rfl := Option.some.inj H
  go_enter Tryd.func17, Tryd.ntmps17
  go_wp2
  go_ret
  exact ⟨by rfl, by repeat (exact Drawn0.refl _)⟩

end Go.Proofs.YtcjhejopcghgnaaDoor.P

namespace Go.Proofs.YtcjhejopcghgnaaDoor.P
open Go.RowKit Go.Proofs.YtcjhejopcghgnaaDoorW.PrintWords Go.Proofs.YtcjhejopcghgnaaDoorW.PrintLast Go.Proofs.YtcjhejopcghgnaaDoorW.PrintMore
attribute [local go_sem] max2_int min2_int max_two min_two max_three min_three max_four min_four   -- for this text's walks alone
set_option linter.unusedVariables false
set_option linter.unusedSimpArgs false

variable {gb : Bool}
/-! ### capnpref07_Landing: function 19 -/
def capnpref07_Landing.f (a0 : Int) : Option (Int × Int) := some (wrap64 (IntKind.u64.wrap (Int.tdiv a0 4294967296)), wrap64 (IntKind.u64.wrap (Int.tdiv (Int.tmod a0 4294967296) 8)))
set_option maxHeartbeats 8000000 in
set_option maxRecDepth 100000 in
theorem capnpref07_Landing.calls (a0 r1 r2 : Int) (w : World) (h : capnpref07_Landing.f a0 = some (r1, r2)) :
    Calls Tryd.prog 19 #[.int .u64 a0] w fun e w' => e = .returned (.tuple #[.int .i64 r1, .int .i64 r2]) ∧ Drawn0 w w' := by
  have H : (some (wrap64 (IntKind.u64.wrap (Int.tdiv a0 4294967296)), wrap64 (IntKind.u64.wrap (Int.tdiv (Int.tmod a0 4294967296) 8)))) = some (r1, r2) := h
  clear h
  simp only [Option.some.injEq, Prod.mk.injEq] at H
  obtain ⟨rfl, rfl⟩ := H
  go_enter Tryd.func19, Tryd.ntmps19
  go_wp2
  go_ret2
  exact ⟨by rfl, by repeat (exact Drawn0.refl _)⟩

end Go.Proofs.YtcjhejopcghgnaaDoor.P

namespace Go.Proofs.YtcjhejopcghgnaaDoor.P
open Go.RowKit Go.Proofs.YtcjhejopcghgnaaDoorW.PrintWords Go.Proofs.YtcjhejopcghgnaaDoorW.PrintLast Go.Proofs.YtcjhejopcghgnaaDoorW.PrintMore
attribute [local go_sem] max2_int min2_int max_two min_two max_three min_three max_four min_four   -- for this text's walks alone
set_option linter.unusedVariables false
set_option linter.unusedSimpArgs false

variable {gb : Bool}
/-! ### capnpref07_Follow: function 15 -/
def capnpref07_Follow.f (k : Nat) (l0 : List (List Int)) (a1 a2 : Int) : Option (Int × Int × Int × Int) := (capnpref05_Word.f k l0 a1 a2).bind fun bt236 => (if bt236.2 = true then ((capnpref07_IsFar.f bt236.1).bind fun t238 => (if t238 = true then ((capnpref07_Landing.f bt236.1).bind fun bt239 => ((capnpref05_Word.f k l0 bt239.1 bt239.2).bind fun bt241 => (if bt241.2 = true then (if (Int.tmod (IntKind.u64.wrap (Int.tdiv bt236.1 4)) 2) = 0 then ((capnpref07_IsFar.f bt241.1).bind fun t243 => (if t243 = true then (some (0, 0, 0, 3)) else (some (bt241.1, bt239.1, wrap64 (bt239.2 + 1), 0)))) else ((capnpref05_Word.f k l0 bt239.1 (wrap64 (bt239.2 + 1))).bind fun bt244 => (if bt244.2 = true then ((capnpref02_Decode.f k bt244.1).bind fun bt246 => ((capnpref07_IsFar.f bt241.1).bind fun t257 => (if t257 = true then (if (Int.tmod (IntKind.u64.wrap (Int.tdiv bt241.1 4)) 2) = 1 then (some (0, 0, 0, 3)) else (if bt246.1 > 1 then (some (0, 0, 0, 3)) else (if bt246.2.1 = 0 then ((capnpref07_Landing.f bt241.1).bind fun bt258 => (some (bt244.1, bt258.1, bt258.2, 0))) else (some (0, 0, 0, 3))))) else (some (0, 0, 0, 3))))) else (some (0, 0, 0, 2))))) else (some (0, 0, 0, 2))))) else (some (bt236.1, a1, wrap64 (a2 + 1), 0)))) else (some (0, 0, 0, 2)))
theorem capnpref07_Follow.mono : ∀ a0 a1 a2 k, LeO (capnpref07_Follow.f k a0 a1 a2) (capnpref07_Follow.f (k + 1) a0 a1 a2) := by
  intro a0 a1 a2 k
  unfold capnpref07_Follow.f
  repeat' first
      | (with_reducible apply capnpref02_Decode.mono)
      | (with_reducible apply capnpref05_Word.mono)
      | (with_reducible exact LeO.refl _)
      | (with_reducible refine LeO.ite ?_ ?_)
      | (with_reducible refine LeO.bind ?_ (fun _ => ?_))
set_option maxHeartbeats 8000000 in
set_option maxRecDepth 100000 in
theorem capnpref07_Follow.calls (k : Nat) (A0 : Option Addr) (c0 : Nat) (l0 : List (List Int)) (a1 a2 r1 r2 r3 r4 : Int) (w : World) (hr0 : Kd.C (Kd.slice 23 (Kd.int .u64)) w A0 l0.length l0) (hc0 : l0.length ≤ c0) (h : capnpref07_Follow.f k l0 a1 a2 = some (r1, r2, r3, r4)) :
    Calls Tryd.prog 15 #[.slice A0 l0.length c0, .int .i64 a1, .int .i64 a2] w fun e w' => e = .returned (.tuple #[.int .u64 r1, .int .i64 r2, .int .i64 r3, .int .i64 r4]) ∧ Below w.heap.size w w' := by
  have HR0 := Aside0.mk hr0
  have HC0 := Aside0.mk hc0
  clear hr0 hc0
  have HB := Aside0.mk (Below.refl w.heap.size w)
  have H := h
  unfold capnpref07_Follow.f at H
  clear h
  replace H := Option.bind_eq_some_iff.mp H
  obtain ⟨⟨t236, t237⟩, A40, H⟩ := H
  dsimp only at H
  have A4 := Aside0.mk A40
  clear A40
  by_cases c5 : t237 = true
  · subst c5
    have H1 : ((capnpref07_IsFar.f t236).bind fun t238 => (if t238 = true then ((capnpref07_Landing.f t236).bind fun bt239 => ((capnpref05_Word.f k l0 bt239.1 bt239.2).bind fun bt241 => (if bt241.2 = true then (if (Int.tmod (IntKind.u64.wrap (Int.tdiv t236 4)) 2) = 0 then ((capnpref07_IsFar.f bt241.1).bind fun t243 => (if t243 = true then (some (0, 0, 0, 3)) else (some (bt241.1, bt239.1, wrap64 (bt239.2 + 1), 0)))) else ((capnpref05_Word.f k l0 bt239.1 (wrap64 (bt239.2 + 1))).bind fun bt244 => (if bt244.2 = true then ((capnpref02_Decode.f k bt244.1).bind fun bt246 => ((capnpref07_IsFar.f bt241.1).bind fun t257 => (if t257 = true then (if (Int.tmod (IntKind.u64.wrap (Int.tdiv bt241.1 4)) 2) = 1 then (some (0, 0, 0, 3)) else (if bt246.1 > 1 then (some (0, 0, 0, 3)) else (if bt246.2.1 = 0 then ((capnpref07_Landing.f bt241.1).bind fun bt258 => (some (bt244.1, bt258.1, bt258.2, 0))) else (some (0, 0, 0, 3))))) else (some (0, 0, 0, 3))))) else (some (0, 0, 0, 2))))) else (some (0, 0, 0, 2))))) else (some (t236, a1, wrap64 (a2 + 1), 0)))) = some (r1, r2, r3, r4) := by rw [if_pos rfl] at H; exact H
    clear H
    have H := H1
    clear H1
    replace H := Option.bind_eq_some_iff.mp H
    obtain ⟨t238, A60, H⟩ := H
    have A6 := Aside0.mk A60
    clear A60
    by_cases c7 : t238 = true
    · subst c7
      have H1 : ((capnpref07_Landing.f t236).bind fun bt239 => ((capnpref05_Word.f k l0 bt239.1 bt239.2).bind fun bt241 => (if bt241.2 = true then (if (Int.tmod (IntKind.u64.wrap (Int.tdiv t236 4)) 2) = 0 then ((capnpref07_IsFar.f bt241.1).bind fun t243 => (if t243 = true then (some (0, 0, 0, 3)) else (some (bt241.1, bt239.1, wrap64 (bt239.2 + 1), 0)))) else ((capnpref05_Word.f k l0 bt239.1 (wrap64 (bt239.2 + 1))).bind fun bt244 => (if bt244.2 = true then ((capnpref02_Decode.f k bt244.1).bind fun bt246 => ((capnpref07_IsFar.f bt241.1).bind fun t257 => (if t257 = true then (if (Int.tmod (IntKind.u64.wrap (Int.tdiv bt241.1 4)) 2) = 1 then (some (0, 0, 0, 3)) else (if bt246.1 > 1 then (some (0, 0, 0, 3)) else (if bt246.2.1 = 0 then ((capnpref07_Landing.f bt241.1).bind fun bt258 => (some (bt244.1, bt258.1, bt258.2, 0))) else (some (0, 0, 0, 3))))) else (some (0, 0, 0, 3))))) else (some (0, 0, 0, 2))))) else (some (0, 0, 0, 2))))) = some (r1, r2, r3, r4) := by rw [if_pos rfl] at H; exact H
      clear H
      have H := H1
      clear H1
      replace H := Option.bind_eq_some_iff.mp H
      obtain ⟨⟨t239, t240⟩, A80, H⟩ := H
      dsimp only at H
      have A8 := Aside0.mk A80
      clear A80
      replace H := Option.bind_eq_some_iff.mp H
      obtain ⟨⟨t241, t242⟩, A90, H⟩ := H
      dsimp only at H
      have A9 := Aside0.mk A90
      clear A90
      by_cases c10 : t242 = true
      · subst c10
        have H1 : (if (Int.tmod (IntKind.u64.wrap (Int.tdiv t236 4)) 2) = 0 then ((capnpref07_IsFar.f t241).bind fun t243 => (if t243 = true then (some (0, 0, 0, 3)) else (some (t241, t239, wrap64 (t240 + 1), 0)))) else ((capnpref05_Word.f k l0 t239 (wrap64 (t240 + 1))).bind fun bt244 => (if bt244.2 = true then ((capnpref02_Decode.f k bt244.1).bind fun bt246 => ((capnpref07_IsFar.f t241).bind fun t257 => (if t257 = true then (if (Int.tmod (IntKind.u64.wrap (Int.tdiv t241 4)) 2) = 1 then (some (0, 0, 0, 3)) else (if bt246.1 > 1 then (some (0, 0, 0, 3)) else (if bt246.2.1 = 0 then ((capnpref07_Landing.f t241).bind fun bt258 => (some (bt244.1, bt258.1, bt258.2, 0))) else (some (0, 0, 0, 3))))) else (some (0, 0, 0, 3))))) else (some (0, 0, 0, 2))))) = some (r1, r2, r3, r4) := by rw [if_pos rfl] at H; exact H
        clear H
        have H := H1
        clear H1
        by_cases c11 : (Int.tmod (IntKind.u64.wrap (Int.tdiv t236 4)) 2) = 0
        · rw [if_pos c11] at H
          have c11b0 : ((Int.tmod (IntKind.u64.wrap (Int.tdiv t236 4)) 2) == 0) = true := beq_iff_eq.mpr c11
          clear c11
          replace H := Option.bind_eq_some_iff.mp H
          obtain ⟨t243, A120, H⟩ := H
          replace H : (if t243 = true then (some (0, 0, 0, 3)) else (some (t241, t239, wrap64 (t240 + 1), 0))) = some (r1, r2, r3, r4) := H
          have A12 := Aside0.mk A120
          clear A120
          by_cases c13 : t243 = true
          · subst c13
            have H1 : (some (0, 0, 0, 3)) = some (r1, r2, r3, r4) := by rw [if_pos rfl] at H; exact H
            clear H
            have H := H1
            clear H1
            simp only [Option.some.injEq, Prod.mk.injEq] at H
            obtain ⟨rfl, rfl, rfl, rfl⟩ := H
            go_enter Tryd.func15, Tryd.ntmps15
            go_wp2_with (first | ((with_reducible refine gate_callee (f := 36) rfl ?_); refine goesL_ (some 25) rfl rfl Tryd.func36 (by kernel_rfl) rfl #[.slice A0 l0.length c0, .int .i64 a1, .int .i64 a2] rfl (by (try simp only [List.map_toArray, List.map_cons, List.map_nil]); rfl) ?_; (with_reducible refine (capnpref05_Word.calls k _ _ l0 a1 a2 t236 true _ ?side1 ?side2 A4.out).mono ?_); (case side1 => repeat (exact HR0.out)); (case side2 => exact HC0.out); rintro e w' ⟨rfl, ⟨nd, rfl⟩⟩; refine ⟨_, rfl, ?_⟩) | ((with_reducible refine gate_callee (f := 17) rfl ?_); refine goesL_ (some 31) rfl rfl Tryd.func17 (by kernel_rfl) rfl #[.int .u64 t236] rfl (by (try simp only [List.map_toArray, List.map_cons, List.map_nil]); rfl) ?_; (with_reducible refine (capnpref07_IsFar.calls t236 true _ A6.out).mono ?_); rintro e w' ⟨rfl, ⟨nd, rfl⟩⟩; refine ⟨_, rfl, ?_⟩) | ((with_reducible refine gate_callee (f := 19) rfl ?_); refine goesL_ (some 39) rfl rfl Tryd.func19 (by kernel_rfl) rfl #[.int .u64 t236] rfl (by (try simp only [List.map_toArray, List.map_cons, List.map_nil]); rfl) ?_; (with_reducible refine (capnpref07_Landing.calls t236 t239 t240 _ A8.out).mono ?_); rintro e w' ⟨rfl, ⟨nd, rfl⟩⟩; refine ⟨_, rfl, ?_⟩) | ((with_reducible refine gate_callee (f := 36) rfl ?_); refine goesL_ (some 46) rfl rfl Tryd.func36 (by kernel_rfl) rfl #[.slice A0 l0.length c0, .int .i64 t239, .int .i64 t240] rfl (by (try simp only [List.map_toArray, List.map_cons, List.map_nil]); rfl) ?_; (with_reducible refine (capnpref05_Word.calls k _ _ l0 t239 t240 t241 true _ ?side1 ?side2 A9.out).mono ?_); (case side1 => repeat (exact HR0.out)); (case side2 => exact HC0.out); rintro e w' ⟨rfl, ⟨nd, rfl⟩⟩; refine ⟨_, rfl, ?_⟩) | ((with_reducible refine gate_callee (f := 17) rfl ?_); refine goesL_ (some 56) rfl rfl Tryd.func17 (by kernel_rfl) rfl #[.int .u64 t241] rfl (by (try simp only [List.map_toArray, List.map_cons, List.map_nil]); rfl) ?_; (with_reducible refine (capnpref07_IsFar.calls t241 true _ A12.out).mono ?_); rintro e w' ⟨rfl, ⟨nd, rfl⟩⟩; refine ⟨_, rfl, ?_⟩))
            refine bodyPost_ret (results_list (rs := [.tmp 6, .tmp 7, .tmp 8, .tmp 9]) rfl (by simp) (.tmp (.tmp (.tmp (.tmp .nil))))) rfl ?_
            exact ⟨by rfl, by repeat ((with_reducible first | exact HB.out | apply pw_below_drewN))⟩
          · replace c13 := Bool.eq_false_iff.mpr c13
            subst c13
            have H1 : (some (t241, t239, wrap64 (t240 + 1), 0)) = some (r1, r2, r3, r4) := by rw [if_neg (show ¬ (false = true) by decide)] at H; exact H
            clear H
            have H := H1
            clear H1
            simp only [Option.some.injEq, Prod.mk.injEq] at H
            obtain ⟨rfl, rfl, rfl, rfl⟩ := H
            go_enter Tryd.func15, Tryd.ntmps15
            go_wp2_with (first | ((with_reducible refine gate_callee (f := 36) rfl ?_); refine goesL_ (some 25) rfl rfl Tryd.func36 (by kernel_rfl) rfl #[.slice A0 l0.length c0, .int .i64 a1, .int .i64 a2] rfl (by (try simp only [List.map_toArray, List.map_cons, List.map_nil]); rfl) ?_; (with_reducible refine (capnpref05_Word.calls k _ _ l0 a1 a2 t236 true _ ?side1 ?side2 A4.out).mono ?_); (case side1 => repeat (exact HR0.out)); (case side2 => exact HC0.out); rintro e w' ⟨rfl, ⟨nd, rfl⟩⟩; refine ⟨_, rfl, ?_⟩) | ((with_reducible refine gate_callee (f := 17) rfl ?_); refine goesL_ (some 31) rfl rfl Tryd.func17 (by kernel_rfl) rfl #[.int .u64 t236] rfl (by (try simp only [List.map_toArray, List.map_cons, List.map_nil]); rfl) ?_; (with_reducible refine (capnpref07_IsFar.calls t236 true _ A6.out).mono ?_); rintro e w' ⟨rfl, ⟨nd, rfl⟩⟩; refine ⟨_, rfl, ?_⟩) | ((with_reducible refine gate_callee (f := 19) rfl ?_); refine goesL_ (some 39) rfl rfl Tryd.func19 (by kernel_rfl) rfl #[.int .u64 t236] rfl (by (try simp only [List.map_toArray, List.map_cons, List.map_nil]); rfl) ?_; (with_reducible refine (capnpref07_Landing.calls t236 t239 t240 _ A8.out).mono ?_); rintro e w' ⟨rfl, ⟨nd, rfl⟩⟩; refine ⟨_, rfl, ?_⟩) | ((with_reducible refine gate_callee (f := 36) rfl ?_); refine goesL_ (some 46) rfl rfl Tryd.func36 (by kernel_rfl) rfl #[.slice A0 l0.length c0, .int .i64 t239, .int .i64 t240] rfl (by (try simp only [List.map_toArray, List.map_cons, List.map_nil]); rfl) ?_; (with_reducible refine (capnpref05_Word.calls k _ _ l0 t239 t240 t241 true _ ?side1 ?side2 A9.out).mono ?_); (case side1 => repeat (exact HR0.out)); (case side2 => exact HC0.out); rintro e w' ⟨rfl, ⟨nd, rfl⟩⟩; refine ⟨_, rfl, ?_⟩) | ((with_reducible refine gate_callee (f := 17) rfl ?_); refine goesL_ (some 56) rfl rfl Tryd.func17 (by kernel_rfl) rfl #[.int .u64 t241] rfl (by (try simp only [List.map_toArray, List.map_cons, List.map_nil]); rfl) ?_; (with_reducible refine (capnpref07_IsFar.calls t241 false _ A12.out).mono ?_); rintro e w' ⟨rfl, ⟨nd, rfl⟩⟩; refine ⟨_, rfl, ?_⟩))
            refine bodyPost_ret (results_list (rs := [.tmp 6, .tmp 7, .tmp 8, .tmp 9]) rfl (by simp) (.tmp (.tmp (.tmp (.tmp .nil))))) rfl ?_
            exact ⟨by rfl, by repeat ((with_reducible first | exact HB.out | apply pw_below_drewN))⟩
        · rw [if_neg c11] at H
          have c11b0 : ((Int.tmod (IntKind.u64.wrap (Int.tdiv t236 4)) 2) == 0) = false := beq_eq_false_iff_ne.mpr c11
          replace H := Option.bind_eq_some_iff.mp H
          obtain ⟨⟨t244, t245⟩, A140, H⟩ := H
          dsimp only at H
          have A14 := Aside0.mk A140
          clear A140
          by_cases c15 : t245 = true
          · subst c15
            have H1 : ((capnpref02_Decode.f k t244).bind fun bt246 => ((capnpref07_IsFar.f t241).bind fun t257 => (if t257 = true then (if (Int.tmod (IntKind.u64.wrap (Int.tdiv t241 4)) 2) = 1 then (some (0, 0, 0, 3)) else (if bt246.1 > 1 then (some (0, 0, 0, 3)) else (if bt246.2.1 = 0 then ((capnpref07_Landing.f t241).bind fun bt258 => (some (t244, bt258.1, bt258.2, 0))) else (some (0, 0, 0, 3))))) else (some (0, 0, 0, 3))))) = some (r1, r2, r3, r4) := by rw [if_pos rfl] at H; exact H
            clear H
            have H := H1
            clear H1
            replace H := Option.bind_eq_some_iff.mp H
            obtain ⟨⟨t246, t247, t248, t249, t250, t251, t252, t253, t254, t255⟩, A160, H⟩ := H
            dsimp only at H
            have A16 := Aside0.mk A160
            clear A160
            replace H := Option.bind_eq_some_iff.mp H
            obtain ⟨t257, A170, H⟩ := H
            have A17 := Aside0.mk A170
            clear A170
            by_cases c18 : t257 = true
            · subst c18
              have H1 : (if (Int.tmod (IntKind.u64.wrap (Int.tdiv t241 4)) 2) = 1 then (some (0, 0, 0, 3)) else (if t246 > 1 then (some (0, 0, 0, 3)) else (if t247 = 0 then ((capnpref07_Landing.f t241).bind fun bt258 => (some (t244, bt258.1, bt258.2, 0))) else (some (0, 0, 0, 3))))) = some (r1, r2, r3, r4) := by rw [if_pos rfl] at H; exact H
              clear H
              have H := H1
              clear H1
              by_cases c19 : (Int.tmod (IntKind.u64.wrap (Int.tdiv t241 4)) 2) = 1
              · rw [if_pos c19] at H
                have c19b0 : ((Int.tmod (IntKind.u64.wrap (Int.tdiv t241 4)) 2) == 1) = true := beq_iff_eq.mpr c19
                clear c19
                simp only [Option.some.injEq, Prod.mk.injEq] at H
                obtain ⟨rfl, rfl, rfl, rfl⟩ := H
                go_enter Tryd.func15, Tryd.ntmps15
                go_wp2_with (first | ((with_reducible refine gate_callee (f := 36) rfl ?_); refine goesL_ (some 25) rfl rfl Tryd.func36 (by kernel_rfl) rfl #[.slice A0 l0.length c0, .int .i64 a1, .int .i64 a2] rfl (by (try simp only [List.map_toArray, List.map_cons, List.map_nil]); rfl) ?_; (with_reducible refine (capnpref05_Word.calls k _ _ l0 a1 a2 t236 true _ ?side1 ?side2 A4.out).mono ?_); (case side1 => repeat (exact HR0.out)); (case side2 => exact HC0.out); rintro e w' ⟨rfl, ⟨nd, rfl⟩⟩; refine ⟨_, rfl, ?_⟩) | ((with_reducible refine gate_callee (f := 17) rfl ?_); refine goesL_ (some 31) rfl rfl Tryd.func17 (by kernel_rfl) rfl #[.int .u64 t236] rfl (by (try simp only [List.map_toArray, List.map_cons, List.map_nil]); rfl) ?_; (with_reducible refine (capnpref07_IsFar.calls t236 true _ A6.out).mono ?_); rintro e w' ⟨rfl, ⟨nd, rfl⟩⟩; refine ⟨_, rfl, ?_⟩) | ((with_reducible refine gate_callee (f := 19) rfl ?_); refine goesL_ (some 39) rfl rfl Tryd.func19 (by kernel_rfl) rfl #[.int .u64 t236] rfl (by (try simp only [List.map_toArray, List.map_cons, List.map_nil]); rfl) ?_; (with_reducible refine (capnpref07_Landing.calls t236 t239 t240 _ A8.out).mono ?_); rintro e w' ⟨rfl, ⟨nd, rfl⟩⟩; refine ⟨_, rfl, ?_⟩) | ((with_reducible refine gate_callee (f := 36) rfl ?_); refine goesL_ (some 46) rfl rfl Tryd.func36 (by kernel_rfl) rfl #[.slice A0 l0.length c0, .int .i64 t239, .int .i64 t240] rfl (by (try simp only [List.map_toArray, List.map_cons, List.map_nil]); rfl) ?_; (with_reducible refine (capnpref05_Word.calls k _ _ l0 t239 t240 t241 true _ ?side1 ?side2 A9.out).mono ?_); (case side1 => repeat (exact HR0.out)); (case side2 => exact HC0.out); rintro e w' ⟨rfl, ⟨nd, rfl⟩⟩; refine ⟨_, rfl, ?_⟩) | ((with_reducible refine gate_callee (f := 36) rfl ?_); refine goesL_ (some 66) rfl rfl Tryd.func36 (by kernel_rfl) rfl #[.slice A0 l0.length c0, .int .i64 t239, .int .i64 (wrap64 (t240 + 1))] rfl (by (try simp only [List.map_toArray, List.map_cons, List.map_nil]); rfl) ?_; (with_reducible refine (capnpref05_Word.calls k _ _ l0 t239 (wrap64 (t240 + 1)) t244 true _ ?side1 ?side2 A14.out).mono ?_); (case side1 => repeat (exact HR0.out)); (case side2 => exact HC0.out); rintro e w' ⟨rfl, ⟨nd, rfl⟩⟩; refine ⟨_, rfl, ?_⟩) | ((with_reducible refine gate_callee (f := 21) rfl ?_); refine goesL_ (some 72) rfl rfl Tryd.func21 (by kernel_rfl) rfl #[.int .u64 t244] rfl (by (try simp only [List.map_toArray, List.map_cons, List.map_nil]); rfl) ?_; (with_reducible refine (capnpref02_Decode.calls k t244 t246 t247 t248 t249 t250 t251 t252 t253 t254 t255 _ A16.out).mono ?_); rintro e w20 ⟨rfl, hb⟩; refine ⟨_, rfl, ?_⟩; replace HB := Aside0.mk (below_step (by repeat ((with_reducible first | exact HB.out | apply pw_below_drewN))) hb); (try clear hb)) | ((with_reducible refine gate_dst (N := 18) rfl ?_); refine box_event ?hg (N := 18) ?hd (cs := #[.int .i64 0, .int .i64 0, .int .i64 0, .int .i64 0, .int .i64 0, .int .i64 0, .bool false, .int .i64 0, .int .u32 0, .int .u32 0]) (t := 39) ?hr ?_; (case hd => rfl); (case hg => rfl); (case hr => (go_simp; done)); intro gb256 hg w21 hbox hb; replace BK256 := Aside0.mk (hbox); replace GE256 := Aside0.mk (ge_of HB.out hg); replace HB := Aside0.mk (below_step HB.out hb); clear hb hbox hg; obtain ⟨hcz22_0, hcz22_1, hcz22_2, hcz22_3, hcz22_4, hcz22_5, hcz22_6, hcz22_7, hcz22_8, hcz22_9⟩ := cells10 BK256.out; obtain ⟨hfz22_0, hfz22_1, hfz22_2, hfz22_3, hfz22_4, hfz22_5, hfz22_6, hfz22_7, hfz22_8, hfz22_9⟩ := frz10 BK256.out) | ((with_reducible refine gate_callee (f := 17) rfl ?_); refine goesL_ (some 74) rfl rfl Tryd.func17 (by kernel_rfl) rfl #[.int .u64 t241] rfl (by (try simp only [List.map_toArray, List.map_cons, List.map_nil]); rfl) ?_; (with_reducible refine (capnpref07_IsFar.calls t241 true _ A17.out).mono ?_); rintro e w' ⟨rfl, ⟨nd, rfl⟩⟩; refine ⟨_, rfl, ?_⟩))
                refine bodyPost_ret (results_list (rs := [.tmp 6, .tmp 7, .tmp 8, .tmp 9]) rfl (by simp) (.tmp (.tmp (.tmp (.tmp .nil))))) rfl ?_
                exact ⟨by rfl, by repeat ((with_reducible first | exact HB.out | apply pw_below_drewN | refine below_set ?_ GE256.out))⟩
              · rw [if_neg c19] at H
                have c19b0 : ((Int.tmod (IntKind.u64.wrap (Int.tdiv t241 4)) 2) == 1) = false := beq_eq_false_iff_ne.mpr c19
                by_cases c23 : t246 > 1
                · rw [if_pos c23] at H
                  have c23b0 : decide (1 < t246) = true := decide_eq_true c23
                  clear c23
                  simp only [Option.some.injEq, Prod.mk.injEq] at H
                  obtain ⟨rfl, rfl, rfl, rfl⟩ := H
                  go_enter Tryd.func15, Tryd.ntmps15
                  go_wp2_with (first | ((with_reducible refine gate_callee (f := 36) rfl ?_); refine goesL_ (some 25) rfl rfl Tryd.func36 (by kernel_rfl) rfl #[.slice A0 l0.length c0, .int .i64 a1, .int .i64 a2] rfl (by (try simp only [List.map_toArray, List.map_cons, List.map_nil]); rfl) ?_; (with_reducible refine (capnpref05_Word.calls k _ _ l0 a1 a2 t236 true _ ?side1 ?side2 A4.out).mono ?_); (case side1 => repeat (exact HR0.out)); (case side2 => exact HC0.out); rintro e w' ⟨rfl, ⟨nd, rfl⟩⟩; refine ⟨_, rfl, ?_⟩) | ((with_reducible refine gate_callee (f := 17) rfl ?_); refine goesL_ (some 31) rfl rfl Tryd.func17 (by kernel_rfl) rfl #[.int .u64 t236] rfl (by (try simp only [List.map_toArray, List.map_cons, List.map_nil]); rfl) ?_; (with_reducible refine (capnpref07_IsFar.calls t236 true _ A6.out).mono ?_); rintro e w' ⟨rfl, ⟨nd, rfl⟩⟩; refine ⟨_, rfl, ?_⟩) | ((with_reducible refine gate_callee (f := 19) rfl ?_); refine goesL_ (some 39) rfl rfl Tryd.func19 (by kernel_rfl) rfl #[.int .u64 t236] rfl (by (try simp only [List.map_toArray, List.map_cons, List.map_nil]); rfl) ?_; (with_reducible refine (capnpref07_Landing.calls t236 t239 t240 _ A8.out).mono ?_); rintro e w' ⟨rfl, ⟨nd, rfl⟩⟩; refine ⟨_, rfl, ?_⟩) | ((with_reducible refine gate_callee (f := 36) rfl ?_); refine goesL_ (some 46) rfl rfl Tryd.func36 (by kernel_rfl) rfl #[.slice A0 l0.length c0, .int .i64 t239, .int .i64 t240] rfl (by (try simp only [List.map_toArray, List.map_cons, List.map_nil]); rfl) ?_; (with_reducible refine (capnpref05_Word.calls k _ _ l0 t239 t240 t241 true _ ?side1 ?side2 A9.out).mono ?_); (case side1 => repeat (exact HR0.out)); (case side2 => exact HC0.out); rintro e w' ⟨rfl, ⟨nd, rfl⟩⟩; refine ⟨_, rfl, ?_⟩) | ((with_reducible refine gate_callee (f := 36) rfl ?_); refine goesL_ (some 66) rfl rfl Tryd.func36 (by kernel_rfl) rfl #[.slice A0 l0.length c0, .int .i64 t239, .int .i64 (wrap64 (t240 + 1))] rfl (by (try simp only [List.map_toArray, List.map_cons, List.map_nil]); rfl) ?_; (with_reducible refine (capnpref05_Word.calls k _ _ l0 t239 (wrap64 (t240 + 1)) t244 true _ ?side1 ?side2 A14.out).mono ?_); (case side1 => repeat (exact HR0.out)); (case side2 => exact HC0.out); rintro e w' ⟨rfl, ⟨nd, rfl⟩⟩; refine ⟨_, rfl, ?_⟩) | ((with_reducible refine gate_callee (f := 21) rfl ?_); refine goesL_ (some 72) rfl rfl Tryd.func21 (by kernel_rfl) rfl #[.int .u64 t244] rfl (by (try simp only [List.map_toArray, List.map_cons, List.map_nil]); rfl) ?_; (with_reducible refine (capnpref02_Decode.calls k t244 t246 t247 t248 t249 t250 t251 t252 t253 t254 t255 _ A16.out).mono ?_); rintro e w24 ⟨rfl, hb⟩; refine ⟨_, rfl, ?_⟩; replace HB := Aside0.mk (below_step (by repeat ((with_reducible first | exact HB.out | apply pw_below_drewN))) hb); (try clear hb)) | ((with_reducible refine gate_dst (N := 18) rfl ?_); refine box_event ?hg (N := 18) ?hd (cs := #[.int .i64 0, .int .i64 0, .int .i64 0, .int .i64 0, .int .i64 0, .int .i64 0, .bool false, .int .i64 0, .int .u32 0, .int .u32 0]) (t := 39) ?hr ?_; (case hd => rfl); (case hg => rfl); (case hr => (go_simp; done)); intro gb256 hg w25 hbox hb; replace BK256 := Aside0.mk (hbox); replace GE256 := Aside0.mk (ge_of HB.out hg); replace HB := Aside0.mk (below_step HB.out hb); clear hb hbox hg; obtain ⟨hcz26_0, hcz26_1, hcz26_2, hcz26_3, hcz26_4, hcz26_5, hcz26_6, hcz26_7, hcz26_8, hcz26_9⟩ := cells10 BK256.out; obtain ⟨hfz26_0, hfz26_1, hfz26_2, hfz26_3, hfz26_4, hfz26_5, hfz26_6, hfz26_7, hfz26_8, hfz26_9⟩ := frz10 BK256.out) | ((with_reducible refine gate_callee (f := 17) rfl ?_); refine goesL_ (some 74) rfl rfl Tryd.func17 (by kernel_rfl) rfl #[.int .u64 t241] rfl (by (try simp only [List.map_toArray, List.map_cons, List.map_nil]); rfl) ?_; (with_reducible refine (capnpref07_IsFar.calls t241 true _ A17.out).mono ?_); rintro e w' ⟨rfl, ⟨nd, rfl⟩⟩; refine ⟨_, rfl, ?_⟩))
                  refine bodyPost_ret (results_list (rs := [.tmp 6, .tmp 7, .tmp 8, .tmp 9]) rfl (by simp) (.tmp (.tmp (.tmp (.tmp .nil))))) rfl ?_
                  exact ⟨by rfl, by repeat ((with_reducible first | exact HB.out | apply pw_below_drewN | refine below_set ?_ GE256.out))⟩
                · rw [if_neg c23] at H
                  have c23b0 : decide (1 < t246) = false := decide_eq_false c23
                  clear c23
                  by_cases c27 : t247 = 0
                  · rw [if_pos c27] at H
                    have c27b1 : (t247 != 0) = false := bne_eq_false_iff_eq.mpr c27
                    clear c27
                    replace H := Option.bind_eq_some_iff.mp H
                    obtain ⟨⟨t258, t259⟩, A280, H⟩ := H
                    replace H : (some (t244, t258, t259, 0)) = some (r1, r2, r3, r4) := H
                    have A28 := Aside0.mk A280
                    clear A280
                    simp only [Option.some.injEq, Prod.mk.injEq] at H
                    obtain ⟨rfl, rfl, rfl, rfl⟩ := H
                    go_enter Tryd.func15, Tryd.ntmps15
                    go_wp2_with (first | ((with_reducible refine gate_callee (f := 36) rfl ?_); refine goesL_ (some 25) rfl rfl Tryd.func36 (by kernel_rfl) rfl #[.slice A0 l0.length c0, .int .i64 a1, .int .i64 a2] rfl (by (try simp only [List.map_toArray, List.map_cons, List.map_nil]); rfl) ?_; (with_reducible refine (capnpref05_Word.calls k _ _ l0 a1 a2 t236 true _ ?side1 ?side2 A4.out).mono ?_); (case side1 => repeat (exact HR0.out)); (case side2 => exact HC0.out); rintro e w' ⟨rfl, ⟨nd, rfl⟩⟩; refine ⟨_, rfl, ?_⟩) | ((with_reducible refine gate_callee (f := 17) rfl ?_); refine goesL_ (some 31) rfl rfl Tryd.func17 (by kernel_rfl) rfl #[.int .u64 t236] rfl (by (try simp only [List.map_toArray, List.map_cons, List.map_nil]); rfl) ?_; (with_reducible refine (capnpref07_IsFar.calls t236 true _ A6.out).mono ?_); rintro e w' ⟨rfl, ⟨nd, rfl⟩⟩; refine ⟨_, rfl, ?_⟩) | ((with_reducible refine gate_callee (f := 19) rfl ?_); refine goesL_ (some 39) rfl rfl Tryd.func19 (by kernel_rfl) rfl #[.int .u64 t236] rfl (by (try simp only [List.map_toArray, List.map_cons, List.map_nil]); rfl) ?_; (with_reducible refine (capnpref07_Landing.calls t236 t239 t240 _ A8.out).mono ?_); rintro e w' ⟨rfl, ⟨nd, rfl⟩⟩; refine ⟨_, rfl, ?_⟩) | ((with_reducible refine gate_callee (f := 36) rfl ?_); refine goesL_ (some 46) rfl rfl Tryd.func36 (by kernel_rfl) rfl #[.slice A0 l0.length c0, .int .i64 t239, .int .i64 t240] rfl (by (try simp only [List.map_toArray, List.map_cons, List.map_nil]); rfl) ?_; (with_reducible refine (capnpref05_Word.calls k _ _ l0 t239 t240 t241 true _ ?side1 ?side2 A9.out).mono ?_); (case side1 => repeat (exact HR0.out)); (case side2 => exact HC0.out); rintro e w' ⟨rfl, ⟨nd, rfl⟩⟩; refine ⟨_, rfl, ?_⟩) | ((with_reducible refine gate_callee (f := 36) rfl ?_); refine goesL_ (some 66) rfl rfl Tryd.func36 (by kernel_rfl) rfl #[.slice A0 l0.length c0, .int .i64 t239, .int .i64 (wrap64 (t240 + 1))] rfl (by (try simp only [List.map_toArray, List.map_cons, List.map_nil]); rfl) ?_; (with_reducible refine (capnpref05_Word.calls k _ _ l0 t239 (wrap64 (t240 + 1)) t244 true _ ?side1 ?side2 A14.out).mono ?_); (case side1 => repeat (exact HR0.out)); (case side2 => exact HC0.out); rintro e w' ⟨rfl, ⟨nd, rfl⟩⟩; refine ⟨_, rfl, ?_⟩) | ((with_reducible refine gate_callee (f := 21) rfl ?_); refine goesL_ (some 72) rfl rfl Tryd.func21 (by kernel_rfl) rfl #[.int .u64 t244] rfl (by (try simp only [List.map_toArray, List.map_cons, List.map_nil]); rfl) ?_; (with_reducible refine (capnpref02_Decode.calls k t244 t246 t247 t248 t249 t250 t251 t252 t253 t254 t255 _ A16.out).mono ?_); rintro e w29 ⟨rfl, hb⟩; refine ⟨_, rfl, ?_⟩; replace HB := Aside0.mk (below_step (by repeat ((with_reducible first | exact HB.out | apply pw_below_drewN))) hb); (try clear hb)) | ((with_reducible refine gate_dst (N := 18) rfl ?_); refine box_event ?hg (N := 18) ?hd (cs := #[.int .i64 0, .int .i64 0, .int .i64 0, .int .i64 0, .int .i64 0, .int .i64 0, .bool false, .int .i64 0, .int .u32 0, .int .u32 0]) (t := 39) ?hr ?_; (case hd => rfl); (case hg => rfl); (case hr => (go_simp; done)); intro gb256 hg w30 hbox hb; replace BK256 := Aside0.mk (hbox); replace GE256 := Aside0.mk (ge_of HB.out hg); replace HB := Aside0.mk (below_step HB.out hb); clear hb hbox hg; obtain ⟨hcz31_0, hcz31_1, hcz31_2, hcz31_3, hcz31_4, hcz31_5, hcz31_6, hcz31_7, hcz31_8, hcz31_9⟩ := cells10 BK256.out; obtain ⟨hfz31_0, hfz31_1, hfz31_2, hfz31_3, hfz31_4, hfz31_5, hfz31_6, hfz31_7, hfz31_8, hfz31_9⟩ := frz10 BK256.out) | ((with_reducible refine gate_callee (f := 17) rfl ?_); refine goesL_ (some 74) rfl rfl Tryd.func17 (by kernel_rfl) rfl #[.int .u64 t241] rfl (by (try simp only [List.map_toArray, List.map_cons, List.map_nil]); rfl) ?_; (with_reducible refine (capnpref07_IsFar.calls t241 true _ A17.out).mono ?_); rintro e w' ⟨rfl, ⟨nd, rfl⟩⟩; refine ⟨_, rfl, ?_⟩) | ((with_reducible refine gate_callee (f := 19) rfl ?_); refine goesL_ (some 94) rfl rfl Tryd.func19 (by kernel_rfl) rfl #[.int .u64 t241] rfl (by (try simp only [List.map_toArray, List.map_cons, List.map_nil]); rfl) ?_; (with_reducible refine (capnpref07_Landing.calls t241 t258 t259 _ A28.out).mono ?_); rintro e w' ⟨rfl, ⟨nd, rfl⟩⟩; refine ⟨_, rfl, ?_⟩))
                    refine bodyPost_ret (results_list (rs := [.tmp 6, .tmp 7, .tmp 8, .tmp 9]) rfl (by simp) (.tmp (.tmp (.tmp (.tmp .nil))))) rfl ?_
                    exact ⟨by rfl, by repeat ((with_reducible first | exact HB.out | apply pw_below_drewN | refine below_set ?_ GE256.out))⟩
                  · rw [if_neg c27] at H
                    have c27b1 : (t247 != 0) = true := bne_iff_ne.mpr c27
                    simp only [Option.some.injEq, Prod.mk.injEq] at H
                    obtain ⟨rfl, rfl, rfl, rfl⟩ := H
                    go_enter Tryd.func15, Tryd.ntmps15
                    go_wp2_with (first | ((with_reducible refine gate_callee (f := 36) rfl ?_); refine goesL_ (some 25) rfl rfl Tryd.func36 (by kernel_rfl) rfl #[.slice A0 l0.length c0, .int .i64 a1, .int .i64 a2] rfl (by (try simp only [List.map_toArray, List.map_cons, List.map_nil]); rfl) ?_; (with_reducible refine (capnpref05_Word.calls k _ _ l0 a1 a2 t236 true _ ?side1 ?side2 A4.out).mono ?_); (case side1 => repeat (exact HR0.out)); (case side2 => exact HC0.out); rintro e w' ⟨rfl, ⟨nd, rfl⟩⟩; refine ⟨_, rfl, ?_⟩) | ((with_reducible refine gate_callee (f := 17) rfl ?_); refine goesL_ (some 31) rfl rfl Tryd.func17 (by kernel_rfl) rfl #[.int .u64 t236] rfl (by (try simp only [List.map_toArray, List.map_cons, List.map_nil]); rfl) ?_; (with_reducible refine (capnpref07_IsFar.calls t236 true _ A6.out).mono ?_); rintro e w' ⟨rfl, ⟨nd, rfl⟩⟩; refine ⟨_, rfl, ?_⟩) | ((with_reducible refine gate_callee (f := 19) rfl ?_); refine goesL_ (some 39) rfl rfl Tryd.func19 (by kernel_rfl) rfl #[.int .u64 t236] rfl (by (try simp only [List.map_toArray, List.map_cons, List.map_nil]); rfl) ?_; (with_reducible refine (capnpref07_Landing.calls t236 t239 t240 _ A8.out).mono ?_); rintro e w' ⟨rfl, ⟨nd, rfl⟩⟩; refine ⟨_, rfl, ?_⟩) | ((with_reducible refine gate_callee (f := 36) rfl ?_); refine goesL_ (some 46) rfl rfl Tryd.func36 (by kernel_rfl) rfl #[.slice A0 l0.length c0, .int .i64 t239, .int .i64 t240] rfl (by (try simp only [List.map_toArray, List.map_cons, List.map_nil]); rfl) ?_; (with_reducible refine (capnpref05_Word.calls k _ _ l0 t239 t240 t241 true _ ?side1 ?side2 A9.out).mono ?_); (case side1 => repeat (exact HR0.out)); (case side2 => exact HC0.out); rintro e w' ⟨rfl, ⟨nd, rfl⟩⟩; refine ⟨_, rfl, ?_⟩) | ((with_reducible refine gate_callee (f := 36) rfl ?_); refine goesL_ (some 66) rfl rfl Tryd.func36 (by kernel_rfl) rfl #[.slice A0 l0.length c0, .int .i64 t239, .int .i64 (wrap64 (t240 + 1))] rfl (by (try simp only [List.map_toArray, List.map_cons, List.map_nil]); rfl) ?_; (with_reducible refine (capnpref05_Word.calls k _ _ l0 t239 (wrap64 (t240 + 1)) t244 true _ ?side1 ?side2 A14.out).mono ?_); (case side1 => repeat (exact HR0.out)); (case side2 => exact HC0.out); rintro e w' ⟨rfl, ⟨nd, rfl⟩⟩; refine ⟨_, rfl, ?_⟩) | ((with_reducible refine gate_callee (f := 21) rfl ?_); refine goesL_ (some 72) rfl rfl Tryd.func21 (by kernel_rfl) rfl #[.int .u64 t244] rfl (by (try simp only [List.map_toArray, List.map_cons, List.map_nil]); rfl) ?_; (with_reducible refine (capnpref02_Decode.calls k t244 t246 t247 t248 t249 t250 t251 t252 t253 t254 t255 _ A16.out).mono ?_); rintro e w32 ⟨rfl, hb⟩; refine ⟨_, rfl, ?_⟩; replace HB := Aside0.mk (below_step (by repeat ((with_reducible first | exact HB.out | apply pw_below_drewN))) hb); (try clear hb)) | ((with_reducible refine gate_dst (N := 18) rfl ?_); refine box_event ?hg (N := 18) ?hd (cs := #[.int .i64 0, .int .i64 0, .int .i64 0, .int .i64 0, .int .i64 0, .int .i64 0, .bool false, .int .i64 0, .int .u32 0, .int .u32 0]) (t := 39) ?hr ?_; (case hd => rfl); (case hg => rfl); (case hr => (go_simp; done)); intro gb256 hg w33 hbox hb; replace BK256 := Aside0.mk (hbox); replace GE256 := Aside0.mk (ge_of HB.out hg); replace HB := Aside0.mk (below_step HB.out hb); clear hb hbox hg; obtain ⟨hcz34_0, hcz34_1, hcz34_2, hcz34_3, hcz34_4, hcz34_5, hcz34_6, hcz34_7, hcz34_8, hcz34_9⟩ := cells10 BK256.out; obtain ⟨hfz34_0, hfz34_1, hfz34_2, hfz34_3, hfz34_4, hfz34_5, hfz34_6, hfz34_7, hfz34_8, hfz34_9⟩ := frz10 BK256.out) | ((with_reducible refine gate_callee (f := 17) rfl ?_); refine goesL_ (some 74) rfl rfl Tryd.func17 (by kernel_rfl) rfl #[.int .u64 t241] rfl (by (try simp only [List.map_toArray, List.map_cons, List.map_nil]); rfl) ?_; (with_reducible refine (capnpref07_IsFar.calls t241 true _ A17.out).mono ?_); rintro e w' ⟨rfl, ⟨nd, rfl⟩⟩; refine ⟨_, rfl, ?_⟩))
                    refine bodyPost_ret (results_list (rs := [.tmp 6, .tmp 7, .tmp 8, .tmp 9]) rfl (by simp) (.tmp (.tmp (.tmp (.tmp .nil))))) rfl ?_
                    exact ⟨by rfl, by repeat ((with_reducible first | exact HB.out | apply pw_below_drewN | refine below_set ?_ GE256.out))⟩
            · replace c18 := Bool.eq_false_iff.mpr c18
              subst c18
              have H1 : (some (0, 0, 0, 3)) = some (r1, r2, r3, r4) := by rw [if_neg (show ¬ (false = true) by decide)] at H; exact H
              clear H
              have H := H1
              clear H1
              simp only [Option.some.injEq, Prod.mk.injEq] at H
              obtain ⟨rfl, rfl, rfl, rfl⟩ := H
              go_enter Tryd.func15, Tryd.ntmps15
              go_wp2_with (first | ((with_reducible refine gate_callee (f := 36) rfl ?_); refine goesL_ (some 25) rfl rfl Tryd.func36 (by kernel_rfl) rfl #[.slice A0 l0.length c0, .int .i64 a1, .int .i64 a2] rfl (by (try simp only [List.map_toArray, List.map_cons, List.map_nil]); rfl) ?_; (with_reducible refine (capnpref05_Word.calls k _ _ l0 a1 a2 t236 true _ ?side1 ?side2 A4.out).mono ?_); (case side1 => repeat (exact HR0.out)); (case side2 => exact HC0.out); rintro e w' ⟨rfl, ⟨nd, rfl⟩⟩; refine ⟨_, rfl, ?_⟩) | ((with_reducible refine gate_callee (f := 17) rfl ?_); refine goesL_ (some 31) rfl rfl Tryd.func17 (by kernel_rfl) rfl #[.int .u64 t236] rfl (by (try simp only [List.map_toArray, List.map_cons, List.map_nil]); rfl) ?_; (with_reducible refine (capnpref07_IsFar.calls t236 true _ A6.out).mono ?_); rintro e w' ⟨rfl, ⟨nd, rfl⟩⟩; refine ⟨_, rfl, ?_⟩) | ((with_reducible refine gate_callee (f := 19) rfl ?_); refine goesL_ (some 39) rfl rfl Tryd.func19 (by kernel_rfl) rfl #[.int .u64 t236] rfl (by (try simp only [List.map_toArray, List.map_cons, List.map_nil]); rfl) ?_; (with_reducible refine (capnpref07_Landing.calls t236 t239 t240 _ A8.out).mono ?_); rintro e w' ⟨rfl, ⟨nd, rfl⟩⟩; refine ⟨_, rfl, ?_⟩) | ((with_reducible refine gate_callee (f := 36) rfl ?_); refine goesL_ (some 46) rfl rfl Tryd.func36 (by kernel_rfl) rfl #[.slice A0 l0.length c0, .int .i64 t239, .int .i64 t240] rfl (by (try simp only [List.map_toArray, List.map_cons, List.map_nil]); rfl) ?_; (with_reducible refine (capnpref05_Word.calls k _ _ l0 t239 t240 t241 true _ ?side1 ?side2 A9.out).mono ?_); (case side1 => repeat (exact HR0.out)); (case side2 => exact HC0.out); rintro e w' ⟨rfl, ⟨nd, rfl⟩⟩; refine ⟨_, rfl, ?_⟩) | ((with_reducible refine gate_callee (f := 36) rfl ?_); refine goesL_ (some 66) rfl rfl Tryd.func36 (by kernel_rfl) rfl #[.slice A0 l0.length c0, .int .i64 t239, .int .i64 (wrap64 (t240 + 1))] rfl (by (try simp only [List.map_toArray, List.map_cons, List.map_nil]); rfl) ?_; (with_reducible refine (capnpref05_Word.calls k _ _ l0 t239 (wrap64 (t240 + 1)) t244 true _ ?side1 ?side2 A14.out).mono ?_); (case side1 => repeat (exact HR0.out)); (case side2 => exact HC0.out); rintro e w' ⟨rfl, ⟨nd, rfl⟩⟩; refine ⟨_, rfl, ?_⟩) | ((with_reducible refine gate_callee (f := 21) rfl ?_); refine goesL_ (some 72) rfl rfl Tryd.func21 (by kernel_rfl) rfl #[.int .u64 t244] rfl (by (try simp only [List.map_toArray, List.map_cons, List.map_nil]); rfl) ?_; (with_reducible refine (capnpref02_Decode.calls k t244 t246 t247 t248 t249 t250 t251 t252 t253 t254 t255 _ A16.out).mono ?_); rintro e w35 ⟨rfl, hb⟩; refine ⟨_, rfl, ?_⟩; replace HB := Aside0.mk (below_step (by repeat ((with_reducible first | exact HB.out | apply pw_below_drewN))) hb); (try clear hb)) | ((with_reducible refine gate_dst (N := 18) rfl ?_); refine box_event ?hg (N := 18) ?hd (cs := #[.int .i64 0, .int .i64 0, .int .i64 0, .int .i64 0, .int .i64 0, .int .i64 0, .bool false, .int .i64 0, .int .u32 0, .int .u32 0]) (t := 39) ?hr ?_; (case hd => rfl); (case hg => rfl); (case hr => (go_simp; done)); intro gb256 hg w36 hbox hb; replace BK256 := Aside0.mk (hbox); replace GE256 := Aside0.mk (ge_of HB.out hg); replace HB := Aside0.mk (below_step HB.out hb); clear hb hbox hg; obtain ⟨hcz37_0, hcz37_1, hcz37_2, hcz37_3, hcz37_4, hcz37_5, hcz37_6, hcz37_7, hcz37_8, hcz37_9⟩ := cells10 BK256.out; obtain ⟨hfz37_0, hfz37_1, hfz37_2, hfz37_3, hfz37_4, hfz37_5, hfz37_6, hfz37_7, hfz37_8, hfz37_9⟩ := frz10 BK256.out) | ((with_reducible refine gate_callee (f := 17) rfl ?_); refine goesL_ (some 74) rfl rfl Tryd.func17 (by kernel_rfl) rfl #[.int .u64 t241] rfl (by (try simp only [List.map_toArray, List.map_cons, List.map_nil]); rfl) ?_; (with_reducible refine (capnpref07_IsFar.calls t241 false _ A17.out).mono ?_); rintro e w' ⟨rfl, ⟨nd, rfl⟩⟩; refine ⟨_, rfl, ?_⟩))
              refine bodyPost_ret (results_list (rs := [.tmp 6, .tmp 7, .tmp 8, .tmp 9]) rfl (by simp) (.tmp (.tmp (.tmp (.tmp .nil))))) rfl ?_
              exact ⟨by rfl, by repeat ((with_reducible first | exact HB.out | apply pw_below_drewN | refine below_set ?_ GE256.out))⟩
          · replace c15 := Bool.eq_false_iff.mpr c15
            subst c15
            have H1 : (some (0, 0, 0, 2)) = some (r1, r2, r3, r4) := by rw [if_neg (show ¬ (false = true) by decide)] at H; exact H
            clear H
            have H := H1
            clear H1
            simp only [Option.some.injEq, Prod.mk.injEq] at H
            obtain ⟨rfl, rfl, rfl, rfl⟩ := H
            go_enter Tryd.func15, Tryd.ntmps15
            go_wp2_with (first | ((with_reducible refine gate_callee (f := 36) rfl ?_); refine goesL_ (some 25) rfl rfl Tryd.func36 (by kernel_rfl) rfl #[.slice A0 l0.length c0, .int .i64 a1, .int .i64 a2] rfl (by (try simp only [List.map_toArray, List.map_cons, List.map_nil]); rfl) ?_; (with_reducible refine (capnpref05_Word.calls k _ _ l0 a1 a2 t236 true _ ?side1 ?side2 A4.out).mono ?_); (case side1 => repeat (exact HR0.out)); (case side2 => exact HC0.out); rintro e w' ⟨rfl, ⟨nd, rfl⟩⟩; refine ⟨_, rfl, ?_⟩) | ((with_reducible refine gate_callee (f := 17) rfl ?_); refine goesL_ (some 31) rfl rfl Tryd.func17 (by kernel_rfl) rfl #[.int .u64 t236] rfl (by (try simp only [List.map_toArray, List.map_cons, List.map_nil]); rfl) ?_; (with_reducible refine (capnpref07_IsFar.calls t236 true _ A6.out).mono ?_); rintro e w' ⟨rfl, ⟨nd, rfl⟩⟩; refine ⟨_, rfl, ?_⟩) | ((with_reducible refine gate_callee (f := 19) rfl ?_); refine goesL_ (some 39) rfl rfl Tryd.func19 (by kernel_rfl) rfl #[.int .u64 t236] rfl (by (try simp only [List.map_toArray, List.map_cons, List.map_nil]); rfl) ?_; (with_reducible refine (capnpref07_Landing.calls t236 t239 t240 _ A8.out).mono ?_); rintro e w' ⟨rfl, ⟨nd, rfl⟩⟩; refine ⟨_, rfl, ?_⟩) | ((with_reducible refine gate_callee (f := 36) rfl ?_); refine goesL_ (some 46) rfl rfl Tryd.func36 (by kernel_rfl) rfl #[.slice A0 l0.length c0, .int .i64 t239, .int .i64 t240] rfl (by (try simp only [List.map_toArray, List.map_cons, List.map_nil]); rfl) ?_; (with_reducible refine (capnpref05_Word.calls k _ _ l0 t239 t240 t241 true _ ?side1 ?side2 A9.out).mono ?_); (case side1 => repeat (exact HR0.out)); (case side2 => exact HC0.out); rintro e w' ⟨rfl, ⟨nd, rfl⟩⟩; refine ⟨_, rfl, ?_⟩) | ((with_reducible refine gate_callee (f := 36) rfl ?_); refine goesL_ (some 66) rfl rfl Tryd.func36 (by kernel_rfl) rfl #[.slice A0 l0.length c0, .int .i64 t239, .int .i64 (wrap64 (t240 + 1))] rfl (by (try simp only [List.map_toArray, List.map_cons, List.map_nil]); rfl) ?_; (with_reducible refine (capnpref05_Word.calls k _ _ l0 t239 (wrap64 (t240 + 1)) t244 false _ ?side1 ?side2 A14.out).mono ?_); (case side1 => repeat (exact HR0.out)); (case side2 => exact HC0.out); rintro e w' ⟨rfl, ⟨nd, rfl⟩⟩; refine ⟨_, rfl, ?_⟩))
            refine bodyPost_ret (results_list (rs := [.tmp 6, .tmp 7, .tmp 8, .tmp 9]) rfl (by simp) (.tmp (.tmp (.tmp (.tmp .nil))))) rfl ?_
            exact ⟨by rfl, by repeat ((with_reducible first | exact HB.out | apply pw_below_drewN))⟩
      · replace c10 := Bool.eq_false_iff.mpr c10
        subst c10
        have H1 : (some (0, 0, 0, 2)) = some (r1, r2, r3, r4) := by rw [if_neg (show ¬ (false = true) by decide)] at H; exact H
        clear H
        have H := H1
        clear H1
        simp only [Option.some.injEq, Prod.mk.injEq] at H
        obtain ⟨rfl, rfl, rfl, rfl⟩ := H
        go_enter Tryd.func15, Tryd.ntmps15
        go_wp2_with (first | ((with_reducible refine gate_callee (f := 36) rfl ?_); refine goesL_ (some 25) rfl rfl Tryd.func36 (by kernel_rfl) rfl #[.slice A0 l0.length c0, .int .i64 a1, .int .i64 a2] rfl (by (try simp only [List.map_toArray, List.map_cons, List.map_nil]); rfl) ?_; (with_reducible refine (capnpref05_Word.calls k _ _ l0 a1 a2 t236 true _ ?side1 ?side2 A4.out).mono ?_); (case side1 => repeat (exact HR0.out)); (case side2 => exact HC0.out); rintro e w' ⟨rfl, ⟨nd, rfl⟩⟩; refine ⟨_, rfl, ?_⟩) | ((with_reducible refine gate_callee (f := 17) rfl ?_); refine goesL_ (some 31) rfl rfl Tryd.func17 (by kernel_rfl) rfl #[.int .u64 t236] rfl (by (try simp only [List.map_toArray, List.map_cons, List.map_nil]); rfl) ?_; (with_reducible refine (capnpref07_IsFar.calls t236 true _ A6.out).mono ?_); rintro e w' ⟨rfl, ⟨nd, rfl⟩⟩; refine ⟨_, rfl, ?_⟩) | ((with_reducible refine gate_callee (f := 19) rfl ?_); refine goesL_ (some 39) rfl rfl Tryd.func19 (by kernel_rfl) rfl #[.int .u64 t236] rfl (by (try simp only [List.map_toArray, List.map_cons, List.map_nil]); rfl) ?_; (with_reducible refine (capnpref07_Landing.calls t236 t239 t240 _ A8.out).mono ?_); rintro e w' ⟨rfl, ⟨nd, rfl⟩⟩; refine ⟨_, rfl, ?_⟩) | ((with_reducible refine gate_callee (f := 36) rfl ?_); refine goesL_ (some 46) rfl rfl Tryd.func36 (by kernel_rfl) rfl #[.slice A0 l0.length c0, .int .i64 t239, .int .i64 t240] rfl (by (try simp only [List.map_toArray, List.map_cons, List.map_nil]); rfl) ?_; (with_reducible refine (capnpref05_Word.calls k _ _ l0 t239 t240 t241 false _ ?side1 ?side2 A9.out).mono ?_); (case side1 => repeat (exact HR0.out)); (case side2 => exact HC0.out); rintro e w' ⟨rfl, ⟨nd, rfl⟩⟩; refine ⟨_, rfl, ?_⟩))
        refine bodyPost_ret (results_list (rs := [.tmp 6, .tmp 7, .tmp 8, .tmp 9]) rfl (by simp) (.tmp (.tmp (.tmp (.tmp .nil))))) rfl ?_
        exact ⟨by rfl, by repeat ((with_reducible first | exact HB.out | apply pw_below_drewN))⟩
    · replace c7 := Bool.eq_false_iff.mpr c7
      subst c7
      have H1 : (some (t236, a1, wrap64 (a2 + 1), 0)) = some (r1, r2, r3, r4) := by rw [if_neg (show ¬ (false = true) by decide)] at H; exact H
      clear H
      have H := H1
      clear H1
      simp only [Option.some.injEq, Prod.mk.injEq] at H
      obtain ⟨rfl, rfl, rfl, rfl⟩ := H
      go_enter Tryd.func15, Tryd.ntmps15
      go_wp2_with (first | ((with_reducible refine gate_callee (f := 36) rfl ?_); refine goesL_ (some 25) rfl rfl Tryd.func36 (by kernel_rfl) rfl #[.slice A0 l0.length c0, .int .i64 a1, .int .i64 a2] rfl (by (try simp only [List.map_toArray, List.map_cons, List.map_nil]); rfl) ?_; (with_reducible refine (capnpref05_Word.calls k _ _ l0 a1 a2 t236 true _ ?side1 ?side2 A4.out).mono ?_); (case side1 => repeat (exact HR0.out)); (case side2 => exact HC0.out); rintro e w' ⟨rfl, ⟨nd, rfl⟩⟩; refine ⟨_, rfl, ?_⟩) | ((with_reducible refine gate_callee (f := 17) rfl ?_); refine goesL_ (some 31) rfl rfl Tryd.func17 (by kernel_rfl) rfl #[.int .u64 t236] rfl (by (try simp only [List.map_toArray, List.map_cons, List.map_nil]); rfl) ?_; (with_reducible refine (capnpref07_IsFar.calls t236 false _ A6.out).mono ?_); rintro e w' ⟨rfl, ⟨nd, rfl⟩⟩; refine ⟨_, rfl, ?_⟩))
      refine bodyPost_ret (results_list (rs := [.tmp 6, .tmp 7, .tmp 8, .tmp 9]) rfl (by simp) (.tmp (.tmp (.tmp (.tmp .nil))))) rfl ?_
      exact ⟨by rfl, by repeat ((with_reducible first | exact HB.out | apply pw_below_drewN))⟩
  · replace c5 := Bool.eq_false_iff.mpr c5
    subst c5
    have H1 : (some (0, 0, 0, 2)) = some (r1, r2, r3, r4) := by rw [if_neg (show ¬ (false = true) by decide)] at H; exact H
    clear H
    have H := H1
    clear H1
    simp only [Option.some.injEq, Prod.mk.injEq] at H
    obtain ⟨rfl, rfl, rfl, rfl⟩ := H
    go_enter Tryd.func15, Tryd.ntmps15
    go_wp2_with (((with_reducible refine gate_callee (f := 36) rfl ?_); refine goesL_ (some 25) rfl rfl Tryd.func36 (by kernel_rfl) rfl #[.slice A0 l0.length c0, .int .i64 a1, .int .i64 a2] rfl (by (try simp only [List.map_toArray, List.map_cons, List.map_nil]); rfl) ?_; (with_reducible refine (capnpref05_Word.calls k _ _ l0 a1 a2 t236 false _ ?side1 ?side2 A4.out).mono ?_); (case side1 => repeat (exact HR0.out)); (case side2 => exact HC0.out); rintro e w' ⟨rfl, ⟨nd, rfl⟩⟩; refine ⟨_, rfl, ?_⟩))
    refine bodyPost_ret (results_list (rs := [.tmp 6, .tmp 7, .tmp 8, .tmp 9]) rfl (by simp) (.tmp (.tmp (.tmp (.tmp .nil))))) rfl ?_
    exact ⟨by rfl, by repeat ((with_reducible first | exact HB.out | apply pw_below_drewN))⟩

end Go.Proofs.YtcjhejopcghgnaaDoor.P

set_option linter.unusedVariables false
set_option linter.unusedSimpArgs false
namespace Go.Proofs.YtcjhejopcghgnaaDoor.P
open Go.RowKit Go.Proofs.YtcjhejopcghgnaaDoorW.PrintWords Go.Proofs.YtcjhejopcghgnaaDoorW.PrintLast Go.Proofs.YtcjhejopcghgnaaDoorW.PrintMore
/-- The word at a place of a message. -/
def wd (l : List (List Int)) (s a : Int) : Int := rd (rd_L5 l s) a
theorem wd_range {l : List (List Int)} (h : Segs l) (s a : Int) : 0 ≤ wd l s a ∧ wd l s a < 18446744073709551616 := by
  have hw := (h.seg s).2
  unfold wd rd
  rw [List.getD_eq_getElem?_getD]
  by_cases hs : a.toNat < (rd_L5 l s).length
  · rw [List.getElem?_eq_getElem hs]
    have := hw _ (List.getElem_mem hs)
    simp only [Option.getD_some]
    omega
  · rw [List.getElem?_eq_none (by omega)]
    simp
theorem dec_kind {a : Int} (h : 0 ≤ a ∧ a < 18446744073709551616) : (decI a).1 = a % 4 := by
  unfold decI
  repeat' split
  all_goals (simp; omega)
theorem dec_far {a : Int} (hr : 0 ≤ a ∧ a < 18446744073709551616) (h : a % 4 = 2) : decI a = (2, 0, 0, 0, 0, 0, a / 4 % 2 == 1, a / 8 % 536870912, a / 4294967296, 0) := by
  unfold decI
  rw [if_neg (by omega), if_neg (by omega), if_pos h, Int.emod_eq_of_lt (a := a / 4294967296) (by omega) (by omega)]
theorem landing_seg (a : Int) (h : 0 ≤ a ∧ a < 18446744073709551616) : 0 ≤ a / 4294967296 ∧ a / 4294967296 ≤ 4294967295 := by omega
/-- What following a far word comes to, one pad. -/
def sgl (l : List (List Int)) (a : Int) : Int × Int × Int × Int :=
  if inB l (a / 4294967296) (a / 8 % 536870912) 1 then (if wd l (a / 4294967296) (a / 8 % 536870912) % 4 = 2 then (0, 0, 0, 3) else (wd l (a / 4294967296) (a / 8 % 536870912), a / 4294967296, a / 8 % 536870912 + 1, 0)) else (0, 0, 0, 2)
/-- Two pads. -/
def dbl (l : List (List Int)) (a : Int) : Int × Int × Int × Int :=
  if inB l (a / 4294967296) (a / 8 % 536870912) 2 then
    (if wd l (a / 4294967296) (a / 8 % 536870912) % 4 = 2 ∧ wd l (a / 4294967296) (a / 8 % 536870912) / 4 % 2 = 0 ∧ wd l (a / 4294967296) (a / 8 % 536870912 + 1) % 4 ≤ 1 ∧ (decI (wd l (a / 4294967296) (a / 8 % 536870912 + 1))).2.1 = 0
      then (wd l (a / 4294967296) (a / 8 % 536870912 + 1), wd l (a / 4294967296) (a / 8 % 536870912) / 4294967296, wd l (a / 4294967296) (a / 8 % 536870912) / 8 % 536870912, 0) else (0, 0, 0, 3)) else (0, 0, 0, 2)
/-- What Follow answers. -/
def fol (l : List (List Int)) (s a : Int) : Int × Int × Int × Int :=
  if inB l s a 1 then (if wd l s a % 4 = 2 then (if wd l s a / 4 % 2 = 1 then dbl l (wd l s a) else sgl l (wd l s a)) else (wd l s a, s, a + 1, 0)) else (0, 0, 0, 2)
theorem IsFar_eq {a : Int} (h : 0 ≤ a ∧ a < 18446744073709551616) : far_IsFar.f a = some (a % 4 == 2) := by
  unfold far_IsFar.f
  rw [Decode_eq h]
  simp only [Option.bind_some, dec_kind h]
theorem Landing_eq {a : Int} (h : 0 ≤ a ∧ a < 18446744073709551616) (hf : a % 4 = 2) : far_Landing.f a = some (a / 4294967296, a / 8 % 536870912) := by
  unfold far_Landing.f
  rw [Decode_eq h, dec_far h hf]
  simp only [Option.bind_some]
  rw [w64 (by omega)]
theorem single_eq {l : List (List Int)} (hl : Segs l) {a : Int} (h : 0 ≤ a ∧ a < 18446744073709551616) (hf : a % 4 = 2) : far_single.f l a = some (sgl l a) := by
  unfold far_single.f sgl
  rw [Landing_eq h hf]
  simp only [Option.bind_some]
  rw [Word_eq hl]
  simp only [Option.bind_some]
  by_cases hb : inB l (a / 4294967296) (a / 8 % 536870912) 1
  · rw [if_pos hb, if_pos hb]
    simp only [if_true]
    rw [show rd (rd_L5 l (a / 4294967296)) (a / 8 % 536870912) = wd l (a / 4294967296) (a / 8 % 536870912) from rfl, IsFar_eq (wd_range hl _ _)]
    simp only [Option.bind_some, beq_iff_eq]
    by_cases h2 : wd l (a / 4294967296) (a / 8 % 536870912) % 4 = 2
    · rw [if_pos h2, if_pos h2]
    · rw [if_neg h2, if_neg h2, w64 (by omega)]
  · rw [if_neg hb, if_neg hb]
    simp
theorem rIsFar_eq {a : Int} (h : 0 ≤ a ∧ a < 18446744073709551616) : capnpref07_IsFar.f a = some (a % 4 == 2) := by
  unfold capnpref07_IsFar.f
  rw [Int.tmod_eq_emod_of_nonneg h.1]
theorem rLanding_eq {a : Int} (h : 0 ≤ a ∧ a < 18446744073709551616) : capnpref07_Landing.f a = some (a / 4294967296, a / 8 % 536870912) := by
  unfold capnpref07_Landing.f
  rw [Int.tdiv_eq_ediv_of_nonneg h.1, Int.tmod_eq_emod_of_nonneg h.1, Int.tdiv_eq_ediv_of_nonneg (by omega), wrap_u64 (by omega), wrap_u64 (by omega), w64 (by omega), w64 (by omega), show a % 4294967296 / 8 = a / 8 % 536870912 by omega]
theorem rBit {a : Int} (h : 0 ≤ a ∧ a < 18446744073709551616) : Int.tmod (IntKind.u64.wrap (Int.tdiv a 4)) 2 = a / 4 % 2 := by
  rw [Int.tdiv_eq_ediv_of_nonneg h.1, wrap_u64 (by omega), Int.tmod_eq_emod_of_nonneg (by omega)]
theorem inB_two {l : List (List Int)} {s a : Int} : inB l s a 2 ↔ inB l s a 1 ∧ inB l s (a + 1) 1 := by
  unfold inB
  omega
theorem rFollow_has {l : List (List Int)} (hl : Segs l) (s a : Int) : Has (fun k => capnpref07_Follow.f k l s a) (fol l s a) := by
  have rw_ : ∀ s a, Has (fun k => capnpref05_Word.f k l s a) (if inB l s a 1 then (wd l s a, true) else (0, false)) := fun s a => ⟨rounds l, fun k hk => rWord_eq hl s a k hk⟩
  simp only [capnpref07_Follow.f]
  unfold fol
  refine Has.bind (rw_ s a) ?_
  by_cases hb : inB l s a 1
  case neg =>
    rw [if_neg hb, if_neg hb]
    exact Has.neg (by simp) (Has.some_ _)
  rw [if_pos hb, if_pos hb]
  have h0 := wd_range hl s a
  refine Has.pos rfl ?_
  rw [rIsFar_eq h0]
  simp only [Option.bind_some, beq_iff_eq]
  by_cases hf : wd l s a % 4 = 2
  case neg =>
    refine Has.neg hf ?_
    rw [if_neg hf]
    refine (Has.some_ _).eq ?_
    have hlen := (hl.seg s).1
    unfold inB at hb
    rw [w64 (by omega)]
  refine Has.pos hf ?_
  rw [if_pos hf, rLanding_eq h0]
  simp only [Option.bind_some]
  generalize wd l s a = x at h0 hf
  have h1 := wd_range hl (x / 4294967296) (x / 8 % 536870912)
  have h2 := wd_range hl (x / 4294967296) (x / 8 % 536870912 + 1)
  refine Has.bind (rw_ _ _) ?_
  by_cases h4 : x / 4 % 2 = 1
  · rw [if_pos h4]
    unfold dbl
    by_cases b1 : inB l (x / 4294967296) (x / 8 % 536870912) 1
    case neg =>
      rw [if_neg b1, if_neg (fun h => b1 (inB_two.1 h).1)]
      exact Has.neg (by simp) (Has.some_ _)
    rw [if_pos b1]
    refine Has.pos rfl ?_
    rw [rBit h0]
    refine Has.neg (by omega) ?_
    rw [w64 (x := x / 8 % 536870912 + 1) (by omega)]
    refine Has.bind (rw_ _ _) ?_
    by_cases b2 : inB l (x / 4294967296) (x / 8 % 536870912 + 1) 1
    case neg =>
      rw [if_neg b2, if_neg (fun h => b2 (inB_two.1 h).2)]
      exact Has.neg (by simp) (Has.some_ _)
    rw [if_pos b2, if_pos (inB_two.2 ⟨b1, b2⟩)]
    refine Has.pos rfl ?_
    simp only [rIsFar_eq h1, rLanding_eq h1, rBit h1, Option.bind_some, beq_iff_eq]
    generalize wd l (x / 4294967296) (x / 8 % 536870912) = y at h1
    generalize wd l (x / 4294967296) (x / 8 % 536870912 + 1) = z at h2
    refine Has.bind ⟨201, fun k hk => rDecode_eq h2 k (by omega)⟩ ?_
    rw [dec_kind h2]
    by_cases c1 : y % 4 = 2
    case neg => exact Has.neg c1 ((Has.some_ _).eq (by rw [if_neg (fun h => c1 h.1)]))
    refine Has.pos c1 ?_
    by_cases c2 : y / 4 % 2 = 1
    case pos => exact Has.pos c2 ((Has.some_ _).eq (by rw [if_neg (fun h => by omega)]))
    refine Has.neg c2 ?_
    by_cases c3 : z % 4 > 1
    case pos => exact Has.pos c3 ((Has.some_ _).eq (by rw [if_neg (fun h => by omega)]))
    refine Has.neg c3 ?_
    by_cases c4 : (decI z).2.1 = 0
    case neg => exact Has.neg c4 ((Has.some_ _).eq (by rw [if_neg (fun h => c4 h.2.2.2)]))
    exact Has.pos c4 ((Has.some_ _).eq (by rw [if_pos ⟨c1, by omega, by omega, c4⟩]))
  · rw [if_neg h4]
    unfold sgl
    by_cases b1 : inB l (x / 4294967296) (x / 8 % 536870912) 1
    case neg =>
      rw [if_neg b1, if_neg b1]
      exact Has.neg (by simp) (Has.some_ _)
    rw [if_pos b1, if_pos b1]
    refine Has.pos rfl ?_
    rw [rBit h0]
    refine Has.pos (by omega) ?_
    simp only [rIsFar_eq h1, Option.bind_some, beq_iff_eq]
    by_cases c1 : wd l (x / 4294967296) (x / 8 % 536870912) % 4 = 2
    · exact Has.pos c1 ((Has.some_ _).eq (by rw [if_pos c1]))
    · exact Has.neg c1 ((Has.some_ _).eq (by rw [if_neg c1, w64 (by omega)]))
end Go.Proofs.YtcjhejopcghgnaaDoor.P

set_option linter.unusedVariables false
set_option linter.unusedSimpArgs false
namespace Go.Proofs.YtcjhejopcghgnaaDoor.P
open Go.RowKit Go.Proofs.YtcjhejopcghgnaaDoorW.PrintWords Go.Proofs.YtcjhejopcghgnaaDoorW.PrintLast Go.Proofs.YtcjhejopcghgnaaDoorW.PrintMore
theorem two_of (L : List Int) (n : Nat) (h : n + 2 ≤ L.length) : (L.drop n).take 2 = [L.getD n 0, L.getD (n + 1) 0] := by
  rw [List.drop_eq_getElem_cons (by omega), List.drop_eq_getElem_cons (i := n + 1) (by omega), List.getD_eq_getElem?_getD, List.getD_eq_getElem?_getD, List.getElem?_eq_getElem (by omega), List.getElem?_eq_getElem (by omega)]
  rfl
theorem cut_two {l : List (List Int)} {s a : Int} (h : inB l s a 2) : cut l s a 2 = [wd l s a, wd l s (a + 1)] := by
  obtain ⟨h1, h2, h3, h4, h5⟩ := h
  unfold cut wd rd
  rw [show (2 : Int).toNat = 2 from rfl, two_of _ _ (by omega), show (a + 1).toNat = a.toNat + 1 by omega]
theorem double_eq {l : List (List Int)} (hl : Segs l) {a : Int} (h : 0 ≤ a ∧ a < 18446744073709551616) (hf : a % 4 = 2) : far_double.f l a = some (dbl l a) := by
  unfold far_double.f dbl
  rw [Landing_eq h hf]
  simp only [Option.bind_some]
  rw [Slice_eq hl _ _ _ (by omega)]
  simp only [Option.bind_some]
  by_cases hb : inB l (a / 4294967296) (a / 8 % 536870912) 2
  case neg =>
    rw [if_neg hb, if_neg hb]
    simp
  rw [if_pos hb, if_pos hb, cut_two hb]
  have h1 := wd_range hl (a / 4294967296) (a / 8 % 536870912)
  have h2 := wd_range hl (a / 4294967296) (a / 8 % 536870912 + 1)
  generalize wd l (a / 4294967296) (a / 8 % 536870912) = y at h1
  generalize wd l (a / 4294967296) (a / 8 % 536870912 + 1) = z at h2
  have e1 : (0 : Int) < (([y, z] : List Int).length : Int) := by simp
  have e2 : (1 : Int) < (([y, z] : List Int).length : Int) := by simp
  rw [if_pos rfl]
  dsimp only
  rw [if_pos e1, show rd [y, z] 0 = y from rfl, show rd [y, z] 1 = z from rfl, Decode_eq h1]
  simp only [Option.bind_some]
  rw [if_pos e2, Decode_eq h2]
  simp only [Option.bind_some]
  rw [dec_kind h1, dec_kind h2]
  by_cases c1 : y % 4 = 2
  case neg => rw [if_neg c1, if_neg (fun q => c1 q.1)]
  rw [if_pos c1, dec_far h1 c1]
  by_cases c2 : y / 4 % 2 = 1
  case pos => rw [if_pos (by simp [c2]), if_neg (fun q => by omega)]
  rw [if_neg (by simp [c2])]
  by_cases c3 : z % 4 > 1
  case pos => rw [if_pos c3, if_neg (fun q => by omega)]
  rw [if_neg c3]
  by_cases c4 : (decI z).2.1 = 0
  case neg => rw [if_neg c4, if_neg (fun q => c4 q.2.2.2)]
  rw [if_pos c4, if_pos ⟨c1, by omega, by omega, c4⟩]
  show some (z, wrap64 (y / 4294967296), y / 8 % 536870912, (0 : Int)) = _
  rw [w64 (by omega)]
theorem Follow_eq {l : List (List Int)} (hl : Segs l) (s a : Int) : far_Follow.f l s a = some (fol l s a) := by
  unfold far_Follow.f fol
  rw [Word_eq hl]
  simp only [Option.bind_some]
  by_cases hb : inB l s a 1
  case neg =>
    rw [if_neg hb, if_neg hb]
    simp
  rw [if_pos hb, if_pos hb]
  have h0 := wd_range hl s a
  simp only [if_true]
  rw [show rd (rd_L5 l s) a = wd l s a from rfl, IsFar_eq h0, Decode_eq h0]
  simp only [Option.bind_some, beq_iff_eq]
  by_cases hf : wd l s a % 4 = 2
  case neg =>
    have hlen := (hl.seg s).1
    unfold inB at hb
    rw [if_neg hf, if_neg hf, w64 (by omega)]
    simp
  rw [if_pos hf, if_pos hf]
  generalize wd l s a = x at h0 hf
  rw [dec_far h0 hf]
  simp only [beq_iff_eq]
  by_cases h4 : x / 4 % 2 = 1
  · rw [if_pos h4, if_pos h4, double_eq hl h0 hf]
    simp only [Option.bind_some]
    unfold dbl
    repeat' split
    all_goals simp_all
  · rw [if_neg h4, if_neg h4, single_eq hl h0 hf]
    simp only [Option.bind_some]
    unfold sgl
    repeat' split
    all_goals simp_all
end Go.Proofs.YtcjhejopcghgnaaDoor.P

set_option linter.unusedVariables false
set_option linter.unusedSimpArgs false
namespace Go.Proofs.YtcjhejopcghgnaaDoor.P
open Go.RowKit Go.Proofs.YtcjhejopcghgnaaDoorW.PrintWords Go.Proofs.YtcjhejopcghgnaaDoorW.PrintLast Go.Proofs.YtcjhejopcghgnaaDoorW.PrintMore
theorem Few_has {l : List (List Int)} (h : Segs l) : Has (fun k => capnpref04_Few.f k l) (decide (Few l)) := ⟨l.length + 2, fun k hk => Few_eq h k (by omega)⟩
/-- What Follow's answers look like. -/
theorem fol_ok {l : List (List Int)} (hl : Segs l) (s a : Int) : ((fol l s a).2.2.2 = 0 ∧ 0 ≤ (fol l s a).1 ∧ (fol l s a).1 < 18446744073709551616 ∧ (fol l s a).1 % 4 ≠ 2 ∧ inB l s a 1 ∧ (wd l s a % 4 ≠ 2 → (fol l s a).1 = wd l s a ∧ (fol l s a).2.1 = s ∧ (fol l s a).2.2.1 = a + 1)) ∨ (fol l s a = (0, 0, 0, 2) ∨ fol l s a = (0, 0, 0, 3)) := by
  unfold fol
  by_cases hb : inB l s a 1
  case neg => rw [if_neg hb]; exact Or.inr (Or.inl rfl)
  rw [if_pos hb]
  have h0 := wd_range hl s a
  by_cases hf : wd l s a % 4 = 2
  case neg => rw [if_neg hf]; exact Or.inl ⟨rfl, h0.1, h0.2, hf, hb, fun _ => ⟨rfl, rfl, rfl⟩⟩
  rw [if_pos hf]
  generalize wd l s a = x at *
  by_cases h4 : x / 4 % 2 = 1
  · rw [if_pos h4]
    unfold dbl
    have h2 := wd_range hl (x / 4294967296) (x / 8 % 536870912 + 1)
    by_cases c1 : inB l (x / 4294967296) (x / 8 % 536870912) 2
    case neg => rw [if_neg c1]; exact Or.inr (Or.inl rfl)
    rw [if_pos c1]
    split
    · rename_i c2
      exact Or.inl ⟨rfl, h2.1, h2.2, by omega, hb, fun q => absurd hf q⟩
    · exact Or.inr (Or.inr rfl)
  · rw [if_neg h4]
    unfold sgl
    have h2 := wd_range hl (x / 4294967296) (x / 8 % 536870912)
    by_cases c1 : inB l (x / 4294967296) (x / 8 % 536870912) 1
    case neg => rw [if_neg c1]; exact Or.inr (Or.inl rfl)
    rw [if_pos c1]
    split
    · exact Or.inr (Or.inr rfl)
    · rename_i c2
      exact Or.inl ⟨rfl, h2.1, h2.2, c2, hb, fun q => absurd hf q⟩
end Go.Proofs.YtcjhejopcghgnaaDoor.P

set_option linter.unusedVariables false
set_option linter.unusedSimpArgs false
namespace Go.Proofs.YtcjhejopcghgnaaDoor.P
open Go.RowKit Go.Proofs.YtcjhejopcghgnaaDoorW.PrintWords Go.Proofs.YtcjhejopcghgnaaDoorW.PrintLast Go.Proofs.YtcjhejopcghgnaaDoorW.PrintMore
theorem awake_has : Has (fun k => capnplaw07_awake.f k) true := ⟨300, fun k hk => le_of_mono (f := capnplaw07_awake.f) capnplaw07_awake.mono (n := 300) (by kernel_rfl) k hk⟩
end Go.Proofs.YtcjhejopcghgnaaDoor.P

set_option linter.unusedVariables false
set_option linter.unusedSimpArgs false
namespace Go.Proofs.YtcjhejopcghgnaaDoor.P
open Go.RowKit Go.Proofs.YtcjhejopcghgnaaDoorW.PrintWords Go.Proofs.YtcjhejopcghgnaaDoorW.PrintLast Go.Proofs.YtcjhejopcghgnaaDoorW.PrintMore
theorem rd_app_left {l m : List (List Int)} {i : Int} (h0 : 0 ≤ i) (h : i < l.length) : rd_L5 (l ++ m) i = rd_L5 l i := by
  unfold rd_L5
  rw [List.getD_eq_getElem?_getD, List.getD_eq_getElem?_getD, List.getElem?_append_left (by omega)]
theorem rd_app_last {l : List (List Int)} {y : List Int} {i : Int} (h : i = l.length) : rd_L5 (l ++ [y]) i = y := by
  unfold rd_L5
  rw [List.getD_eq_getElem?_getD, List.getElem?_append_right (by omega), show i.toNat - l.length = 0 by omega]
  rfl
theorem rd_cons {l : List (List Int)} {y : List Int} : rd_L5 (y :: l) 0 = y := rfl
theorem Segs.app {l : List (List Int)} {y : List Int} (h : Segs l) (hl : l.length < 1000000) (hy : Words y) : Segs (l ++ [y]) := by
  refine ⟨by simp; omega, fun s hs => ?_⟩
  rcases List.mem_append.1 hs with hs | hs
  · exact h.2 s hs
  · rw [List.mem_singleton.1 hs]; exact hy
theorem Segs.cons {l : List (List Int)} {y : List Int} (h : Segs l) (hl : l.length < 1000000) (hy : Words y) : Segs (y :: l) := by
  refine ⟨by simp; omega, fun s hs => ?_⟩
  rcases List.mem_cons.1 hs with hs | hs
  · rw [hs]; exact hy
  · exact h.2 s hs
theorem far_word {b : Bool} {pd sg : Int} (h1 : 0 ≤ pd ∧ pd ≤ 536870911) (h2 : 0 ≤ sg ∧ sg ≤ 4294967295) : vldP (2, 0, 0, 0, 0, 0, b, pd, sg, 0) := by
  exact .inr (.inr (.inl ⟨rfl, rfl, rfl, rfl, rfl, rfl, h1.1, h1.2, h2.1, h2.2, rfl⟩))
/-- The parts of a far word. -/
theorem far_parts {b : Bool} {pd sg : Int} (h1 : 0 ≤ pd ∧ pd ≤ 536870911) (h2 : 0 ≤ sg ∧ sg ≤ 4294967295) {x : Int} (hx : x = pakI (2, 0, 0, 0, 0, 0, b, pd, sg, 0)) : x % 4 = 2 ∧ x / 4 % 2 = (if b then 1 else 0) ∧ x / 4294967296 = sg ∧ x / 8 % 536870912 = pd := by
  subst hx
  unfold pakI
  simp only [show ¬ ((2 : Int) = 0) by decide, show ¬ ((2 : Int) = 1) by decide, if_false, if_true]
  cases b <;> simp only [Bool.false_eq_true, if_false, if_true] <;> omega
theorem Words.of {xs : List Int} (hl : xs.length ≤ 1000) (h : ∀ x ∈ xs, 0 ≤ x ∧ x < 18446744073709551616) : Words xs := ⟨by omega, fun x hx => by have := h x hx; omega⟩
end Go.Proofs.YtcjhejopcghgnaaDoor.P

set_option linter.unusedVariables false
namespace Go.Proofs.YtcjhejopcghgnaaDoor.P
open Go.RowKit Go.Proofs.YtcjhejopcghgnaaDoorW.PrintWords

/-- What is read at a type, with this much fuel, is a value of the kind, and tells this of the datum. -/
def OpensAt {H α : Type} (enc : TypeId × Value → H) (P : Program) (w : World) (n : Nat) (t : TypeId) (d : Kd α) (S : α → DataW H → Prop) : Prop :=
  ∀ cs x, DataW.trod enc P w 0 (fun _ => true) true n t cs = some x → ∃ a, d.K w a cs ∧ S a x.1
def Opens {H α : Type} (enc : TypeId × Value → H) (P : Program) (w : World) (t : TypeId) (d : Kd α) (S : α → DataW H → Prop) : Prop := ∀ n, OpensAt enc P w n t d S

/-- The data of whole numbers, of slices. -/
def DInt {H : Type} (k : IntKind) (n : Int) (x : DataW H) : Prop := x = .lit (.int k n) ∧ (Lit.int k n).wf = true
def DBool {H : Type} (b : Bool) (x : DataW H) : Prop := x = .lit (.bool b)
inductive DAll {H α : Type} (S : α → DataW H → Prop) : List α → List (DataW H) → Prop
  | nil : DAll S [] []
  | cons {a : α} {x : DataW H} {us : List α} {xs : List (DataW H)} : S a x → DAll S us xs → DAll S (a :: us) (x :: xs)
def DSlice {H α : Type} (S : α → DataW H → Prop) (xs : List α) (x : DataW H) : Prop := (xs = [] ∧ x = .nil) ∨ ∃ es rest, x = .slice es rest ∧ DAll S xs es
theorem DAll.mem {H α : Type} {S : α → DataW H → Prop} {us : List α} {xs : List (DataW H)} (h : DAll S us xs) {a : α} (ha : a ∈ us) : ∃ x, x ∈ xs ∧ S a x := by
  induction h with
  | nil => cases ha
  | cons h0 _ ih =>
    rcases List.mem_cons.1 ha with rfl | ha
    · exact ⟨_, List.mem_cons_self, h0⟩
    · obtain ⟨x, hx, hs⟩ := ih ha
      exact ⟨x, List.mem_cons_of_mem _ hx, hs⟩
theorem DAll.length {H α : Type} {S : α → DataW H → Prop} {us : List α} {xs : List (DataW H)} (h : DAll S us xs) : us.length = xs.length := by
  induction h with
  | nil => rfl
  | cons _ _ ih => simp [ih]
theorem DSlice.mem {H α : Type} {S : α → DataW H → Prop} {xs : List α} {x : DataW H} (h : DSlice S xs x) {a : α} (ha : a ∈ xs) : ∃ y, S a y := by
  rcases h with ⟨rfl, _⟩ | ⟨es, rest, _, h⟩
  · cases ha
  · obtain ⟨y, _, hs⟩ := h.mem ha
    exact ⟨y, hs⟩

section
variable {H α : Type} {enc : TypeId × Value → H} {P : Program} {w : World} {n : Nat} {t e : TypeId}
theorem OpensAt.int {k : IntKind} (ht : P.underlying t = some (.int k)) : OpensAt enc P w n t (Kd.int k) (DInt k) := by
  intro cs x h
  obtain ⟨m, rfl, rfl, hw⟩ := DataW.trod_int ht h
  exact ⟨m, rfl, rfl, hw⟩
theorem OpensAt.bool (ht : P.underlying t = some .bool) : OpensAt enc P w n t Kd.bool DBool := by
  intro cs x h
  obtain ⟨b, rfl, rfl⟩ := DataW.trod_bool ht h
  exact ⟨b, rfl, rfl⟩
theorem mapM_get {α β : Type} {f : α → Option β} : ∀ {l : List α} {r : List β}, l.mapM f = some r → r.length = l.length ∧ ∀ (i : Nat) (x : α), l[i]? = some x → f x = r[i]?
  | [], r, h => by simp at h; subst h; simp
  | a :: l, r, h => by
    simp only [List.mapM_cons, Option.bind_eq_bind, Option.bind_eq_some_iff, Option.pure_def, Option.some.injEq] at h
    obtain ⟨b, hb, r', hr, rfl⟩ := h
    obtain ⟨h1, h2⟩ := mapM_get hr
    refine ⟨by simp [h1], fun i x hx => ?_⟩
    cases i with
    | zero => simp at hx; subst hx; simpa using hb
    | succ i => simp at hx; simpa using h2 i x hx
theorem cells?_get {w : World} {a : Addr} {n : Nat} {cs : List Value} (h : w.cells? 0 a n = some cs) : cs.length = n ∧ ∀ (i : Nat) (u : Value), cs[i]? = some u → w.cell? (a.add i) = some u := by
  simp only [World.cells?, Nat.zero_le, if_true] at h
  obtain ⟨h1, h2⟩ := mapM_get h
  refine ⟨by simpa using h1, fun i u hu => ?_⟩
  have hi : i < n := by have := (List.getElem?_eq_some_iff.1 hu).1; simp at h1; omega
  rw [h2 i i (by simp [hi]), hu]
theorem exists_list {α : Type} {p : Nat → α → Prop} : ∀ (m : Nat), (∀ i, i < m → ∃ a, p i a) → ∃ l : List α, l.length = m ∧ ∀ (i : Nat) (a : α), l[i]? = some a → p i a
  | 0, _ => ⟨[], rfl, fun i a h => by simp at h⟩
  | m + 1, h => by
    obtain ⟨l, hl, hp⟩ := exists_list m (fun i hi => h i (by omega))
    obtain ⟨a, ha⟩ := h m (by omega)
    refine ⟨l ++ [a], by simp [hl], fun i b hb => ?_⟩
    rcases Nat.lt_or_ge i l.length with hi | hi
    · rw [List.getElem?_append_left hi] at hb
      exact hp i b hb
    · have : i = l.length := by
        have := (List.getElem?_eq_some_iff.1 hb).1
        simp at this
        omega
      subst this
      simp at hb
      subst hb
      rw [hl]
      exact ha
theorem DAll.of_get {S : α → DataW H → Prop} : ∀ {us : List α} {xs : List (DataW H)}, us.length = xs.length → (∀ (i : Nat) (a : α) (x : DataW H), us[i]? = some a → xs[i]? = some x → S a x) → DAll S us xs
  | [], [], _, _ => .nil
  | [], _ :: _, h, _ => by simp at h
  | _ :: _, [], h, _ => by simp at h
  | a :: us, x :: xs, h, hg => .cons (hg 0 a x rfl rfl) (DAll.of_get (by simpa using h) fun i b y hb hy => hg (i + 1) b y (by simpa using hb) (by simpa using hy))
theorem OpensAt.slice {d : Kd α} {S : α → DataW H → Prop} (ht : P.underlying t = some (.slice e)) (hc : P.cellsOf e = d.sz) (h : OpensAt enc P w n e d S) : OpensAt enc P w (n + 1) t (Kd.slice e d) (DSlice S) := by
  intro cs x hx
  rcases DataW.trod_slice ht hx with ⟨rfl, rfl⟩ | ⟨a, len, cap, elems, rest, m, hm, rfl, rfl, _, hl, hcap, hlen, hel, _⟩
  · exact ⟨[], ⟨none, 0, rfl, Nat.le_refl _, rfl, by simp, fun h => absurd h (by simp)⟩, .inl ⟨rfl, rfl⟩⟩
  · obtain rfl : n = m := by omega
    have key : ∀ i, i < len → ∃ p : α, ∃ c : List Value, c.length = d.sz ∧ d.K w p c ∧ (∀ (j : Nat) (u : Value), c[j]? = some u → w.cell? (a.add (i * d.sz + j)) = some u) ∧ ∃ y, elems[i]? = some y ∧ S p y.1 := by
      intro i hi
      have h1 := hel i hi
      rw [List.getElem?_eq_getElem (by omega : i < elems.length)] at h1
      obtain ⟨c, hc1, hc2⟩ := Option.bind_eq_some_iff.mp h1
      obtain ⟨p, hp, hs⟩ := h c _ hc2
      obtain ⟨g1, g2⟩ := cells?_get hc1
      refine ⟨p, c, by rw [g1, hc], hp, fun j u hu => ?_, _, List.getElem?_eq_getElem (by omega), hs⟩
      have := g2 j u hu
      rwa [Deep.add_add, hc] at this
    obtain ⟨ps, hpl, hps⟩ := exists_list len key
    refine ⟨ps, ⟨some a, cap, by rw [hpl], by rw [hpl]; exact hl, rfl, by rw [hpl]; unfold maxLen at hcap; omega, fun _ => ⟨a, rfl, fun j p hj => ?_⟩⟩, .inr ⟨_, _, rfl, ?_⟩⟩
    · obtain ⟨c, h1, h2, h3, _⟩ := hps j p hj
      exact ⟨c, h1, h2, h3⟩
    · refine DAll.of_get (by simp [hpl, hlen]) fun i p y hp hy => ?_
      obtain ⟨c, _, _, _, z, hz, hs⟩ := hps i p hp
      rw [List.getElem?_map, hz] at hy
      simp at hy
      subst hy
      exact hs
theorem OpensAt.zero (t : TypeId) (d : Kd α) (S : α → DataW H → Prop) : OpensAt enc P w 0 t d S := by
  intro cs x h
  simp [DataW.trod] at h
theorem Opens.slice {d : Kd α} {S : α → DataW H → Prop} (ht : P.underlying t = some (.slice e)) (hc : P.cellsOf e = d.sz) (h : Opens enc P w e d S) : Opens enc P w t (Kd.slice e d) (DSlice S)
  | 0 => OpensAt.zero _ _ _
  | n + 1 => OpensAt.slice ht hc (h n)
/-- What the list that was read is, plainly. -/
theorem plain_slice {d : Kd α} {S : α → DataW H → Prop} {Q : α → Prop} {A : Option Addr} {xs : List α} {x : DataW H} (hc : Kd.C d w A xs.length xs) (s : DSlice S xs x) (hQ : ∀ a y c, S a y → d.K w a c → Q a) : xs.length ≤ 9223372036854775807 ∧ ∀ a ∈ xs, Q a :=
  ⟨hc.2.1, fun a ha => by
    obtain ⟨i, hi, rfl⟩ := List.getElem_of_mem ha
    obtain ⟨y, hy⟩ := s.mem ha
    obtain ⟨ad, _, hcell⟩ := hc.2.2 (by omega)
    obtain ⟨c, _, hK, _⟩ := hcell i _ (List.getElem?_eq_getElem hi)
    exact hQ _ y c hy hK⟩
end
end Go.Proofs.YtcjhejopcghgnaaDoor.P

namespace Go.Proofs.YtcjhejopcghgnaaDoor.P
open Go.RowKit Go.WideMaps Go.WideElems
theorem gDec : Tryd.prog.globalNamed "capnp/pointer.decoders" = some 0 := by kernel_rfl
theorem tDec : (Tryd.prog.globals[0]?).map (·.type) = some 70 := by kernel_rfl
theorem zFunc (W : World) : (zeroValue 41).run Tryd.prog W = .ok .nilFunc W := by kernel_rfl
def decD : DataW (List UInt8) := .map [(.int .i64 0, .held [99, 97, 112, 110, 112, 47, 112, 111, 105, 110, 116, 101, 114, 46, 100, 101, 99, 111, 100, 101, 114, 115, 36, 49]), (.int .i64 1, .held [99, 97, 112, 110, 112, 47, 112, 111, 105, 110, 116, 101, 114, 46, 100, 101, 99, 111, 100, 101, 114, 115, 36, 50]), (.int .i64 2, .held [99, 97, 112, 110, 112, 47, 112, 111, 105, 110, 116, 101, 114, 46, 100, 101, 99, 111, 100, 101, 114, 115, 36, 51]), (.int .i64 3, .held [99, 97, 112, 110, 112, 47, 112, 111, 105, 110, 116, 101, 114, 46, 100, 101, 99, 111, 100, 101, 114, 115, 36, 52])]
def DecOk (w : World) : Prop := ∃ bm es clock, w.cell? ⟨0, 0, none⟩ = some (.map (some bm)) ∧ w.heap[bm]? = some (.map es clock) ∧
    ∀ W : World, W.heap[bm]? = some (.map es clock) →
      (Instr.lookup 70 (.map (some bm)) (.int .i64 0) false).run Tryd.prog W = .ok (.func (.func 75) #[] #[]) W ∧
      (Instr.lookup 70 (.map (some bm)) (.int .i64 1) false).run Tryd.prog W = .ok (.func (.func 77) #[] #[]) W ∧
      (Instr.lookup 70 (.map (some bm)) (.int .i64 2) false).run Tryd.prog W = .ok (.func (.func 78) #[] #[]) W ∧
      (Instr.lookup 70 (.map (some bm)) (.int .i64 3) false).run Tryd.prog W = .ok (.func (.func 79) #[] #[]) W
theorem dec_of_laid {W : World} {l : List (String × DataW Unit)} (h : laidMetH Tryd.prog l W) (hm : ("capnp/pointer.decoders", Rows.laid_capnp_pointer_decoders) ∈ l) : DecOk W := by
  obtain ⟨g, t, cs, fuel, p, hg, ht, hv, hd⟩ := h.funcs hm
  obtain rfl := Option.some.inj (gDec.symm.trans hg)
  obtain rfl := Option.some.inj (tDec.symm.trans ht)
  have hd' : DataW.trod (funcToken Tryd.prog) Tryd.prog W 0 (fun _ => true) true fuel 70 cs.toList = some (decD, p) := hd
  rcases open_map Tryd.underlying70 hd' with ⟨_, hx⟩ | ⟨bm, es, clock, n, rfl, hcs, hb, _, F, hx⟩
  · simp [decD] at hx
  simp only [Prod.mk.injEq] at hx
  have hcell : W.cell? ⟨0, 0, none⟩ = some (.map (some bm)) := by
    have := World.var?_cell hg hv 0
    rw [Array.eq_one_of_toList hcs] at this
    simpa using this
  refine ⟨bm, es, clock, hcell, hb, fun W' hb' => ?_⟩
  have key : ∀ (k : Int) (f : FuncId) (b : UInt8) (r : List UInt8), (Lit.int .i64 k).wf = true → (∀ zd, DataW.atKey (.map ((es.toList.map (rg Tryd.prog 3 (elemAt (funcToken Tryd.prog) Tryd.prog W 0 (fun _ => true) true n 41))).foldr DataW.insert [])) (.int .i64 k) zd = .held (b :: r)) →
      ((List.range Tryd.prog.funcs.size).filter fun f => (Tryd.prog.funcs[f]?).any (·.name.toUTF8.data.toList == b :: r)) = [f] →
      (Instr.lookup 70 (.map (some bm)) (.int .i64 k) false).run Tryd.prog W' = .ok (.func (.func f) #[] #[]) W' := by
    intro k f b r hwf hat0 hone
    rcases Maps.fit_look false (Maps.int_keyed Tryd.underlying3) Tryd.underlying70 (zFunc W') hb' F (Maps.keyOf_int_mk Tryd.underlying3 hwf) with ⟨_, _, hat⟩ | ⟨e0, y, _, _, hrun, hRv, hat, _⟩
    · have := hat .nil
      rw [hat0] at this
      cases this
    · have h1 := hat .nil
      rw [hat0] at h1
      obtain ⟨y1, y2⟩ := y
      simp only at h1
      subst h1
      unfold elemAt at hRv
      split at hRv
      · rename_i hf
        have hv1 : e0.val.cells.toList = [e0.val] := by
          cases he : e0.val <;> simp_all [Value.cells, Value.formed, Tryd.underlying41]
        rw [hv1] at hRv
        have := func_of_trod Tryd.underlying41 hone hRv
        rw [this] at hrun
        simpa using hrun
      · cases hRv
  exact ⟨key 0 75 _ _ rfl (fun zd => by rw [← hx.1]; rfl) (by kernel_rfl), key 1 77 _ _ rfl (fun zd => by rw [← hx.1]; rfl) (by kernel_rfl), key 2 78 _ _ rfl (fun zd => by rw [← hx.1]; rfl) (by kernel_rfl), key 3 79 _ _ rfl (fun zd => by rw [← hx.1]; rfl) (by kernel_rfl)⟩
theorem gBits : Tryd.prog.globalNamed "capnp/listsize.bits" = some 1 := by kernel_rfl
theorem tBits : (Tryd.prog.globals[1]?).map (·.type) = some 79 := by kernel_rfl
theorem bits_of_laid {W : World} {l : List (String × DataW Unit)} (h : laidMetH Tryd.prog l W) (hf : l.filter (fun x => x.2.handleName?.isNone) = [("capnp/listsize.bits", Rows.laid_capnp_listsize_bits)]) : ∀ i : Nat, i < 8 → W.cell? ⟨1, i, none⟩ = some (.int .i64 (bitsOf i)) := by
  have h1 := (laidMetH_iff.1 h).1
  rw [hf] at h1
  have ht : Lib.TabIs Tryd.prog W "capnp/listsize.bits" .i64 [0, 1, 8, 16, 32, 64, 64, 0] := Lib.tabIs_of_head (rest := []) gBits tBits Tryd.underlying79 Tryd.underlying3 (by kernel_rfl) (by kernel_rfl) h1
  exact fun i hi => ht.cell gBits i hi
end Go.Proofs.YtcjhejopcghgnaaDoor.P
