-- Printed by this session's wip/pp.py, out of Lean's print of the program.
import Derived.Test.YtlkcmpamjheldaaPx0
import Derived.Test.YtlkcmpamjheldaaPx1
import Derived.Test.YtlkcmpamjheldaaPx2
import Derived.Test.YtlkcmpamjheldaaPx3
import Derived.Test.YtlkcmpamjheldaaPx4
import Derived.Test.YtlkcmpamjheldaaPx5
namespace Go.Proofs.Ytlkcmpamjheldaa.P
open Go.RowKit Go.Proofs.YtlkcmpamjheldaaW.PrintWords Go.Proofs.YtlkcmpamjheldaaW.PrintLast Go.Proofs.YtlkcmpamjheldaaW.PrintMore
attribute [local go_sem] max2_int min2_int max_two min_two max_three min_three max_four min_four   -- for this text's walks alone
set_option linter.unusedVariables false
set_option linter.unusedSimpArgs false

/-! ### capnplaw05_awake: function 7 -/
def capnplaw05_awake.f (k : Nat)  : Option (Bool) := (some (([(([1, 2] : List Int)), (([] : List Int)), (([3] : List Int))] : List (List Int)) : List (List Int))).bind fun y118 => ((arena_Word.f y118 0 1).bind fun bt121 => ((arena_Word.f y118 1 0).bind fun bt123 => ((arena_Slice.f y118 0 0 2).bind fun bt125 => (if bt121.1 = 2 then (if bt121.2 = true then (if bt123.2 = true then (none) else (if bt125.2 = true then ((capnpref01_SameWords.f k bt125.1 (([1, 2] : List Int))).bind fun t132 => (if t132 = true then ((arena_InBounds.f y118 0 2 0).bind fun t133 => (if t133 = true then ((arena_InBounds.f y118 0 2 1).bind fun t134 => (if t134 = true then (none) else ((arena_InBounds.f y118 0 1 9223372036854775807).bind fun t135 => (if t135 = true then (none) else ((arena_InBounds.f y118 0 9223372036854775807 1).bind fun t136 => (if t136 = true then (none) else ((arena_InBounds.f y118 3 0 0).bind fun t137 => (if t137 = true then (none) else ((arena_InBounds.f y118 0 0 (-1)).bind fun t138 => (if t138 = true then (none) else ((arena_Size.f k y118).bind fun t139 => (some (t139 == 3))))))))))))) else (none))) else (none))) else (none))) else (none)) else (none)))))
theorem capnplaw05_awake.mono : ∀ k, LeO (capnplaw05_awake.f k ) (capnplaw05_awake.f (k + 1) ) := by
  intro  k
  unfold capnplaw05_awake.f
  repeat' first
      | (with_reducible exact arena_Size.mono _ _)
      | (with_reducible exact capnpref01_SameWords.mono _ _ _)
      | (with_reducible exact LeO.refl _)
      | (with_reducible exact LeO.none _)
      | (with_reducible refine LeO.ite ?_ ?_)
      | (with_reducible refine LeO.bind ?_ (fun _ => ?_))
      | exact arena_Size.mono _ _
      | exact capnpref01_SameWords.mono _ _ _
      | exact LeO.none _
      | refine LeO.ite ?_ ?_
      | refine LeO.bind ?_ (fun _ => ?_)
set_option maxHeartbeats 8000000 in
set_option maxRecDepth 100000 in
theorem capnplaw05_awake.calls (k : Nat)  (r : Bool) (w : World) (h : capnplaw05_awake.f k  = some r) :
    Calls Try.prog 7 #[] w fun e w' => e = .returned (.bool r) ∧ Below w.heap.size w w' := by
  have HB := Aside0.mk (Below.refl w.heap.size w)
  have H : ((some (([(([1, 2] : List Int)), (([] : List Int)), (([3] : List Int))] : List (List Int)) : List (List Int))).bind fun y118 => ((arena_Word.f y118 0 1).bind fun bt121 => ((arena_Word.f y118 1 0).bind fun bt123 => ((arena_Slice.f y118 0 0 2).bind fun bt125 => (if bt121.1 = 2 then (if bt121.2 = true then (if bt123.2 = true then (none) else (if bt125.2 = true then ((capnpref01_SameWords.f k bt125.1 (([1, 2] : List Int))).bind fun t132 => (if t132 = true then ((arena_InBounds.f y118 0 2 0).bind fun t133 => (if t133 = true then ((arena_InBounds.f y118 0 2 1).bind fun t134 => (if t134 = true then (none) else ((arena_InBounds.f y118 0 1 9223372036854775807).bind fun t135 => (if t135 = true then (none) else ((arena_InBounds.f y118 0 9223372036854775807 1).bind fun t136 => (if t136 = true then (none) else ((arena_InBounds.f y118 3 0 0).bind fun t137 => (if t137 = true then (none) else ((arena_InBounds.f y118 0 0 (-1)).bind fun t138 => (if t138 = true then (none) else ((arena_Size.f k y118).bind fun t139 => (some (t139 == 3))))))))))))) else (none))) else (none))) else (none))) else (none)) else (none)))))) = some r := h
  clear h
  obtain ⟨y109, hy109⟩ : ∃ y_ : List Int, y_ = (([1, 2] : List Int)) := ⟨_, rfl⟩
  replace H : ((some (([y109, (([] : List Int)), (([3] : List Int))] : List (List Int)) : List (List Int))).bind fun y118 => ((arena_Word.f y118 0 1).bind fun bt121 => ((arena_Word.f y118 1 0).bind fun bt123 => ((arena_Slice.f y118 0 0 2).bind fun bt125 => (if bt121.1 = 2 then (if bt121.2 = true then (if bt123.2 = true then (none) else (if bt125.2 = true then ((capnpref01_SameWords.f k bt125.1 (([1, 2] : List Int))).bind fun t132 => (if t132 = true then ((arena_InBounds.f y118 0 2 0).bind fun t133 => (if t133 = true then ((arena_InBounds.f y118 0 2 1).bind fun t134 => (if t134 = true then (none) else ((arena_InBounds.f y118 0 1 9223372036854775807).bind fun t135 => (if t135 = true then (none) else ((arena_InBounds.f y118 0 9223372036854775807 1).bind fun t136 => (if t136 = true then (none) else ((arena_InBounds.f y118 3 0 0).bind fun t137 => (if t137 = true then (none) else ((arena_InBounds.f y118 0 0 (-1)).bind fun t138 => (if t138 = true then (none) else ((arena_Size.f k y118).bind fun t139 => (some (t139 == 3))))))))))))) else (none))) else (none))) else (none))) else (none)) else (none)))))) = some r := by first | (rw [hy109]; with_reducible exact H) | (have H2_ := (Option.bind_some _ _).symm.trans H; rw [hy109]; with_reducible exact H2_) | (have H2_ := (Option.bind_some _ _).symm.trans H; with_reducible exact H2_) | with_reducible exact H | (rw [hy109]; exact H) | exact H
  have Ny109 := Aside0.mk hy109
  clear hy109
  obtain ⟨y112, hy112⟩ : ∃ y_ : List Int, y_ = (([] : List Int)) := ⟨_, rfl⟩
  replace H : ((some (([y109, y112, (([3] : List Int))] : List (List Int)) : List (List Int))).bind fun y118 => ((arena_Word.f y118 0 1).bind fun bt121 => ((arena_Word.f y118 1 0).bind fun bt123 => ((arena_Slice.f y118 0 0 2).bind fun bt125 => (if bt121.1 = 2 then (if bt121.2 = true then (if bt123.2 = true then (none) else (if bt125.2 = true then ((capnpref01_SameWords.f k bt125.1 (([1, 2] : List Int))).bind fun t132 => (if t132 = true then ((arena_InBounds.f y118 0 2 0).bind fun t133 => (if t133 = true then ((arena_InBounds.f y118 0 2 1).bind fun t134 => (if t134 = true then (none) else ((arena_InBounds.f y118 0 1 9223372036854775807).bind fun t135 => (if t135 = true then (none) else ((arena_InBounds.f y118 0 9223372036854775807 1).bind fun t136 => (if t136 = true then (none) else ((arena_InBounds.f y118 3 0 0).bind fun t137 => (if t137 = true then (none) else ((arena_InBounds.f y118 0 0 (-1)).bind fun t138 => (if t138 = true then (none) else ((arena_Size.f k y118).bind fun t139 => (some (t139 == 3))))))))))))) else (none))) else (none))) else (none))) else (none)) else (none)))))) = some r := by first | (rw [hy112]; with_reducible exact H) | (have H2_ := (Option.bind_some _ _).symm.trans H; rw [hy112]; with_reducible exact H2_) | (have H2_ := (Option.bind_some _ _).symm.trans H; with_reducible exact H2_) | with_reducible exact H | (rw [hy112]; exact H) | exact H
  have Ny112 := Aside0.mk hy112
  clear hy112
  obtain ⟨y115, hy115⟩ : ∃ y_ : List Int, y_ = (([3] : List Int)) := ⟨_, rfl⟩
  replace H : ((some (([y109, y112, y115] : List (List Int)) : List (List Int))).bind fun y118 => ((arena_Word.f y118 0 1).bind fun bt121 => ((arena_Word.f y118 1 0).bind fun bt123 => ((arena_Slice.f y118 0 0 2).bind fun bt125 => (if bt121.1 = 2 then (if bt121.2 = true then (if bt123.2 = true then (none) else (if bt125.2 = true then ((capnpref01_SameWords.f k bt125.1 (([1, 2] : List Int))).bind fun t132 => (if t132 = true then ((arena_InBounds.f y118 0 2 0).bind fun t133 => (if t133 = true then ((arena_InBounds.f y118 0 2 1).bind fun t134 => (if t134 = true then (none) else ((arena_InBounds.f y118 0 1 9223372036854775807).bind fun t135 => (if t135 = true then (none) else ((arena_InBounds.f y118 0 9223372036854775807 1).bind fun t136 => (if t136 = true then (none) else ((arena_InBounds.f y118 3 0 0).bind fun t137 => (if t137 = true then (none) else ((arena_InBounds.f y118 0 0 (-1)).bind fun t138 => (if t138 = true then (none) else ((arena_Size.f k y118).bind fun t139 => (some (t139 == 3))))))))))))) else (none))) else (none))) else (none))) else (none)) else (none)))))) = some r := by first | (rw [hy115]; with_reducible exact H) | (have H2_ := (Option.bind_some _ _).symm.trans H; rw [hy115]; with_reducible exact H2_) | (have H2_ := (Option.bind_some _ _).symm.trans H; with_reducible exact H2_) | with_reducible exact H | (rw [hy115]; exact H) | exact H
  have Ny115 := Aside0.mk hy115
  clear hy115
  obtain ⟨y118, hy118⟩ : ∃ y_ : List (List Int), y_ = (([y109, y112, y115] : List (List Int))) := ⟨_, rfl⟩
  replace H : ((arena_Word.f y118 0 1).bind fun bt121 => ((arena_Word.f y118 1 0).bind fun bt123 => ((arena_Slice.f y118 0 0 2).bind fun bt125 => (if bt121.1 = 2 then (if bt121.2 = true then (if bt123.2 = true then (none) else (if bt125.2 = true then ((capnpref01_SameWords.f k bt125.1 (([1, 2] : List Int))).bind fun t132 => (if t132 = true then ((arena_InBounds.f y118 0 2 0).bind fun t133 => (if t133 = true then ((arena_InBounds.f y118 0 2 1).bind fun t134 => (if t134 = true then (none) else ((arena_InBounds.f y118 0 1 9223372036854775807).bind fun t135 => (if t135 = true then (none) else ((arena_InBounds.f y118 0 9223372036854775807 1).bind fun t136 => (if t136 = true then (none) else ((arena_InBounds.f y118 3 0 0).bind fun t137 => (if t137 = true then (none) else ((arena_InBounds.f y118 0 0 (-1)).bind fun t138 => (if t138 = true then (none) else ((arena_Size.f k y118).bind fun t139 => (some (t139 == 3))))))))))))) else (none))) else (none))) else (none))) else (none)) else (none))))) = some r := by first | (rw [hy118]; with_reducible exact H) | (have H2_ := (Option.bind_some _ _).symm.trans H; rw [hy118]; with_reducible exact H2_) | (have H2_ := (Option.bind_some _ _).symm.trans H; with_reducible exact H2_) | with_reducible exact H | (rw [hy118]; exact H) | exact H
  have Ny118 := Aside0.mk hy118
  clear hy118
  replace H := Option.bind_eq_some_iff.mp H
  obtain ⟨⟨t121, t122⟩, A10, H⟩ := H
  replace H : ((arena_Word.f y118 1 0).bind fun bt123 => ((arena_Slice.f y118 0 0 2).bind fun bt125 => (if t121 = 2 then (if t122 = true then (if bt123.2 = true then (none) else (if bt125.2 = true then ((capnpref01_SameWords.f k bt125.1 (([1, 2] : List Int))).bind fun t132 => (if t132 = true then ((arena_InBounds.f y118 0 2 0).bind fun t133 => (if t133 = true then ((arena_InBounds.f y118 0 2 1).bind fun t134 => (if t134 = true then (none) else ((arena_InBounds.f y118 0 1 9223372036854775807).bind fun t135 => (if t135 = true then (none) else ((arena_InBounds.f y118 0 9223372036854775807 1).bind fun t136 => (if t136 = true then (none) else ((arena_InBounds.f y118 3 0 0).bind fun t137 => (if t137 = true then (none) else ((arena_InBounds.f y118 0 0 (-1)).bind fun t138 => (if t138 = true then (none) else ((arena_Size.f k y118).bind fun t139 => (some (t139 == 3))))))))))))) else (none))) else (none))) else (none))) else (none)) else (none)))) = some r := H
  have A1 := Aside0.mk A10
  clear A10
  replace H := Option.bind_eq_some_iff.mp H
  obtain ⟨⟨t123, t124⟩, A20, H⟩ := H
  replace H : ((arena_Slice.f y118 0 0 2).bind fun bt125 => (if t121 = 2 then (if t122 = true then (if t124 = true then (none) else (if bt125.2 = true then ((capnpref01_SameWords.f k bt125.1 (([1, 2] : List Int))).bind fun t132 => (if t132 = true then ((arena_InBounds.f y118 0 2 0).bind fun t133 => (if t133 = true then ((arena_InBounds.f y118 0 2 1).bind fun t134 => (if t134 = true then (none) else ((arena_InBounds.f y118 0 1 9223372036854775807).bind fun t135 => (if t135 = true then (none) else ((arena_InBounds.f y118 0 9223372036854775807 1).bind fun t136 => (if t136 = true then (none) else ((arena_InBounds.f y118 3 0 0).bind fun t137 => (if t137 = true then (none) else ((arena_InBounds.f y118 0 0 (-1)).bind fun t138 => (if t138 = true then (none) else ((arena_Size.f k y118).bind fun t139 => (some (t139 == 3))))))))))))) else (none))) else (none))) else (none))) else (none)) else (none))) = some r := H
  have A2 := Aside0.mk A20
  clear A20
  replace H := Option.bind_eq_some_iff.mp H
  obtain ⟨⟨t125, t126⟩, A30, H⟩ := H
  replace H : (if t121 = 2 then (if t122 = true then (if t124 = true then (none) else (if t126 = true then ((capnpref01_SameWords.f k t125 (([1, 2] : List Int))).bind fun t132 => (if t132 = true then ((arena_InBounds.f y118 0 2 0).bind fun t133 => (if t133 = true then ((arena_InBounds.f y118 0 2 1).bind fun t134 => (if t134 = true then (none) else ((arena_InBounds.f y118 0 1 9223372036854775807).bind fun t135 => (if t135 = true then (none) else ((arena_InBounds.f y118 0 9223372036854775807 1).bind fun t136 => (if t136 = true then (none) else ((arena_InBounds.f y118 3 0 0).bind fun t137 => (if t137 = true then (none) else ((arena_InBounds.f y118 0 0 (-1)).bind fun t138 => (if t138 = true then (none) else ((arena_Size.f k y118).bind fun t139 => (some (t139 == 3))))))))))))) else (none))) else (none))) else (none))) else (none)) else (none)) = some r := H
  have A3 := Aside0.mk A30
  clear A30
  by_cases c4 : t121 = 2
  · rw [if_pos c4] at H
    have c4b0 : (t121 == 2) = true := beq_iff_eq.mpr c4
    have c4b1 : (t121 != 2) = false := bne_eq_false_iff_eq.mpr c4
    clear c4
    by_cases c5 : t122 = true
    · subst c5
      have H1 : (if t124 = true then (none) else (if t126 = true then ((capnpref01_SameWords.f k t125 (([1, 2] : List Int))).bind fun t132 => (if t132 = true then ((arena_InBounds.f y118 0 2 0).bind fun t133 => (if t133 = true then ((arena_InBounds.f y118 0 2 1).bind fun t134 => (if t134 = true then (none) else ((arena_InBounds.f y118 0 1 9223372036854775807).bind fun t135 => (if t135 = true then (none) else ((arena_InBounds.f y118 0 9223372036854775807 1).bind fun t136 => (if t136 = true then (none) else ((arena_InBounds.f y118 3 0 0).bind fun t137 => (if t137 = true then (none) else ((arena_InBounds.f y118 0 0 (-1)).bind fun t138 => (if t138 = true then (none) else ((arena_Size.f k y118).bind fun t139 => (some (t139 == 3))))))))))))) else (none))) else (none))) else (none))) = some r := by rw [if_pos rfl] at H; exact H
      clear H
      have H := H1
      clear H1
      by_cases c6 : t124 = true
      · subst c6
        have H1 : (none) = some r := by rw [if_pos rfl] at H; exact H
        clear H
        have H := H1
        clear H1
        exact absurd H (by simp)
      · replace c6 := Bool.eq_false_iff.mpr c6
        subst c6
        have H1 : (if t126 = true then ((capnpref01_SameWords.f k t125 (([1, 2] : List Int))).bind fun t132 => (if t132 = true then ((arena_InBounds.f y118 0 2 0).bind fun t133 => (if t133 = true then ((arena_InBounds.f y118 0 2 1).bind fun t134 => (if t134 = true then (none) else ((arena_InBounds.f y118 0 1 9223372036854775807).bind fun t135 => (if t135 = true then (none) else ((arena_InBounds.f y118 0 9223372036854775807 1).bind fun t136 => (if t136 = true then (none) else ((arena_InBounds.f y118 3 0 0).bind fun t137 => (if t137 = true then (none) else ((arena_InBounds.f y118 0 0 (-1)).bind fun t138 => (if t138 = true then (none) else ((arena_Size.f k y118).bind fun t139 => (some (t139 == 3))))))))))))) else (none))) else (none))) else (none)) = some r := by rw [if_neg (show ¬ (false = true) by decide)] at H; exact H
        clear H
        have H := H1
        clear H1
        by_cases c7 : t126 = true
        · subst c7
          have H1 : ((capnpref01_SameWords.f k t125 (([1, 2] : List Int))).bind fun t132 => (if t132 = true then ((arena_InBounds.f y118 0 2 0).bind fun t133 => (if t133 = true then ((arena_InBounds.f y118 0 2 1).bind fun t134 => (if t134 = true then (none) else ((arena_InBounds.f y118 0 1 9223372036854775807).bind fun t135 => (if t135 = true then (none) else ((arena_InBounds.f y118 0 9223372036854775807 1).bind fun t136 => (if t136 = true then (none) else ((arena_InBounds.f y118 3 0 0).bind fun t137 => (if t137 = true then (none) else ((arena_InBounds.f y118 0 0 (-1)).bind fun t138 => (if t138 = true then (none) else ((arena_Size.f k y118).bind fun t139 => (some (t139 == 3))))))))))))) else (none))) else (none))) = some r := by rw [if_pos rfl] at H; exact H
          clear H
          have H := H1
          clear H1
          obtain ⟨y129, hy129⟩ : ∃ y_ : List Int, y_ = (([1, 2] : List Int)) := ⟨_, rfl⟩
          replace H : ((capnpref01_SameWords.f k t125 y129).bind fun t132 => (if t132 = true then ((arena_InBounds.f y118 0 2 0).bind fun t133 => (if t133 = true then ((arena_InBounds.f y118 0 2 1).bind fun t134 => (if t134 = true then (none) else ((arena_InBounds.f y118 0 1 9223372036854775807).bind fun t135 => (if t135 = true then (none) else ((arena_InBounds.f y118 0 9223372036854775807 1).bind fun t136 => (if t136 = true then (none) else ((arena_InBounds.f y118 3 0 0).bind fun t137 => (if t137 = true then (none) else ((arena_InBounds.f y118 0 0 (-1)).bind fun t138 => (if t138 = true then (none) else ((arena_Size.f k y118).bind fun t139 => (some (t139 == 3))))))))))))) else (none))) else (none))) = some r := by first | (rw [hy129]; with_reducible exact H) | (have H2_ := (Option.bind_some _ _).symm.trans H; rw [hy129]; with_reducible exact H2_) | (have H2_ := (Option.bind_some _ _).symm.trans H; with_reducible exact H2_) | with_reducible exact H | (rw [hy129]; exact H) | exact H
          have Ny129 := Aside0.mk hy129
          clear hy129
          replace H := Option.bind_eq_some_iff.mp H
          obtain ⟨t132, A80, H⟩ := H
          replace H : (if t132 = true then ((arena_InBounds.f y118 0 2 0).bind fun t133 => (if t133 = true then ((arena_InBounds.f y118 0 2 1).bind fun t134 => (if t134 = true then (none) else ((arena_InBounds.f y118 0 1 9223372036854775807).bind fun t135 => (if t135 = true then (none) else ((arena_InBounds.f y118 0 9223372036854775807 1).bind fun t136 => (if t136 = true then (none) else ((arena_InBounds.f y118 3 0 0).bind fun t137 => (if t137 = true then (none) else ((arena_InBounds.f y118 0 0 (-1)).bind fun t138 => (if t138 = true then (none) else ((arena_Size.f k y118).bind fun t139 => (some (t139 == 3))))))))))))) else (none))) else (none)) = some r := H
          have A8 := Aside0.mk A80
          clear A80
          by_cases c9 : t132 = true
          · subst c9
            have H1 : ((arena_InBounds.f y118 0 2 0).bind fun t133 => (if t133 = true then ((arena_InBounds.f y118 0 2 1).bind fun t134 => (if t134 = true then (none) else ((arena_InBounds.f y118 0 1 9223372036854775807).bind fun t135 => (if t135 = true then (none) else ((arena_InBounds.f y118 0 9223372036854775807 1).bind fun t136 => (if t136 = true then (none) else ((arena_InBounds.f y118 3 0 0).bind fun t137 => (if t137 = true then (none) else ((arena_InBounds.f y118 0 0 (-1)).bind fun t138 => (if t138 = true then (none) else ((arena_Size.f k y118).bind fun t139 => (some (t139 == 3))))))))))))) else (none))) = some r := by rw [if_pos rfl] at H; exact H
            clear H
            have H := H1
            clear H1
            replace H := Option.bind_eq_some_iff.mp H
            obtain ⟨t133, A100, H⟩ := H
            replace H : (if t133 = true then ((arena_InBounds.f y118 0 2 1).bind fun t134 => (if t134 = true then (none) else ((arena_InBounds.f y118 0 1 9223372036854775807).bind fun t135 => (if t135 = true then (none) else ((arena_InBounds.f y118 0 9223372036854775807 1).bind fun t136 => (if t136 = true then (none) else ((arena_InBounds.f y118 3 0 0).bind fun t137 => (if t137 = true then (none) else ((arena_InBounds.f y118 0 0 (-1)).bind fun t138 => (if t138 = true then (none) else ((arena_Size.f k y118).bind fun t139 => (some (t139 == 3))))))))))))) else (none)) = some r := H
            have A10 := Aside0.mk A100
            clear A100
            by_cases c11 : t133 = true
            · subst c11
              have H1 : ((arena_InBounds.f y118 0 2 1).bind fun t134 => (if t134 = true then (none) else ((arena_InBounds.f y118 0 1 9223372036854775807).bind fun t135 => (if t135 = true then (none) else ((arena_InBounds.f y118 0 9223372036854775807 1).bind fun t136 => (if t136 = true then (none) else ((arena_InBounds.f y118 3 0 0).bind fun t137 => (if t137 = true then (none) else ((arena_InBounds.f y118 0 0 (-1)).bind fun t138 => (if t138 = true then (none) else ((arena_Size.f k y118).bind fun t139 => (some (t139 == 3))))))))))))) = some r := by rw [if_pos rfl] at H; exact H
              clear H
              have H := H1
              clear H1
              replace H := Option.bind_eq_some_iff.mp H
              obtain ⟨t134, A120, H⟩ := H
              replace H : (if t134 = true then (none) else ((arena_InBounds.f y118 0 1 9223372036854775807).bind fun t135 => (if t135 = true then (none) else ((arena_InBounds.f y118 0 9223372036854775807 1).bind fun t136 => (if t136 = true then (none) else ((arena_InBounds.f y118 3 0 0).bind fun t137 => (if t137 = true then (none) else ((arena_InBounds.f y118 0 0 (-1)).bind fun t138 => (if t138 = true then (none) else ((arena_Size.f k y118).bind fun t139 => (some (t139 == 3)))))))))))) = some r := H
              have A12 := Aside0.mk A120
              clear A120
              by_cases c13 : t134 = true
              · subst c13
                have H1 : (none) = some r := by rw [if_pos rfl] at H; exact H
                clear H
                have H := H1
                clear H1
                exact absurd H (by simp)
              · replace c13 := Bool.eq_false_iff.mpr c13
                subst c13
                have H1 : ((arena_InBounds.f y118 0 1 9223372036854775807).bind fun t135 => (if t135 = true then (none) else ((arena_InBounds.f y118 0 9223372036854775807 1).bind fun t136 => (if t136 = true then (none) else ((arena_InBounds.f y118 3 0 0).bind fun t137 => (if t137 = true then (none) else ((arena_InBounds.f y118 0 0 (-1)).bind fun t138 => (if t138 = true then (none) else ((arena_Size.f k y118).bind fun t139 => (some (t139 == 3))))))))))) = some r := by rw [if_neg (show ¬ (false = true) by decide)] at H; exact H
                clear H
                have H := H1
                clear H1
                replace H := Option.bind_eq_some_iff.mp H
                obtain ⟨t135, A140, H⟩ := H
                replace H : (if t135 = true then (none) else ((arena_InBounds.f y118 0 9223372036854775807 1).bind fun t136 => (if t136 = true then (none) else ((arena_InBounds.f y118 3 0 0).bind fun t137 => (if t137 = true then (none) else ((arena_InBounds.f y118 0 0 (-1)).bind fun t138 => (if t138 = true then (none) else ((arena_Size.f k y118).bind fun t139 => (some (t139 == 3)))))))))) = some r := H
                have A14 := Aside0.mk A140
                clear A140
                by_cases c15 : t135 = true
                · subst c15
                  have H1 : (none) = some r := by rw [if_pos rfl] at H; exact H
                  clear H
                  have H := H1
                  clear H1
                  exact absurd H (by simp)
                · replace c15 := Bool.eq_false_iff.mpr c15
                  subst c15
                  have H1 : ((arena_InBounds.f y118 0 9223372036854775807 1).bind fun t136 => (if t136 = true then (none) else ((arena_InBounds.f y118 3 0 0).bind fun t137 => (if t137 = true then (none) else ((arena_InBounds.f y118 0 0 (-1)).bind fun t138 => (if t138 = true then (none) else ((arena_Size.f k y118).bind fun t139 => (some (t139 == 3))))))))) = some r := by rw [if_neg (show ¬ (false = true) by decide)] at H; exact H
                  clear H
                  have H := H1
                  clear H1
                  replace H := Option.bind_eq_some_iff.mp H
                  obtain ⟨t136, A160, H⟩ := H
                  replace H : (if t136 = true then (none) else ((arena_InBounds.f y118 3 0 0).bind fun t137 => (if t137 = true then (none) else ((arena_InBounds.f y118 0 0 (-1)).bind fun t138 => (if t138 = true then (none) else ((arena_Size.f k y118).bind fun t139 => (some (t139 == 3)))))))) = some r := H
                  have A16 := Aside0.mk A160
                  clear A160
                  by_cases c17 : t136 = true
                  · subst c17
                    have H1 : (none) = some r := by rw [if_pos rfl] at H; exact H
                    clear H
                    have H := H1
                    clear H1
                    exact absurd H (by simp)
                  · replace c17 := Bool.eq_false_iff.mpr c17
                    subst c17
                    have H1 : ((arena_InBounds.f y118 3 0 0).bind fun t137 => (if t137 = true then (none) else ((arena_InBounds.f y118 0 0 (-1)).bind fun t138 => (if t138 = true then (none) else ((arena_Size.f k y118).bind fun t139 => (some (t139 == 3))))))) = some r := by rw [if_neg (show ¬ (false = true) by decide)] at H; exact H
                    clear H
                    have H := H1
                    clear H1
                    replace H := Option.bind_eq_some_iff.mp H
                    obtain ⟨t137, A180, H⟩ := H
                    replace H : (if t137 = true then (none) else ((arena_InBounds.f y118 0 0 (-1)).bind fun t138 => (if t138 = true then (none) else ((arena_Size.f k y118).bind fun t139 => (some (t139 == 3)))))) = some r := H
                    have A18 := Aside0.mk A180
                    clear A180
                    by_cases c19 : t137 = true
                    · subst c19
                      have H1 : (none) = some r := by rw [if_pos rfl] at H; exact H
                      clear H
                      have H := H1
                      clear H1
                      exact absurd H (by simp)
                    · replace c19 := Bool.eq_false_iff.mpr c19
                      subst c19
                      have H1 : ((arena_InBounds.f y118 0 0 (-1)).bind fun t138 => (if t138 = true then (none) else ((arena_Size.f k y118).bind fun t139 => (some (t139 == 3))))) = some r := by rw [if_neg (show ¬ (false = true) by decide)] at H; exact H
                      clear H
                      have H := H1
                      clear H1
                      replace H := Option.bind_eq_some_iff.mp H
                      obtain ⟨t138, A200, H⟩ := H
                      replace H : (if t138 = true then (none) else ((arena_Size.f k y118).bind fun t139 => (some (t139 == 3)))) = some r := H
                      have A20 := Aside0.mk A200
                      clear A200
                      by_cases c21 : t138 = true
                      · subst c21
                        have H1 : (none) = some r := by rw [if_pos rfl] at H; exact H
                        clear H
                        have H := H1
                        clear H1
                        exact absurd H (by simp)
                      · replace c21 := Bool.eq_false_iff.mpr c21
                        subst c21
                        have H1 : ((arena_Size.f k y118).bind fun t139 => (some (t139 == 3))) = some r := by rw [if_neg (show ¬ (false = true) by decide)] at H; exact H
                        clear H
                        have H := H1
                        clear H1
                        replace H := Option.bind_eq_some_iff.mp H
                        obtain ⟨t139, A220, H⟩ := H
                        replace H : (some (t139 == 3)) = some r := H
                        have A22 := Aside0.mk A220
                        clear A220
                        obtain rfl := Option.some.inj H
                        go_enter Try.func7, Try.ntmps7
                        go_wp2_with (first | ((with_reducible refine gate_dst (N := 8) rfl ?_); (try (refine gate_guard (by rfl) ?_; dsimp only)); refine Kd.R_lit (Kd.int .u64) _ 25 ?hg (N := 8) ?hd (xs := ([1, 2] : List Int)) (inner := [.int .u64 1, .int .u64 2]) (ok := fun _ => True) (okp := fun _ => True) ?hr ?hp (fun _ hk => hk) trivial (Below.refl _ _) (Nat.le_refl _) (by simp) ?_; (case hd => rfl); (case hg => rfl); (case hr => first | (go_simp; done) | (go_simp; rfl)); (case hp => exact (Reps.one (show Kd.M (Kd.int .u64) _ _ _ 1 [.int .u64 1] from rfl) (Reps.one (show Kd.M (Kd.int .u64) _ _ _ 2 [.int .u64 2] from rfl) (Reps.none _ _)))); intro v110 w23 ho24 hb hg_ hnew_; clear hg_ hnew_; (first | rw [← Ny109.out] at ho24 | (simp only [Int.reduceToNat] at ho24; rw [← Ny109.out] at ho24)); have n0_ := Aside0.mk (Kd.R_lower ho24 (below_size (by repeat (first | (with_reducible first | exact HB.out | apply below_alloc | apply pw_below_drewN | apply below_drew1) | exact HB.out)))); have n1_ := Aside0.mk (below_step (by repeat (first | (with_reducible first | exact HB.out | apply below_alloc | apply pw_below_drewN | apply below_drew1) | exact HB.out)) hb); clear HB; have HO111 := n0_; have HB := n1_; clear n0_ n1_; clear hb ho24) | ((with_reducible refine gate_dst (N := 9) rfl ?_); (try (refine gate_guard (by rfl) ?_; dsimp only)); refine Kd.R_lit (Kd.int .u64) _ 25 ?hg (N := 9) ?hd (xs := ([] : List Int)) (inner := []) (ok := fun _ => True) (okp := fun _ => True) ?hr ?hp (fun _ hk => hk) trivial (Below.refl _ _) (Nat.le_refl _) (by simp) ?_; (case hd => rfl); (case hg => rfl); (case hr => first | (go_simp; done) | (go_simp; rfl)); (case hp => exact (Reps.none _ _)); intro v113 w25 ho26 hb hg_ hnew_; clear hg_ hnew_; (first | rw [← Ny112.out] at ho26 | (simp only [Int.reduceToNat] at ho26; rw [← Ny112.out] at ho26)); have n0_ := Aside0.mk (Kd.R_elder' (by (with_reducible repeat (first | apply Kd.R_alloc | apply Kd.R_drewN | apply Kd.R_drew)); exact HO111.out) (Kd.R_base ho26) hb); have n1_ := Aside0.mk (Kd.R_lower (Kd.R_new' ho26 (Kd.R_lt (by (with_reducible repeat (first | apply Kd.R_alloc | apply Kd.R_drewN | apply Kd.R_drew)); exact HO111.out))) (below_size (by repeat (first | (with_reducible first | exact HB.out | apply below_alloc | apply pw_below_drewN | apply below_drew1) | exact HB.out)))); have n2_ := Aside0.mk (below_step (by repeat (first | (with_reducible first | exact HB.out | apply below_alloc | apply pw_below_drewN | apply below_drew1) | exact HB.out)) hb); clear HO111; clear HB; have HO111 := n0_; have HO114 := n1_; have HB := n2_; clear n0_ n1_ n2_; clear hb ho26) | ((with_reducible refine gate_dst (N := 10) rfl ?_); (try (refine gate_guard (by rfl) ?_; dsimp only)); refine Kd.R_lit (Kd.int .u64) _ 25 ?hg (N := 10) ?hd (xs := ([3] : List Int)) (inner := [.int .u64 3]) (ok := fun _ => True) (okp := fun _ => True) ?hr ?hp (fun _ hk => hk) trivial (Below.refl _ _) (Nat.le_refl _) (by simp) ?_; (case hd => rfl); (case hg => rfl); (case hr => first | (go_simp; done) | (go_simp; rfl)); (case hp => exact (Reps.one (show Kd.M (Kd.int .u64) _ _ _ 3 [.int .u64 3] from rfl) (Reps.none _ _))); intro v116 w27 ho28 hb hg_ hnew_; clear hg_ hnew_; (first | rw [← Ny115.out] at ho28 | (simp only [Int.reduceToNat] at ho28; rw [← Ny115.out] at ho28)); have n0_ := Aside0.mk (Kd.R_elder' (by (with_reducible repeat (first | apply Kd.R_alloc | apply Kd.R_drewN | apply Kd.R_drew)); exact HO111.out) (Kd.R_base ho28) hb); have n1_ := Aside0.mk (Kd.R_elder' (by (with_reducible repeat (first | apply Kd.R_alloc | apply Kd.R_drewN | apply Kd.R_drew)); exact HO114.out) (Kd.R_base ho28) hb); have n2_ := Aside0.mk (Kd.R_lower (Kd.R_new' (Kd.R_new' ho28 (Kd.R_lt (by (with_reducible repeat (first | apply Kd.R_alloc | apply Kd.R_drewN | apply Kd.R_drew)); exact HO111.out))) (Kd.R_lt (by (with_reducible repeat (first | apply Kd.R_alloc | apply Kd.R_drewN | apply Kd.R_drew)); exact HO114.out))) (below_size (by repeat (first | (with_reducible first | exact HB.out | apply below_alloc | apply pw_below_drewN | apply below_drew1) | exact HB.out)))); have n3_ := Aside0.mk (below_step (by repeat (first | (with_reducible first | exact HB.out | apply below_alloc | apply pw_below_drewN | apply below_drew1) | exact HB.out)) hb); clear HO111; clear HO114; clear HB; have HO111 := n0_; have HO114 := n1_; have HO117 := n2_; have HB := n3_; clear n0_ n1_ n2_ n3_; clear hb ho28; obtain ⟨Ao29, co29, eo29⟩ := Kd.R_slice HO111.out; subst eo29; obtain ⟨Ao30, co30, eo30⟩ := Kd.R_slice HO114.out; subst eo30; obtain ⟨Ao31, co31, eo31⟩ := Kd.R_slice HO117.out; subst eo31) | ((with_reducible refine gate_dst (N := 11) rfl ?_); (try (refine gate_guard (by rfl) ?_; dsimp only)); refine Kd.N_lit (Kd.slice 25 (Kd.int .u64)) _ 28 ?hg (N' := 11) ?hd (xs := ([y109, y112, y115] : List (List Int))) (inner := [.slice Ao29 y109.length co29, .slice Ao30 y112.length co30, .slice Ao31 y115.length co31]) (ok := (fun _ => True)) (okp := (fun _ => True)) ?hr ?hp (fun _ hk => hk) ((show ∀ k_, w27.heap.size ≤ k_ → (fun _ => True) k_ from fun k_ hk => trivial) _ (Nat.le_refl _)) (Below.refl _ _) (Nat.le_refl _) (by simp) ?_; (case hd => rfl); (case hg => rfl); (case hr => first | (go_simp; done) | (go_simp; rfl)); (case hp => exact (Reps.one (show Kd.FK (Kd.slice 25 (Kd.int .u64)) _ _ y109 [.slice Ao29 y109.length co29] from (Kd.FK_slice_mk (Kd.R_reads' (Kd.R_mono (ok' := (fun _ => True)) (HO111.out) (fun k_ hk => trivial))).2.1 (Kd.R_F (Kd.R_mono (ok' := (fun _ => True)) (HO111.out) (fun k_ hk => trivial))))) (Reps.one (show Kd.FK (Kd.slice 25 (Kd.int .u64)) _ _ y112 [.slice Ao30 y112.length co30] from (Kd.FK_slice_mk (Kd.R_reads' (Kd.R_mono (ok' := (fun _ => True)) (HO114.out) (fun k_ hk => trivial))).2.1 (Kd.R_F (Kd.R_mono (ok' := (fun _ => True)) (HO114.out) (fun k_ hk => trivial))))) (Reps.one (show Kd.FK (Kd.slice 25 (Kd.int .u64)) _ _ y115 [.slice Ao31 y115.length co31] from (Kd.FK_slice_mk (Kd.R_reads' (Kd.R_mono (ok' := (fun _ => True)) (HO117.out) (fun k_ hk => trivial))).2.1 (Kd.R_F (Kd.R_mono (ok' := (fun _ => True)) (HO117.out) (fun k_ hk => trivial))))) (Reps.none _ _))))); intro v119 w32 ho33 hb hg_ hnew_; clear hg_ hnew_; (first | rw [← Ny118.out] at ho33 | (simp only [Int.reduceToNat] at ho33; rw [← Ny118.out] at ho33)); have n0_ := Aside0.mk (Kd.N_lower ho33 (below_size (by repeat (first | (with_reducible first | exact HB.out | apply below_alloc | apply pw_below_drewN | apply below_drew1) | exact HB.out)))); have n1_ := Aside0.mk (below_step (by repeat (first | (with_reducible first | exact HB.out | apply below_alloc | apply pw_below_drewN | apply below_drew1) | exact HB.out)) hb); clear HB; clear HO111; clear HO114; clear HO117; have HO120 := n0_; have HB := n1_; clear n0_ n1_; clear hb ho33; obtain ⟨Ao34, co34, eo34⟩ := Kd.N_slice HO120.out; subst eo34) | ((with_reducible refine gate_callee (f := 9) rfl ?_); refine goesL_ (some 14) rfl rfl Try.func9 (by kernel_rfl) rfl #[.slice Ao34 y118.length co34, .int .i64 0, .int .i64 1] rfl (by (try simp only [List.map_toArray, List.map_cons, List.map_nil]); first | done | rfl | (simp only [List.length_drop, List.length_take]; rfl)) ?_; (with_reducible refine (arena_Word.calls _ _ y118 0 1 t121 true _ ?side1 ?side2 A1.out).mono ?_); (case side1 => repeat (first | exact (Kd.N_reads' HO120.out).2.2 | (with_reducible refine Kd.C_alloc ?_ _) | (with_reducible refine Kd.C_drewN ?_ _) | (with_reducible refine Kd.C_drew ?_))); (case side2 => exact (Kd.N_reads' HO120.out).2.1); rintro e w' ⟨rfl, ⟨nd, rfl⟩⟩; refine ⟨_, rfl, ?_⟩) | ((with_reducible refine gate_callee (f := 9) rfl ?_); refine goesL_ (some 19) rfl rfl Try.func9 (by kernel_rfl) rfl #[.slice Ao34 y118.length co34, .int .i64 1, .int .i64 0] rfl (by (try simp only [List.map_toArray, List.map_cons, List.map_nil]); first | done | rfl | (simp only [List.length_drop, List.length_take]; rfl)) ?_; (with_reducible refine (arena_Word.calls _ _ y118 1 0 t123 false _ ?side1 ?side2 A2.out).mono ?_); (case side1 => repeat (first | exact (Kd.N_reads' HO120.out).2.2 | (with_reducible refine Kd.C_alloc ?_ _) | (with_reducible refine Kd.C_drewN ?_ _) | (with_reducible refine Kd.C_drew ?_))); (case side2 => exact (Kd.N_reads' HO120.out).2.1); rintro e w' ⟨rfl, ⟨nd, rfl⟩⟩; refine ⟨_, rfl, ?_⟩) | ((with_reducible refine gate_callee (f := 11) rfl ?_); refine goesL_ (some 24) rfl rfl Try.func11 (by kernel_rfl) rfl #[.slice Ao34 y118.length co34, .int .i64 0, .int .i64 0, .int .i64 2] rfl (by (try simp only [List.map_toArray, List.map_cons, List.map_nil]); first | done | rfl | (simp only [List.length_drop, List.length_take]; rfl)) ?_; (with_reducible refine (arena_Slice.calls _ _ y118 0 0 2 t125 true _ ?side1 ?side2 A3.out).mono ?_); (case side1 => repeat (first | exact (Kd.N_reads' HO120.out).2.2 | (with_reducible refine Kd.C_alloc ?_ _) | (with_reducible refine Kd.C_drewN ?_ _) | (with_reducible refine Kd.C_drew ?_))); (case side2 => exact (Kd.N_reads' HO120.out).2.1); rintro e w35 ⟨v127, rfl, ho0, hb⟩; refine ⟨_, rfl, ?_⟩; have n0_ := Aside0.mk (Kd.N_elder' (by (with_reducible repeat (first | apply Kd.N_alloc | apply Kd.N_drewN | apply Kd.N_drew)); exact HO120.out) (Kd.R_base ho0) hb); have n1_ := Aside0.mk (Kd.R_lower ho0 (below_size (by repeat (first | (with_reducible first | exact HB.out | apply below_alloc | apply pw_below_drewN | apply below_drew1) | exact HB.out)))); have n2_ := Aside0.mk (below_step (by repeat (first | (with_reducible first | exact HB.out | apply below_alloc | apply pw_below_drewN | apply below_drew1) | exact HB.out)) hb); clear HO120; clear HB; have HO120 := n0_; have HO128 := n1_; have HB := n2_; clear n0_ n1_ n2_; (try clear hb); (try clear hb2); (try clear hk); (try clear hi); (try clear ho0)) | ((with_reducible refine gate_dst (N := 41) rfl ?_); (try (refine gate_guard (by rfl) ?_; dsimp only)); refine Kd.R_lit (Kd.int .u64) _ 25 ?hg (N := 41) ?hd (xs := ([1, 2] : List Int)) (inner := [.int .u64 1, .int .u64 2]) (ok := fun _ => True) (okp := fun _ => True) ?hr ?hp (fun _ hk => hk) trivial (Below.refl _ _) (Nat.le_refl _) (by simp) ?_; (case hd => rfl); (case hg => rfl); (case hr => first | (go_simp; done) | (go_simp; rfl)); (case hp => exact (Reps.one (show Kd.M (Kd.int .u64) _ _ _ 1 [.int .u64 1] from rfl) (Reps.one (show Kd.M (Kd.int .u64) _ _ _ 2 [.int .u64 2] from rfl) (Reps.none _ _)))); intro v130 w36 ho37 hb hg_ hnew_; clear hg_ hnew_; (first | rw [← Ny129.out] at ho37 | (simp only [Int.reduceToNat] at ho37; rw [← Ny129.out] at ho37)); have n0_ := Aside0.mk (Kd.N_elder' (by (with_reducible repeat (first | apply Kd.N_alloc | apply Kd.N_drewN | apply Kd.N_drew)); exact HO120.out) (Kd.R_base ho37) hb); have n1_ := Aside0.mk (Kd.R_elder' (by (with_reducible repeat (first | apply Kd.R_alloc | apply Kd.R_drewN | apply Kd.R_drew)); exact HO128.out) (Kd.R_base ho37) hb); have n2_ := Aside0.mk (Kd.R_lower (Kd.R_new' ho37 (Kd.R_lt (by (with_reducible repeat (first | apply Kd.R_alloc | apply Kd.R_drewN | apply Kd.R_drew)); exact HO128.out))) (below_size (by repeat (first | (with_reducible first | exact HB.out | apply below_alloc | apply pw_below_drewN | apply below_drew1) | exact HB.out)))); have n3_ := Aside0.mk (below_step (by repeat (first | (with_reducible first | exact HB.out | apply below_alloc | apply pw_below_drewN | apply below_drew1) | exact HB.out)) hb); clear HO120; clear HO128; clear HB; have HO120 := n0_; have HO128 := n1_; have HO131 := n2_; have HB := n3_; clear n0_ n1_ n2_ n3_; clear hb ho37; obtain ⟨Ao38, co38, eo38⟩ := Kd.R_slice HO128.out; subst eo38; obtain ⟨Ao39, co39, eo39⟩ := Kd.R_slice HO131.out; subst eo39) | (go_at_call 13; (with_reducible refine (capnpref01_SameWords.calls k _ _ t125 _ _ y129 true _ ?side1 ?side2 ?side3 ?side4 A8.out).mono ?_); (case side1 => repeat (first | exact (Kd.R_reads' HO128.out).2.2 | (with_reducible refine Kd.C_alloc ?_ _) | (with_reducible refine Kd.C_drewN ?_ _) | (with_reducible refine Kd.C_drew ?_))); (case side2 => exact (Kd.R_reads' HO128.out).2.1); (case side3 => repeat (first | exact (Kd.R_reads' HO131.out).2.2 | (with_reducible refine Kd.C_alloc ?_ _) | (with_reducible refine Kd.C_drewN ?_ _) | (with_reducible refine Kd.C_drew ?_))); (case side4 => exact (Kd.R_reads' HO131.out).2.1); rintro e w' ⟨rfl, ⟨nd, rfl⟩⟩) | (go_at_call 14; (with_reducible refine (arena_InBounds.calls _ _ y118 0 2 0 true _ ?side1 ?side2 A10.out).mono ?_); (case side1 => repeat (first | exact (Kd.N_reads' HO120.out).2.2 | (with_reducible refine Kd.C_alloc ?_ _) | (with_reducible refine Kd.C_drewN ?_ _) | (with_reducible refine Kd.C_drew ?_))); (case side2 => exact (Kd.N_reads' HO120.out).2.1); rintro e w' ⟨rfl, ⟨nd, rfl⟩⟩) | (go_at_call 14; (with_reducible refine (arena_InBounds.calls _ _ y118 0 2 1 false _ ?side1 ?side2 A12.out).mono ?_); (case side1 => repeat (first | exact (Kd.N_reads' HO120.out).2.2 | (with_reducible refine Kd.C_alloc ?_ _) | (with_reducible refine Kd.C_drewN ?_ _) | (with_reducible refine Kd.C_drew ?_))); (case side2 => exact (Kd.N_reads' HO120.out).2.1); rintro e w' ⟨rfl, ⟨nd, rfl⟩⟩) | (go_at_call 14; (with_reducible refine (arena_InBounds.calls _ _ y118 0 1 9223372036854775807 false _ ?side1 ?side2 A14.out).mono ?_); (case side1 => repeat (first | exact (Kd.N_reads' HO120.out).2.2 | (with_reducible refine Kd.C_alloc ?_ _) | (with_reducible refine Kd.C_drewN ?_ _) | (with_reducible refine Kd.C_drew ?_))); (case side2 => exact (Kd.N_reads' HO120.out).2.1); rintro e w' ⟨rfl, ⟨nd, rfl⟩⟩) | (go_at_call 14; (with_reducible refine (arena_InBounds.calls _ _ y118 0 9223372036854775807 1 false _ ?side1 ?side2 A16.out).mono ?_); (case side1 => repeat (first | exact (Kd.N_reads' HO120.out).2.2 | (with_reducible refine Kd.C_alloc ?_ _) | (with_reducible refine Kd.C_drewN ?_ _) | (with_reducible refine Kd.C_drew ?_))); (case side2 => exact (Kd.N_reads' HO120.out).2.1); rintro e w' ⟨rfl, ⟨nd, rfl⟩⟩) | (go_at_call 14; (with_reducible refine (arena_InBounds.calls _ _ y118 3 0 0 false _ ?side1 ?side2 A18.out).mono ?_); (case side1 => repeat (first | exact (Kd.N_reads' HO120.out).2.2 | (with_reducible refine Kd.C_alloc ?_ _) | (with_reducible refine Kd.C_drewN ?_ _) | (with_reducible refine Kd.C_drew ?_))); (case side2 => exact (Kd.N_reads' HO120.out).2.1); rintro e w' ⟨rfl, ⟨nd, rfl⟩⟩) | (go_at_call 14; (with_reducible refine (arena_InBounds.calls _ _ y118 0 0 (-1) false _ ?side1 ?side2 A20.out).mono ?_); (case side1 => repeat (first | exact (Kd.N_reads' HO120.out).2.2 | (with_reducible refine Kd.C_alloc ?_ _) | (with_reducible refine Kd.C_drewN ?_ _) | (with_reducible refine Kd.C_drew ?_))); (case side2 => exact (Kd.N_reads' HO120.out).2.1); rintro e w' ⟨rfl, ⟨nd, rfl⟩⟩) | (go_at_call 16; (with_reducible refine (arena_Size.calls k _ _ y118 t139 _ ?side1 ?side2 A22.out).mono ?_); (case side1 => repeat (first | exact (Kd.N_reads' HO120.out).2.2 | (with_reducible refine Kd.C_alloc ?_ _) | (with_reducible refine Kd.C_drewN ?_ _) | (with_reducible refine Kd.C_drew ?_))); (case side2 => exact (Kd.N_reads' HO120.out).2.1); rintro e w' ⟨rfl, ⟨nd, rfl⟩⟩))
                        go_ret
                        exact ⟨by first | rfl | (simp [errW_none, errW_some] <;> rfl) | (simp [*, errW_none, errW_some] <;> rfl), by repeat (first | (with_reducible first | exact HB.out | apply below_alloc | apply pw_below_drewN | apply below_drew1) | exact HB.out)⟩
            · replace c11 := Bool.eq_false_iff.mpr c11
              subst c11
              have H1 : (none) = some r := by rw [if_neg (show ¬ (false = true) by decide)] at H; exact H
              clear H
              have H := H1
              clear H1
              exact absurd H (by simp)
          · replace c9 := Bool.eq_false_iff.mpr c9
            subst c9
            have H1 : (none) = some r := by rw [if_neg (show ¬ (false = true) by decide)] at H; exact H
            clear H
            have H := H1
            clear H1
            exact absurd H (by simp)
        · replace c7 := Bool.eq_false_iff.mpr c7
          subst c7
          have H1 : (none) = some r := by rw [if_neg (show ¬ (false = true) by decide)] at H; exact H
          clear H
          have H := H1
          clear H1
          exact absurd H (by simp)
    · replace c5 := Bool.eq_false_iff.mpr c5
      subst c5
      have H1 : (none) = some r := by rw [if_neg (show ¬ (false = true) by decide)] at H; exact H
      clear H
      have H := H1
      clear H1
      exact absurd H (by simp)
  · rw [if_neg c4] at H
    exact absurd H (by simp)

end Go.Proofs.Ytlkcmpamjheldaa.P
