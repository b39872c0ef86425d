/- The texts of this session that come first, joined by wip/merge.py. -/
import Derived.Test.YtkiompgbmjoflaaDoorBN1
import Derived.Test.YtkiompgbmjoflaaDoorBN2
import Derived.Deep.RegionWith
import Derived.Test.YtkiompgbmjoflaaDoorWMore
import Derived.Test.YtkiompgbmjoflaaDoorProg
import Derived.ProofKit
import Derived.OpenShut
import Derived.LaidMore
import Derived.Stop.Joined
import Derived.Deep.Slices
import Derived.Test.YtkiompgbmjoflaaDoorRows
import Derived.Maps.OwnSet
import Derived.Maps.Keyed
import Derived.LaidSub
import Derived.Lib.LaidTab
namespace Go.Proofs.YtkiompgbmjoflaaDoor.P
open Go.RowKit Go.Proofs.YtkiompgbmjoflaaDoorW.PrintWords Go.Proofs.YtkiompgbmjoflaaDoorW.PrintLast Go.Proofs.YtkiompgbmjoflaaDoorW.PrintMore
attribute [local go_sem] max2_int min2_int max_two min_two max_three min_three max_four min_four   -- for this text's walks alone
set_option linter.unusedVariables false
set_option linter.unusedSimpArgs false

variable {gb : Bool}
/-! ### capnplaw13_awake: function 8 -/
def capnplaw13_awake.f : Option Bool := some true
set_option maxHeartbeats 1600000 in
set_option maxRecDepth 100000 in
theorem capnplaw13_awake.calls (r : Bool) (w : World) (hG : Glob true w) (h : capnplaw13_awake.f = some r) :
    Calls Tryd.prog 8 #[] w fun e w' => e = .returned (.bool r) ∧ Below w.heap.size w w' := by
  obtain rfl := Option.some.inj h
  have HG := Aside0.mk hG
  have HB := Aside0.mk (Below.refl w.heap.size w)
  clear hG
  clear h
  go_enter Tryd.func8, Tryd.ntmps8
  go_wp2_with ((with_reducible refine gate_dst (N := 5) rfl ?_); refine Kd.R_make (Kd.int .u8) w.heap.size 5 rfl (N := 5) rfl 22 _ _ rfl 9 rfl rfl Tryd.underlying22 (.int .u8 0) 1 info5 rfl (by decide) (by omega) 0 (ok := fun _ => True) (okp := fun _ => False) rfl (fun _ hk => hk.elim) trivial (by omega) (by omega) (Below.refl _ _) (Nat.le_refl _) ?_)
  intro v1 w1 hR hb1 _ _ _ _
  obtain ⟨A9, c9, rfl, hc9, hC9⟩ := Kd.Q_reads (Kd.Q_of_R hR)
  have hc9' : 9 ≤ c9 := hc9
  have HC_b := Aside0.mk (show Kd.C (Kd.int .u8) w1 A9 9 [0, 0, 0, 0, 0, 0, 0, 0, 0] from hC9)
  have HB1 := Aside0.mk hb1
  clear hR hC9 hc9
  have nB := Aside0.mk (below_step (by with_reducible repeat (first | exact HB.out | apply below_alloc | apply pw_below_drewN | apply below_drew1)) hb1)
  clear HB 
  have HB := nB
  clear nB
  clear hb1
  go_wp2_with fail
  have hb7 : Below w1.heap.size w1 (((((((w1.alloc (.cells #[.int .i64 2, .int .i64 2, .int .i64 9, .slice A9 9 c9, .slice none 0 0] 25)).alloc (.cells #[.int .u8 1, .int .u8 0, .int .u8 0, .int .u8 0, .int .u8 0, .int .u8 0, .int .u8 0, .int .u8 0] 5)).alloc (.cells #[.int .i64 2, .int .i64 2, .int .i64 9, .slice A9 9 c9, .slice none 0 0] 25)).alloc (.cells #[.int .i64 1, .int .i64 0, .int .i64 0, .slice (some ⟨w1.heap.size + 1, 0, none⟩) 8 8, .slice (some ⟨w1.heap.size + 1 + 1, 0, none⟩) 1 1] 25)).alloc (.cells #[.int .i64 1, .int .i64 0, .int .i64 0, .slice (some ⟨w1.heap.size + 1, 0, none⟩) 8 8, .slice (some ⟨w1.heap.size + 1 + 1, 0, none⟩) 1 1, .int .i64 1, .int .i64 0, .int .i64 0, .slice none 0 0, .slice none 0 0] 25)).alloc (.cells #[.int .i64 2, .int .i64 7, .int .i64 2, .slice none 0 0, .slice (some ⟨w1.heap.size + 1 + 1 + 1 + 1, 0, none⟩) 2 2] 25)).alloc (.cells #[.int .i64 2, .int .i64 0, .int .i64 1048576, .slice none 0 0, .slice none 0 0] 25)) := by repeat (first | exact Below.refl _ _ | apply below_alloc)
  have e0 : (((((((w1.alloc (.cells #[.int .i64 2, .int .i64 2, .int .i64 9, .slice A9 9 c9, .slice none 0 0] 25)).alloc (.cells #[.int .u8 1, .int .u8 0, .int .u8 0, .int .u8 0, .int .u8 0, .int .u8 0, .int .u8 0, .int .u8 0] 5)).alloc (.cells #[.int .i64 2, .int .i64 2, .int .i64 9, .slice A9 9 c9, .slice none 0 0] 25)).alloc (.cells #[.int .i64 1, .int .i64 0, .int .i64 0, .slice (some ⟨w1.heap.size + 1, 0, none⟩) 8 8, .slice (some ⟨w1.heap.size + 1 + 1, 0, none⟩) 1 1] 25)).alloc (.cells #[.int .i64 1, .int .i64 0, .int .i64 0, .slice (some ⟨w1.heap.size + 1, 0, none⟩) 8 8, .slice (some ⟨w1.heap.size + 1 + 1, 0, none⟩) 1 1, .int .i64 1, .int .i64 0, .int .i64 0, .slice none 0 0, .slice none 0 0] 25)).alloc (.cells #[.int .i64 2, .int .i64 7, .int .i64 2, .slice none 0 0, .slice (some ⟨w1.heap.size + 1 + 1 + 1 + 1, 0, none⟩) 2 2] 25)).alloc (.cells #[.int .i64 2, .int .i64 0, .int .i64 1048576, .slice none 0 0, .slice none 0 0] 25)).heap[w1.heap.size]? = some (.cells #[.int .i64 2, .int .i64 2, .int .i64 9, .slice A9 9 c9, .slice none 0 0] 25 (0, 0)) := (by repeat (first | (apply blk_newN; first | rfl | (simp; done)) | apply blk_alloc))
  have e1 : (((((((w1.alloc (.cells #[.int .i64 2, .int .i64 2, .int .i64 9, .slice A9 9 c9, .slice none 0 0] 25)).alloc (.cells #[.int .u8 1, .int .u8 0, .int .u8 0, .int .u8 0, .int .u8 0, .int .u8 0, .int .u8 0, .int .u8 0] 5)).alloc (.cells #[.int .i64 2, .int .i64 2, .int .i64 9, .slice A9 9 c9, .slice none 0 0] 25)).alloc (.cells #[.int .i64 1, .int .i64 0, .int .i64 0, .slice (some ⟨w1.heap.size + 1, 0, none⟩) 8 8, .slice (some ⟨w1.heap.size + 1 + 1, 0, none⟩) 1 1] 25)).alloc (.cells #[.int .i64 1, .int .i64 0, .int .i64 0, .slice (some ⟨w1.heap.size + 1, 0, none⟩) 8 8, .slice (some ⟨w1.heap.size + 1 + 1, 0, none⟩) 1 1, .int .i64 1, .int .i64 0, .int .i64 0, .slice none 0 0, .slice none 0 0] 25)).alloc (.cells #[.int .i64 2, .int .i64 7, .int .i64 2, .slice none 0 0, .slice (some ⟨w1.heap.size + 1 + 1 + 1 + 1, 0, none⟩) 2 2] 25)).alloc (.cells #[.int .i64 2, .int .i64 0, .int .i64 1048576, .slice none 0 0, .slice none 0 0] 25)).heap[w1.heap.size + 1]? = some (.cells #[.int .u8 1, .int .u8 0, .int .u8 0, .int .u8 0, .int .u8 0, .int .u8 0, .int .u8 0, .int .u8 0] 5 (0, 0)) := (by repeat (first | (apply blk_newN; first | rfl | (simp; done)) | apply blk_alloc))
  have e2 : (((((((w1.alloc (.cells #[.int .i64 2, .int .i64 2, .int .i64 9, .slice A9 9 c9, .slice none 0 0] 25)).alloc (.cells #[.int .u8 1, .int .u8 0, .int .u8 0, .int .u8 0, .int .u8 0, .int .u8 0, .int .u8 0, .int .u8 0] 5)).alloc (.cells #[.int .i64 2, .int .i64 2, .int .i64 9, .slice A9 9 c9, .slice none 0 0] 25)).alloc (.cells #[.int .i64 1, .int .i64 0, .int .i64 0, .slice (some ⟨w1.heap.size + 1, 0, none⟩) 8 8, .slice (some ⟨w1.heap.size + 1 + 1, 0, none⟩) 1 1] 25)).alloc (.cells #[.int .i64 1, .int .i64 0, .int .i64 0, .slice (some ⟨w1.heap.size + 1, 0, none⟩) 8 8, .slice (some ⟨w1.heap.size + 1 + 1, 0, none⟩) 1 1, .int .i64 1, .int .i64 0, .int .i64 0, .slice none 0 0, .slice none 0 0] 25)).alloc (.cells #[.int .i64 2, .int .i64 7, .int .i64 2, .slice none 0 0, .slice (some ⟨w1.heap.size + 1 + 1 + 1 + 1, 0, none⟩) 2 2] 25)).alloc (.cells #[.int .i64 2, .int .i64 0, .int .i64 1048576, .slice none 0 0, .slice none 0 0] 25)).heap[w1.heap.size + 1 + 1]? = some (.cells #[.int .i64 2, .int .i64 2, .int .i64 9, .slice A9 9 c9, .slice none 0 0] 25 (0, 0)) := (by repeat (first | (apply blk_newN; first | rfl | (simp; done)) | apply blk_alloc))
  have e3 : (((((((w1.alloc (.cells #[.int .i64 2, .int .i64 2, .int .i64 9, .slice A9 9 c9, .slice none 0 0] 25)).alloc (.cells #[.int .u8 1, .int .u8 0, .int .u8 0, .int .u8 0, .int .u8 0, .int .u8 0, .int .u8 0, .int .u8 0] 5)).alloc (.cells #[.int .i64 2, .int .i64 2, .int .i64 9, .slice A9 9 c9, .slice none 0 0] 25)).alloc (.cells #[.int .i64 1, .int .i64 0, .int .i64 0, .slice (some ⟨w1.heap.size + 1, 0, none⟩) 8 8, .slice (some ⟨w1.heap.size + 1 + 1, 0, none⟩) 1 1] 25)).alloc (.cells #[.int .i64 1, .int .i64 0, .int .i64 0, .slice (some ⟨w1.heap.size + 1, 0, none⟩) 8 8, .slice (some ⟨w1.heap.size + 1 + 1, 0, none⟩) 1 1, .int .i64 1, .int .i64 0, .int .i64 0, .slice none 0 0, .slice none 0 0] 25)).alloc (.cells #[.int .i64 2, .int .i64 7, .int .i64 2, .slice none 0 0, .slice (some ⟨w1.heap.size + 1 + 1 + 1 + 1, 0, none⟩) 2 2] 25)).alloc (.cells #[.int .i64 2, .int .i64 0, .int .i64 1048576, .slice none 0 0, .slice none 0 0] 25)).heap[w1.heap.size + 1 + 1 + 1]? = some (.cells #[.int .i64 1, .int .i64 0, .int .i64 0, .slice (some ⟨w1.heap.size + 1, 0, none⟩) 8 8, .slice (some ⟨w1.heap.size + 1 + 1, 0, none⟩) 1 1] 25 (0, 0)) := (by repeat (first | (apply blk_newN; first | rfl | (simp; done)) | apply blk_alloc))
  have e4 : (((((((w1.alloc (.cells #[.int .i64 2, .int .i64 2, .int .i64 9, .slice A9 9 c9, .slice none 0 0] 25)).alloc (.cells #[.int .u8 1, .int .u8 0, .int .u8 0, .int .u8 0, .int .u8 0, .int .u8 0, .int .u8 0, .int .u8 0] 5)).alloc (.cells #[.int .i64 2, .int .i64 2, .int .i64 9, .slice A9 9 c9, .slice none 0 0] 25)).alloc (.cells #[.int .i64 1, .int .i64 0, .int .i64 0, .slice (some ⟨w1.heap.size + 1, 0, none⟩) 8 8, .slice (some ⟨w1.heap.size + 1 + 1, 0, none⟩) 1 1] 25)).alloc (.cells #[.int .i64 1, .int .i64 0, .int .i64 0, .slice (some ⟨w1.heap.size + 1, 0, none⟩) 8 8, .slice (some ⟨w1.heap.size + 1 + 1, 0, none⟩) 1 1, .int .i64 1, .int .i64 0, .int .i64 0, .slice none 0 0, .slice none 0 0] 25)).alloc (.cells #[.int .i64 2, .int .i64 7, .int .i64 2, .slice none 0 0, .slice (some ⟨w1.heap.size + 1 + 1 + 1 + 1, 0, none⟩) 2 2] 25)).alloc (.cells #[.int .i64 2, .int .i64 0, .int .i64 1048576, .slice none 0 0, .slice none 0 0] 25)).heap[w1.heap.size + 1 + 1 + 1 + 1]? = some (.cells #[.int .i64 1, .int .i64 0, .int .i64 0, .slice (some ⟨w1.heap.size + 1, 0, none⟩) 8 8, .slice (some ⟨w1.heap.size + 1 + 1, 0, none⟩) 1 1, .int .i64 1, .int .i64 0, .int .i64 0, .slice none 0 0, .slice none 0 0] 25 (0, 0)) := (by repeat (first | (apply blk_newN; first | rfl | (simp; done)) | apply blk_alloc))
  have e5 : (((((((w1.alloc (.cells #[.int .i64 2, .int .i64 2, .int .i64 9, .slice A9 9 c9, .slice none 0 0] 25)).alloc (.cells #[.int .u8 1, .int .u8 0, .int .u8 0, .int .u8 0, .int .u8 0, .int .u8 0, .int .u8 0, .int .u8 0] 5)).alloc (.cells #[.int .i64 2, .int .i64 2, .int .i64 9, .slice A9 9 c9, .slice none 0 0] 25)).alloc (.cells #[.int .i64 1, .int .i64 0, .int .i64 0, .slice (some ⟨w1.heap.size + 1, 0, none⟩) 8 8, .slice (some ⟨w1.heap.size + 1 + 1, 0, none⟩) 1 1] 25)).alloc (.cells #[.int .i64 1, .int .i64 0, .int .i64 0, .slice (some ⟨w1.heap.size + 1, 0, none⟩) 8 8, .slice (some ⟨w1.heap.size + 1 + 1, 0, none⟩) 1 1, .int .i64 1, .int .i64 0, .int .i64 0, .slice none 0 0, .slice none 0 0] 25)).alloc (.cells #[.int .i64 2, .int .i64 7, .int .i64 2, .slice none 0 0, .slice (some ⟨w1.heap.size + 1 + 1 + 1 + 1, 0, none⟩) 2 2] 25)).alloc (.cells #[.int .i64 2, .int .i64 0, .int .i64 1048576, .slice none 0 0, .slice none 0 0] 25)).heap[w1.heap.size + 1 + 1 + 1 + 1 + 1]? = some (.cells #[.int .i64 2, .int .i64 7, .int .i64 2, .slice none 0 0, .slice (some ⟨w1.heap.size + 1 + 1 + 1 + 1, 0, none⟩) 2 2] 25 (0, 0)) := (by repeat (first | (apply blk_newN; first | rfl | (simp; done)) | apply blk_alloc))
  have e6 : (((((((w1.alloc (.cells #[.int .i64 2, .int .i64 2, .int .i64 9, .slice A9 9 c9, .slice none 0 0] 25)).alloc (.cells #[.int .u8 1, .int .u8 0, .int .u8 0, .int .u8 0, .int .u8 0, .int .u8 0, .int .u8 0, .int .u8 0] 5)).alloc (.cells #[.int .i64 2, .int .i64 2, .int .i64 9, .slice A9 9 c9, .slice none 0 0] 25)).alloc (.cells #[.int .i64 1, .int .i64 0, .int .i64 0, .slice (some ⟨w1.heap.size + 1, 0, none⟩) 8 8, .slice (some ⟨w1.heap.size + 1 + 1, 0, none⟩) 1 1] 25)).alloc (.cells #[.int .i64 1, .int .i64 0, .int .i64 0, .slice (some ⟨w1.heap.size + 1, 0, none⟩) 8 8, .slice (some ⟨w1.heap.size + 1 + 1, 0, none⟩) 1 1, .int .i64 1, .int .i64 0, .int .i64 0, .slice none 0 0, .slice none 0 0] 25)).alloc (.cells #[.int .i64 2, .int .i64 7, .int .i64 2, .slice none 0 0, .slice (some ⟨w1.heap.size + 1 + 1 + 1 + 1, 0, none⟩) 2 2] 25)).alloc (.cells #[.int .i64 2, .int .i64 0, .int .i64 1048576, .slice none 0 0, .slice none 0 0] 25)).heap[w1.heap.size + 1 + 1 + 1 + 1 + 1 + 1]? = some (.cells #[.int .i64 2, .int .i64 0, .int .i64 1048576, .slice none 0 0, .slice none 0 0] 25 (0, 0)) := (by repeat (first | (apply blk_newN; first | rfl | (simp; done)) | apply blk_alloc))
  generalize (((((((w1.alloc (.cells #[.int .i64 2, .int .i64 2, .int .i64 9, .slice A9 9 c9, .slice none 0 0] 25)).alloc (.cells #[.int .u8 1, .int .u8 0, .int .u8 0, .int .u8 0, .int .u8 0, .int .u8 0, .int .u8 0, .int .u8 0] 5)).alloc (.cells #[.int .i64 2, .int .i64 2, .int .i64 9, .slice A9 9 c9, .slice none 0 0] 25)).alloc (.cells #[.int .i64 1, .int .i64 0, .int .i64 0, .slice (some ⟨w1.heap.size + 1, 0, none⟩) 8 8, .slice (some ⟨w1.heap.size + 1 + 1, 0, none⟩) 1 1] 25)).alloc (.cells #[.int .i64 1, .int .i64 0, .int .i64 0, .slice (some ⟨w1.heap.size + 1, 0, none⟩) 8 8, .slice (some ⟨w1.heap.size + 1 + 1, 0, none⟩) 1 1, .int .i64 1, .int .i64 0, .int .i64 0, .slice none 0 0, .slice none 0 0] 25)).alloc (.cells #[.int .i64 2, .int .i64 7, .int .i64 2, .slice none 0 0, .slice (some ⟨w1.heap.size + 1 + 1 + 1 + 1, 0, none⟩) 2 2] 25)).alloc (.cells #[.int .i64 2, .int .i64 0, .int .i64 1048576, .slice none 0 0, .slice none 0 0] 25)) = W7 at hb7 e0 e1 e2 e3 e4 e5 e6 ⊢
  have kb := Kd.C_below HC_b.out hb7
  have k1 := C_ints (k := .u8) (l := [1, 0, 0, 0, 0, 0, 0, 0]) e1 rfl rfl (by decide)
  have k2 : Kd.C k25 W7 _ 1 [⟨2, 2, 9, [0, 0, 0, 0, 0, 0, 0, 0, 0], []⟩] := C_blk e2 (Reps.c5 (k25_mk W7 ⟨2, 2, 9, [0, 0, 0, 0, 0, 0, 0, 0, 0], []⟩ (by exact hc9') kb (Nat.le_refl 0) (C_nil _ _ none)) (Reps.none _ _)) rfl (by decide)
  have k4 : Kd.C k25 W7 _ 2 [⟨1, 0, 0, [1, 0, 0, 0, 0, 0, 0, 0], [⟨2, 2, 9, [0, 0, 0, 0, 0, 0, 0, 0, 0], []⟩]⟩, ⟨1, 0, 0, [], []⟩] := C_blk e4 (Reps.c5 (k25_mk W7 ⟨1, 0, 0, [1, 0, 0, 0, 0, 0, 0, 0], [⟨2, 2, 9, [0, 0, 0, 0, 0, 0, 0, 0, 0], []⟩]⟩ (Nat.le_refl 8) k1 (Nat.le_refl 1) k2) (Reps.c5 (k25_mk W7 ⟨1, 0, 0, [], []⟩ (Nat.le_refl 0) (C_nil _ _ none) (Nat.le_refl 0) (C_nil _ _ none)) (Reps.none _ _))) rfl (by decide)
  have HX_s := Aside0.mk e3
  have HX_c := Aside0.mk e5
  have HX_v := Aside0.mk e6
  have HX_p := Aside0.mk e0
  have HC_k1 := Aside0.mk k1
  have HC_k2 := Aside0.mk k2
  have HC_k4 := Aside0.mk k4
  have HC_b := Aside0.mk kb
  have cs_s : ∀ i, W7.cell? ⟨w1.heap.size + 1 + 1 + 1, i, none⟩ = _ := fun i => blk_cell HX_s.out i
  have H9 : Aside0 (9 ≤ c9) := ⟨hc9'⟩
  have HW1 := HB1.out.size
  have nB := Aside0.mk (below_step (by with_reducible repeat (first | exact HB.out | apply below_alloc | apply pw_below_drewN | apply below_drew1)) hb7)
  clear HB 
  have HB := nB
  clear nB
  clear hb7 e0 e1 e2 e3 e4 e5 e6 k1 k2 k4 kb cs_s HB1 hc9'
  have GE_s : Aside0 (w.heap.size ≤ w1.heap.size + 1 + 1 + 1) := ⟨by have := HB.out.size; first | exact this | omega⟩
  have GE_c : Aside0 (w.heap.size ≤ w1.heap.size + 1 + 1 + 1 + 1 + 1) := ⟨by have := HB.out.size; first | exact this | omega⟩
  have GE_v : Aside0 (w.heap.size ≤ w1.heap.size + 1 + 1 + 1 + 1 + 1 + 1) := ⟨by have := HB.out.size; first | exact this | omega⟩
  have GE_p : Aside0 (w.heap.size ≤ w1.heap.size) := ⟨by have := HB.out.size; first | exact this | omega⟩
  refine (canonsize_Object.calls 30 1 0 0 _ 8 [1, 0, 0, 0, 0, 0, 0, 0] _ 1 [⟨2, 2, 9, [0, 0, 0, 0, 0, 0, 0, 0, 0], []⟩] 2 _ (HG.out.below (by with_reducible repeat (first | exact HB.out | apply below_alloc | apply pw_below_drewN | apply below_drew1 | refine below_set ?_ GE_s.out | refine below_set ?_ GE_c.out | refine below_set ?_ GE_v.out | refine below_set ?_ GE_p.out))) (by repeat (first | (with_reducible first | exact HC_k1.out | apply C_alloc | apply C_drewN | apply C_drew) | exact HC_k1.out)) (Nat.le_refl 8) (by repeat (first | (with_reducible first | exact HC_k2.out | apply C_alloc | apply C_drewN | apply C_drew) | exact HC_k2.out)) (Nat.le_refl 1) (by kernel_rfl)).mono ?_
  rintro e w8 ⟨rfl, hb⟩
  have nB := Aside0.mk (below_step (by with_reducible repeat (first | exact HB.out | apply below_alloc | apply pw_below_drewN | apply below_drew1 | refine below_set ?_ GE_s.out | refine below_set ?_ GE_c.out | refine below_set ?_ GE_v.out | refine below_set ?_ GE_p.out)) hb)
  have nX_s := Aside0.mk (blk_below (g := w1.heap.size + 1 + 1 + 1) (by with_reducible repeat (first | exact HX_s.out | (apply blk_newN; first | rfl | (simp; done)) | apply blk_alloc | apply blk_drewN | apply blk_drew | apply blk_far (hp := NE_s_c.out) | apply blk_far (hp := NE_s_v.out) | apply blk_far (hp := NE_s_p.out))) hb)
  have nX_c := Aside0.mk (blk_below (g := w1.heap.size + 1 + 1 + 1 + 1 + 1) (by with_reducible repeat (first | exact HX_c.out | (apply blk_newN; first | rfl | (simp; done)) | apply blk_alloc | apply blk_drewN | apply blk_drew | apply blk_far (hp := NE_c_s.out) | apply blk_far (hp := NE_c_v.out) | apply blk_far (hp := NE_c_p.out))) hb)
  have nX_v := Aside0.mk (blk_below (g := w1.heap.size + 1 + 1 + 1 + 1 + 1 + 1) (by with_reducible repeat (first | exact HX_v.out | (apply blk_newN; first | rfl | (simp; done)) | apply blk_alloc | apply blk_drewN | apply blk_drew | apply blk_far (hp := NE_v_s.out) | apply blk_far (hp := NE_v_c.out) | apply blk_far (hp := NE_v_p.out))) hb)
  have nX_p := Aside0.mk (blk_below (g := w1.heap.size) (by with_reducible repeat (first | exact HX_p.out | (apply blk_newN; first | rfl | (simp; done)) | apply blk_alloc | apply blk_drewN | apply blk_drew | apply blk_far (hp := NE_p_s.out) | apply blk_far (hp := NE_p_c.out) | apply blk_far (hp := NE_p_v.out))) hb)
  have nC_k1 := Aside0.mk (Kd.C_below (by repeat (first | (with_reducible first | exact HC_k1.out | apply C_alloc | apply C_drewN | apply C_drew) | exact HC_k1.out)) hb)
  have nC_k2 := Aside0.mk (Kd.C_below (by repeat (first | (with_reducible first | exact HC_k2.out | apply C_alloc | apply C_drewN | apply C_drew) | exact HC_k2.out)) hb)
  have nC_k4 := Aside0.mk (Kd.C_below (by repeat (first | (with_reducible first | exact HC_k4.out | apply C_alloc | apply C_drewN | apply C_drew) | exact HC_k4.out)) hb)
  have nC_b := Aside0.mk (Kd.C_below (by repeat (first | (with_reducible first | exact HC_b.out | apply C_alloc | apply C_drewN | apply C_drew) | exact HC_b.out)) hb)
  clear HB HC_k1 HC_k2 HC_k4 HC_b 
  have HB := nB
  clear nB
  have HC_k1 := nC_k1
  clear nC_k1
  have HC_k2 := nC_k2
  clear nC_k2
  have HC_k4 := nC_k4
  clear nC_k4
  have HC_b := nC_b
  clear nC_b
  have HX_s := nX_s
  clear nX_s
  have cs_s : ∀ i, w8.cell? ⟨w1.heap.size + 1 + 1 + 1, i, none⟩ = _ := fun i => blk_cell HX_s.out i
  have fr_s : ∀ i, w8.frozen? ⟨w1.heap.size + 1 + 1 + 1, i, none⟩ = false := fun i => blk_frozen HX_s.out i
  have lt_s := lt_of_block HX_s.out
  have HX_c := nX_c
  clear nX_c
  have cs_c : ∀ i, w8.cell? ⟨w1.heap.size + 1 + 1 + 1 + 1 + 1, i, none⟩ = _ := fun i => blk_cell HX_c.out i
  have fr_c : ∀ i, w8.frozen? ⟨w1.heap.size + 1 + 1 + 1 + 1 + 1, i, none⟩ = false := fun i => blk_frozen HX_c.out i
  have lt_c := lt_of_block HX_c.out
  have HX_v := nX_v
  clear nX_v
  have cs_v : ∀ i, w8.cell? ⟨w1.heap.size + 1 + 1 + 1 + 1 + 1 + 1, i, none⟩ = _ := fun i => blk_cell HX_v.out i
  have fr_v : ∀ i, w8.frozen? ⟨w1.heap.size + 1 + 1 + 1 + 1 + 1 + 1, i, none⟩ = false := fun i => blk_frozen HX_v.out i
  have lt_v := lt_of_block HX_v.out
  have HX_p := nX_p
  clear nX_p
  have cs_p : ∀ i, w8.cell? ⟨w1.heap.size, i, none⟩ = _ := fun i => blk_cell HX_p.out i
  have fr_p : ∀ i, w8.frozen? ⟨w1.heap.size, i, none⟩ = false := fun i => blk_frozen HX_p.out i
  have lt_p := lt_of_block HX_p.out
  clear hb
  go_wp2_with fail
  refine (canonsize_Node.calls 30 1 0 0 _ 8 [1, 0, 0, 0, 0, 0, 0, 0] _ 1 [⟨2, 2, 9, [0, 0, 0, 0, 0, 0, 0, 0, 0], []⟩] 4 _ (HG.out.below (by with_reducible repeat (first | exact HB.out | apply below_alloc | apply pw_below_drewN | apply below_drew1 | refine below_set ?_ GE_s.out | refine below_set ?_ GE_c.out | refine below_set ?_ GE_v.out | refine below_set ?_ GE_p.out))) (by repeat (first | (with_reducible first | exact HC_k1.out | apply C_alloc | apply C_drewN | apply C_drew) | exact HC_k1.out)) (Nat.le_refl 8) (by repeat (first | (with_reducible first | exact HC_k2.out | apply C_alloc | apply C_drewN | apply C_drew) | exact HC_k2.out)) (Nat.le_refl 1) (by kernel_rfl)).mono ?_
  rintro e w9 ⟨rfl, hb⟩
  have nB := Aside0.mk (below_step (by with_reducible repeat (first | exact HB.out | apply below_alloc | apply pw_below_drewN | apply below_drew1 | refine below_set ?_ GE_s.out | refine below_set ?_ GE_c.out | refine below_set ?_ GE_v.out | refine below_set ?_ GE_p.out)) hb)
  have nX_s := Aside0.mk (blk_below (g := w1.heap.size + 1 + 1 + 1) (by with_reducible repeat (first | exact HX_s.out | (apply blk_newN; first | rfl | (simp; done)) | apply blk_alloc | apply blk_drewN | apply blk_drew | apply blk_far (hp := NE_s_c.out) | apply blk_far (hp := NE_s_v.out) | apply blk_far (hp := NE_s_p.out))) hb)
  have nX_c := Aside0.mk (blk_below (g := w1.heap.size + 1 + 1 + 1 + 1 + 1) (by with_reducible repeat (first | exact HX_c.out | (apply blk_newN; first | rfl | (simp; done)) | apply blk_alloc | apply blk_drewN | apply blk_drew | apply blk_far (hp := NE_c_s.out) | apply blk_far (hp := NE_c_v.out) | apply blk_far (hp := NE_c_p.out))) hb)
  have nX_v := Aside0.mk (blk_below (g := w1.heap.size + 1 + 1 + 1 + 1 + 1 + 1) (by with_reducible repeat (first | exact HX_v.out | (apply blk_newN; first | rfl | (simp; done)) | apply blk_alloc | apply blk_drewN | apply blk_drew | apply blk_far (hp := NE_v_s.out) | apply blk_far (hp := NE_v_c.out) | apply blk_far (hp := NE_v_p.out))) hb)
  have nX_p := Aside0.mk (blk_below (g := w1.heap.size) (by with_reducible repeat (first | exact HX_p.out | (apply blk_newN; first | rfl | (simp; done)) | apply blk_alloc | apply blk_drewN | apply blk_drew | apply blk_far (hp := NE_p_s.out) | apply blk_far (hp := NE_p_c.out) | apply blk_far (hp := NE_p_v.out))) hb)
  have nC_k1 := Aside0.mk (Kd.C_below (by repeat (first | (with_reducible first | exact HC_k1.out | apply C_alloc | apply C_drewN | apply C_drew) | exact HC_k1.out)) hb)
  have nC_k2 := Aside0.mk (Kd.C_below (by repeat (first | (with_reducible first | exact HC_k2.out | apply C_alloc | apply C_drewN | apply C_drew) | exact HC_k2.out)) hb)
  have nC_k4 := Aside0.mk (Kd.C_below (by repeat (first | (with_reducible first | exact HC_k4.out | apply C_alloc | apply C_drewN | apply C_drew) | exact HC_k4.out)) hb)
  have nC_b := Aside0.mk (Kd.C_below (by repeat (first | (with_reducible first | exact HC_b.out | apply C_alloc | apply C_drewN | apply C_drew) | exact HC_b.out)) hb)
  clear HB HC_k1 HC_k2 HC_k4 HC_b HX_s cs_s fr_s lt_s HX_c cs_c fr_c lt_c HX_v cs_v fr_v lt_v HX_p cs_p fr_p lt_p
  have HB := nB
  clear nB
  have HC_k1 := nC_k1
  clear nC_k1
  have HC_k2 := nC_k2
  clear nC_k2
  have HC_k4 := nC_k4
  clear nC_k4
  have HC_b := nC_b
  clear nC_b
  have HX_s := nX_s
  clear nX_s
  have cs_s : ∀ i, w9.cell? ⟨w1.heap.size + 1 + 1 + 1, i, none⟩ = _ := fun i => blk_cell HX_s.out i
  have fr_s : ∀ i, w9.frozen? ⟨w1.heap.size + 1 + 1 + 1, i, none⟩ = false := fun i => blk_frozen HX_s.out i
  have lt_s := lt_of_block HX_s.out
  have HX_c := nX_c
  clear nX_c
  have cs_c : ∀ i, w9.cell? ⟨w1.heap.size + 1 + 1 + 1 + 1 + 1, i, none⟩ = _ := fun i => blk_cell HX_c.out i
  have fr_c : ∀ i, w9.frozen? ⟨w1.heap.size + 1 + 1 + 1 + 1 + 1, i, none⟩ = false := fun i => blk_frozen HX_c.out i
  have lt_c := lt_of_block HX_c.out
  have HX_v := nX_v
  clear nX_v
  have cs_v : ∀ i, w9.cell? ⟨w1.heap.size + 1 + 1 + 1 + 1 + 1 + 1, i, none⟩ = _ := fun i => blk_cell HX_v.out i
  have fr_v : ∀ i, w9.frozen? ⟨w1.heap.size + 1 + 1 + 1 + 1 + 1 + 1, i, none⟩ = false := fun i => blk_frozen HX_v.out i
  have lt_v := lt_of_block HX_v.out
  have HX_p := nX_p
  clear nX_p
  have cs_p : ∀ i, w9.cell? ⟨w1.heap.size, i, none⟩ = _ := fun i => blk_cell HX_p.out i
  have fr_p : ∀ i, w9.frozen? ⟨w1.heap.size, i, none⟩ = false := fun i => blk_frozen HX_p.out i
  have lt_p := lt_of_block HX_p.out
  clear hb
  go_wp2_with fail
  refine (canonsize_Total.calls 30 1 0 0 _ 8 [1, 0, 0, 0, 0, 0, 0, 0] _ 1 [⟨2, 2, 9, [0, 0, 0, 0, 0, 0, 0, 0, 0], []⟩] 5 _ (HG.out.below (by with_reducible repeat (first | exact HB.out | apply below_alloc | apply pw_below_drewN | apply below_drew1 | refine below_set ?_ GE_s.out | refine below_set ?_ GE_c.out | refine below_set ?_ GE_v.out | refine below_set ?_ GE_p.out))) (by repeat (first | (with_reducible first | exact HC_k1.out | apply C_alloc | apply C_drewN | apply C_drew) | exact HC_k1.out)) (Nat.le_refl 8) (by repeat (first | (with_reducible first | exact HC_k2.out | apply C_alloc | apply C_drewN | apply C_drew) | exact HC_k2.out)) (Nat.le_refl 1) (by kernel_rfl)).mono ?_
  rintro e w10 ⟨rfl, hb⟩
  have nB := Aside0.mk (below_step (by with_reducible repeat (first | exact HB.out | apply below_alloc | apply pw_below_drewN | apply below_drew1 | refine below_set ?_ GE_s.out | refine below_set ?_ GE_c.out | refine below_set ?_ GE_v.out | refine below_set ?_ GE_p.out)) hb)
  have nX_s := Aside0.mk (blk_below (g := w1.heap.size + 1 + 1 + 1) (by with_reducible repeat (first | exact HX_s.out | (apply blk_newN; first | rfl | (simp; done)) | apply blk_alloc | apply blk_drewN | apply blk_drew | apply blk_far (hp := NE_s_c.out) | apply blk_far (hp := NE_s_v.out) | apply blk_far (hp := NE_s_p.out))) hb)
  have nX_c := Aside0.mk (blk_below (g := w1.heap.size + 1 + 1 + 1 + 1 + 1) (by with_reducible repeat (first | exact HX_c.out | (apply blk_newN; first | rfl | (simp; done)) | apply blk_alloc | apply blk_drewN | apply blk_drew | apply blk_far (hp := NE_c_s.out) | apply blk_far (hp := NE_c_v.out) | apply blk_far (hp := NE_c_p.out))) hb)
  have nX_v := Aside0.mk (blk_below (g := w1.heap.size + 1 + 1 + 1 + 1 + 1 + 1) (by with_reducible repeat (first | exact HX_v.out | (apply blk_newN; first | rfl | (simp; done)) | apply blk_alloc | apply blk_drewN | apply blk_drew | apply blk_far (hp := NE_v_s.out) | apply blk_far (hp := NE_v_c.out) | apply blk_far (hp := NE_v_p.out))) hb)
  have nX_p := Aside0.mk (blk_below (g := w1.heap.size) (by with_reducible repeat (first | exact HX_p.out | (apply blk_newN; first | rfl | (simp; done)) | apply blk_alloc | apply blk_drewN | apply blk_drew | apply blk_far (hp := NE_p_s.out) | apply blk_far (hp := NE_p_c.out) | apply blk_far (hp := NE_p_v.out))) hb)
  have nC_k1 := Aside0.mk (Kd.C_below (by repeat (first | (with_reducible first | exact HC_k1.out | apply C_alloc | apply C_drewN | apply C_drew) | exact HC_k1.out)) hb)
  have nC_k2 := Aside0.mk (Kd.C_below (by repeat (first | (with_reducible first | exact HC_k2.out | apply C_alloc | apply C_drewN | apply C_drew) | exact HC_k2.out)) hb)
  have nC_k4 := Aside0.mk (Kd.C_below (by repeat (first | (with_reducible first | exact HC_k4.out | apply C_alloc | apply C_drewN | apply C_drew) | exact HC_k4.out)) hb)
  have nC_b := Aside0.mk (Kd.C_below (by repeat (first | (with_reducible first | exact HC_b.out | apply C_alloc | apply C_drewN | apply C_drew) | exact HC_b.out)) hb)
  clear HB HC_k1 HC_k2 HC_k4 HC_b HX_s cs_s fr_s lt_s HX_c cs_c fr_c lt_c HX_v cs_v fr_v lt_v HX_p cs_p fr_p lt_p
  have HB := nB
  clear nB
  have HC_k1 := nC_k1
  clear nC_k1
  have HC_k2 := nC_k2
  clear nC_k2
  have HC_k4 := nC_k4
  clear nC_k4
  have HC_b := nC_b
  clear nC_b
  have HX_s := nX_s
  clear nX_s
  have cs_s : ∀ i, w10.cell? ⟨w1.heap.size + 1 + 1 + 1, i, none⟩ = _ := fun i => blk_cell HX_s.out i
  have fr_s : ∀ i, w10.frozen? ⟨w1.heap.size + 1 + 1 + 1, i, none⟩ = false := fun i => blk_frozen HX_s.out i
  have lt_s := lt_of_block HX_s.out
  have HX_c := nX_c
  clear nX_c
  have cs_c : ∀ i, w10.cell? ⟨w1.heap.size + 1 + 1 + 1 + 1 + 1, i, none⟩ = _ := fun i => blk_cell HX_c.out i
  have fr_c : ∀ i, w10.frozen? ⟨w1.heap.size + 1 + 1 + 1 + 1 + 1, i, none⟩ = false := fun i => blk_frozen HX_c.out i
  have lt_c := lt_of_block HX_c.out
  have HX_v := nX_v
  clear nX_v
  have cs_v : ∀ i, w10.cell? ⟨w1.heap.size + 1 + 1 + 1 + 1 + 1 + 1, i, none⟩ = _ := fun i => blk_cell HX_v.out i
  have fr_v : ∀ i, w10.frozen? ⟨w1.heap.size + 1 + 1 + 1 + 1 + 1 + 1, i, none⟩ = false := fun i => blk_frozen HX_v.out i
  have lt_v := lt_of_block HX_v.out
  have HX_p := nX_p
  clear nX_p
  have cs_p : ∀ i, w10.cell? ⟨w1.heap.size, i, none⟩ = _ := fun i => blk_cell HX_p.out i
  have fr_p : ∀ i, w10.frozen? ⟨w1.heap.size, i, none⟩ = false := fun i => blk_frozen HX_p.out i
  have lt_p := lt_of_block HX_p.out
  clear hb
  go_wp2_with fail
  refine (canonsize_Object.calls 30 2 7 2 none 0 [] _ 2 [⟨1, 0, 0, [1, 0, 0, 0, 0, 0, 0, 0], [⟨2, 2, 9, [0, 0, 0, 0, 0, 0, 0, 0, 0], []⟩]⟩, ⟨1, 0, 0, [], []⟩] 5 _ (HG.out.below (by with_reducible repeat (first | exact HB.out | apply below_alloc | apply pw_below_drewN | apply below_drew1 | refine below_set ?_ GE_s.out | refine below_set ?_ GE_c.out | refine below_set ?_ GE_v.out | refine below_set ?_ GE_p.out))) (C_nil _ _ none) (Nat.le_refl 0) (by repeat (first | (with_reducible first | exact HC_k4.out | apply C_alloc | apply C_drewN | apply C_drew) | exact HC_k4.out)) (Nat.le_refl 2) (by kernel_rfl)).mono ?_
  rintro e w11 ⟨rfl, hb⟩
  have nB := Aside0.mk (below_step (by with_reducible repeat (first | exact HB.out | apply below_alloc | apply pw_below_drewN | apply below_drew1 | refine below_set ?_ GE_s.out | refine below_set ?_ GE_c.out | refine below_set ?_ GE_v.out | refine below_set ?_ GE_p.out)) hb)
  have nX_s := Aside0.mk (blk_below (g := w1.heap.size + 1 + 1 + 1) (by with_reducible repeat (first | exact HX_s.out | (apply blk_newN; first | rfl | (simp; done)) | apply blk_alloc | apply blk_drewN | apply blk_drew | apply blk_far (hp := NE_s_c.out) | apply blk_far (hp := NE_s_v.out) | apply blk_far (hp := NE_s_p.out))) hb)
  have nX_c := Aside0.mk (blk_below (g := w1.heap.size + 1 + 1 + 1 + 1 + 1) (by with_reducible repeat (first | exact HX_c.out | (apply blk_newN; first | rfl | (simp; done)) | apply blk_alloc | apply blk_drewN | apply blk_drew | apply blk_far (hp := NE_c_s.out) | apply blk_far (hp := NE_c_v.out) | apply blk_far (hp := NE_c_p.out))) hb)
  have nX_v := Aside0.mk (blk_below (g := w1.heap.size + 1 + 1 + 1 + 1 + 1 + 1) (by with_reducible repeat (first | exact HX_v.out | (apply blk_newN; first | rfl | (simp; done)) | apply blk_alloc | apply blk_drewN | apply blk_drew | apply blk_far (hp := NE_v_s.out) | apply blk_far (hp := NE_v_c.out) | apply blk_far (hp := NE_v_p.out))) hb)
  have nX_p := Aside0.mk (blk_below (g := w1.heap.size) (by with_reducible repeat (first | exact HX_p.out | (apply blk_newN; first | rfl | (simp; done)) | apply blk_alloc | apply blk_drewN | apply blk_drew | apply blk_far (hp := NE_p_s.out) | apply blk_far (hp := NE_p_c.out) | apply blk_far (hp := NE_p_v.out))) hb)
  have nC_k1 := Aside0.mk (Kd.C_below (by repeat (first | (with_reducible first | exact HC_k1.out | apply C_alloc | apply C_drewN | apply C_drew) | exact HC_k1.out)) hb)
  have nC_k2 := Aside0.mk (Kd.C_below (by repeat (first | (with_reducible first | exact HC_k2.out | apply C_alloc | apply C_drewN | apply C_drew) | exact HC_k2.out)) hb)
  have nC_k4 := Aside0.mk (Kd.C_below (by repeat (first | (with_reducible first | exact HC_k4.out | apply C_alloc | apply C_drewN | apply C_drew) | exact HC_k4.out)) hb)
  have nC_b := Aside0.mk (Kd.C_below (by repeat (first | (with_reducible first | exact HC_b.out | apply C_alloc | apply C_drewN | apply C_drew) | exact HC_b.out)) hb)
  clear HB HC_k1 HC_k2 HC_k4 HC_b HX_s cs_s fr_s lt_s HX_c cs_c fr_c lt_c HX_v cs_v fr_v lt_v HX_p cs_p fr_p lt_p
  have HB := nB
  clear nB
  have HC_k1 := nC_k1
  clear nC_k1
  have HC_k2 := nC_k2
  clear nC_k2
  have HC_k4 := nC_k4
  clear nC_k4
  have HC_b := nC_b
  clear nC_b
  have HX_s := nX_s
  clear nX_s
  have cs_s : ∀ i, w11.cell? ⟨w1.heap.size + 1 + 1 + 1, i, none⟩ = _ := fun i => blk_cell HX_s.out i
  have fr_s : ∀ i, w11.frozen? ⟨w1.heap.size + 1 + 1 + 1, i, none⟩ = false := fun i => blk_frozen HX_s.out i
  have lt_s := lt_of_block HX_s.out
  have HX_c := nX_c
  clear nX_c
  have cs_c : ∀ i, w11.cell? ⟨w1.heap.size + 1 + 1 + 1 + 1 + 1, i, none⟩ = _ := fun i => blk_cell HX_c.out i
  have fr_c : ∀ i, w11.frozen? ⟨w1.heap.size + 1 + 1 + 1 + 1 + 1, i, none⟩ = false := fun i => blk_frozen HX_c.out i
  have lt_c := lt_of_block HX_c.out
  have HX_v := nX_v
  clear nX_v
  have cs_v : ∀ i, w11.cell? ⟨w1.heap.size + 1 + 1 + 1 + 1 + 1 + 1, i, none⟩ = _ := fun i => blk_cell HX_v.out i
  have fr_v : ∀ i, w11.frozen? ⟨w1.heap.size + 1 + 1 + 1 + 1 + 1 + 1, i, none⟩ = false := fun i => blk_frozen HX_v.out i
  have lt_v := lt_of_block HX_v.out
  have HX_p := nX_p
  clear nX_p
  have cs_p : ∀ i, w11.cell? ⟨w1.heap.size, i, none⟩ = _ := fun i => blk_cell HX_p.out i
  have fr_p : ∀ i, w11.frozen? ⟨w1.heap.size, i, none⟩ = false := fun i => blk_frozen HX_p.out i
  have lt_p := lt_of_block HX_p.out
  clear hb
  go_wp2_with fail
  refine (canonsize_Node.calls 30 2 7 2 none 0 [] _ 2 [⟨1, 0, 0, [1, 0, 0, 0, 0, 0, 0, 0], [⟨2, 2, 9, [0, 0, 0, 0, 0, 0, 0, 0, 0], []⟩]⟩, ⟨1, 0, 0, [], []⟩] 7 _ (HG.out.below (by with_reducible repeat (first | exact HB.out | apply below_alloc | apply pw_below_drewN | apply below_drew1 | refine below_set ?_ GE_s.out | refine below_set ?_ GE_c.out | refine below_set ?_ GE_v.out | refine below_set ?_ GE_p.out))) (C_nil _ _ none) (Nat.le_refl 0) (by repeat (first | (with_reducible first | exact HC_k4.out | apply C_alloc | apply C_drewN | apply C_drew) | exact HC_k4.out)) (Nat.le_refl 2) (by kernel_rfl)).mono ?_
  rintro e w12 ⟨rfl, hb⟩
  have nB := Aside0.mk (below_step (by with_reducible repeat (first | exact HB.out | apply below_alloc | apply pw_below_drewN | apply below_drew1 | refine below_set ?_ GE_s.out | refine below_set ?_ GE_c.out | refine below_set ?_ GE_v.out | refine below_set ?_ GE_p.out)) hb)
  have nX_s := Aside0.mk (blk_below (g := w1.heap.size + 1 + 1 + 1) (by with_reducible repeat (first | exact HX_s.out | (apply blk_newN; first | rfl | (simp; done)) | apply blk_alloc | apply blk_drewN | apply blk_drew | apply blk_far (hp := NE_s_c.out) | apply blk_far (hp := NE_s_v.out) | apply blk_far (hp := NE_s_p.out))) hb)
  have nX_c := Aside0.mk (blk_below (g := w1.heap.size + 1 + 1 + 1 + 1 + 1) (by with_reducible repeat (first | exact HX_c.out | (apply blk_newN; first | rfl | (simp; done)) | apply blk_alloc | apply blk_drewN | apply blk_drew | apply blk_far (hp := NE_c_s.out) | apply blk_far (hp := NE_c_v.out) | apply blk_far (hp := NE_c_p.out))) hb)
  have nX_v := Aside0.mk (blk_below (g := w1.heap.size + 1 + 1 + 1 + 1 + 1 + 1) (by with_reducible repeat (first | exact HX_v.out | (apply blk_newN; first | rfl | (simp; done)) | apply blk_alloc | apply blk_drewN | apply blk_drew | apply blk_far (hp := NE_v_s.out) | apply blk_far (hp := NE_v_c.out) | apply blk_far (hp := NE_v_p.out))) hb)
  have nX_p := Aside0.mk (blk_below (g := w1.heap.size) (by with_reducible repeat (first | exact HX_p.out | (apply blk_newN; first | rfl | (simp; done)) | apply blk_alloc | apply blk_drewN | apply blk_drew | apply blk_far (hp := NE_p_s.out) | apply blk_far (hp := NE_p_c.out) | apply blk_far (hp := NE_p_v.out))) hb)
  have nC_k1 := Aside0.mk (Kd.C_below (by repeat (first | (with_reducible first | exact HC_k1.out | apply C_alloc | apply C_drewN | apply C_drew) | exact HC_k1.out)) hb)
  have nC_k2 := Aside0.mk (Kd.C_below (by repeat (first | (with_reducible first | exact HC_k2.out | apply C_alloc | apply C_drewN | apply C_drew) | exact HC_k2.out)) hb)
  have nC_k4 := Aside0.mk (Kd.C_below (by repeat (first | (with_reducible first | exact HC_k4.out | apply C_alloc | apply C_drewN | apply C_drew) | exact HC_k4.out)) hb)
  have nC_b := Aside0.mk (Kd.C_below (by repeat (first | (with_reducible first | exact HC_b.out | apply C_alloc | apply C_drewN | apply C_drew) | exact HC_b.out)) hb)
  clear HB HC_k1 HC_k2 HC_k4 HC_b HX_s cs_s fr_s lt_s HX_c cs_c fr_c lt_c HX_v cs_v fr_v lt_v HX_p cs_p fr_p lt_p
  have HB := nB
  clear nB
  have HC_k1 := nC_k1
  clear nC_k1
  have HC_k2 := nC_k2
  clear nC_k2
  have HC_k4 := nC_k4
  clear nC_k4
  have HC_b := nC_b
  clear nC_b
  have HX_s := nX_s
  clear nX_s
  have cs_s : ∀ i, w12.cell? ⟨w1.heap.size + 1 + 1 + 1, i, none⟩ = _ := fun i => blk_cell HX_s.out i
  have fr_s : ∀ i, w12.frozen? ⟨w1.heap.size + 1 + 1 + 1, i, none⟩ = false := fun i => blk_frozen HX_s.out i
  have lt_s := lt_of_block HX_s.out
  have HX_c := nX_c
  clear nX_c
  have cs_c : ∀ i, w12.cell? ⟨w1.heap.size + 1 + 1 + 1 + 1 + 1, i, none⟩ = _ := fun i => blk_cell HX_c.out i
  have fr_c : ∀ i, w12.frozen? ⟨w1.heap.size + 1 + 1 + 1 + 1 + 1, i, none⟩ = false := fun i => blk_frozen HX_c.out i
  have lt_c := lt_of_block HX_c.out
  have HX_v := nX_v
  clear nX_v
  have cs_v : ∀ i, w12.cell? ⟨w1.heap.size + 1 + 1 + 1 + 1 + 1 + 1, i, none⟩ = _ := fun i => blk_cell HX_v.out i
  have fr_v : ∀ i, w12.frozen? ⟨w1.heap.size + 1 + 1 + 1 + 1 + 1 + 1, i, none⟩ = false := fun i => blk_frozen HX_v.out i
  have lt_v := lt_of_block HX_v.out
  have HX_p := nX_p
  clear nX_p
  have cs_p : ∀ i, w12.cell? ⟨w1.heap.size, i, none⟩ = _ := fun i => blk_cell HX_p.out i
  have fr_p : ∀ i, w12.frozen? ⟨w1.heap.size, i, none⟩ = false := fun i => blk_frozen HX_p.out i
  have lt_p := lt_of_block HX_p.out
  clear hb
  go_wp2_with fail
  refine (canonsize_Node.calls 30 0 0 0 none 0 [] none 0 [] 0 _ (HG.out.below (by with_reducible repeat (first | exact HB.out | apply below_alloc | apply pw_below_drewN | apply below_drew1 | refine below_set ?_ GE_s.out | refine below_set ?_ GE_c.out | refine below_set ?_ GE_v.out | refine below_set ?_ GE_p.out))) (C_nil _ _ none) (Nat.le_refl 0) (C_nil _ _ none) (Nat.le_refl 0) (by kernel_rfl)).mono ?_
  rintro e w13 ⟨rfl, hb⟩
  have nB := Aside0.mk (below_step (by with_reducible repeat (first | exact HB.out | apply below_alloc | apply pw_below_drewN | apply below_drew1 | refine below_set ?_ GE_s.out | refine below_set ?_ GE_c.out | refine below_set ?_ GE_v.out | refine below_set ?_ GE_p.out)) hb)
  have nX_s := Aside0.mk (blk_below (g := w1.heap.size + 1 + 1 + 1) (by with_reducible repeat (first | exact HX_s.out | (apply blk_newN; first | rfl | (simp; done)) | apply blk_alloc | apply blk_drewN | apply blk_drew | apply blk_far (hp := NE_s_c.out) | apply blk_far (hp := NE_s_v.out) | apply blk_far (hp := NE_s_p.out))) hb)
  have nX_c := Aside0.mk (blk_below (g := w1.heap.size + 1 + 1 + 1 + 1 + 1) (by with_reducible repeat (first | exact HX_c.out | (apply blk_newN; first | rfl | (simp; done)) | apply blk_alloc | apply blk_drewN | apply blk_drew | apply blk_far (hp := NE_c_s.out) | apply blk_far (hp := NE_c_v.out) | apply blk_far (hp := NE_c_p.out))) hb)
  have nX_v := Aside0.mk (blk_below (g := w1.heap.size + 1 + 1 + 1 + 1 + 1 + 1) (by with_reducible repeat (first | exact HX_v.out | (apply blk_newN; first | rfl | (simp; done)) | apply blk_alloc | apply blk_drewN | apply blk_drew | apply blk_far (hp := NE_v_s.out) | apply blk_far (hp := NE_v_c.out) | apply blk_far (hp := NE_v_p.out))) hb)
  have nX_p := Aside0.mk (blk_below (g := w1.heap.size) (by with_reducible repeat (first | exact HX_p.out | (apply blk_newN; first | rfl | (simp; done)) | apply blk_alloc | apply blk_drewN | apply blk_drew | apply blk_far (hp := NE_p_s.out) | apply blk_far (hp := NE_p_c.out) | apply blk_far (hp := NE_p_v.out))) hb)
  have nC_k1 := Aside0.mk (Kd.C_below (by repeat (first | (with_reducible first | exact HC_k1.out | apply C_alloc | apply C_drewN | apply C_drew) | exact HC_k1.out)) hb)
  have nC_k2 := Aside0.mk (Kd.C_below (by repeat (first | (with_reducible first | exact HC_k2.out | apply C_alloc | apply C_drewN | apply C_drew) | exact HC_k2.out)) hb)
  have nC_k4 := Aside0.mk (Kd.C_below (by repeat (first | (with_reducible first | exact HC_k4.out | apply C_alloc | apply C_drewN | apply C_drew) | exact HC_k4.out)) hb)
  have nC_b := Aside0.mk (Kd.C_below (by repeat (first | (with_reducible first | exact HC_b.out | apply C_alloc | apply C_drewN | apply C_drew) | exact HC_b.out)) hb)
  clear HB HC_k1 HC_k2 HC_k4 HC_b HX_s cs_s fr_s lt_s HX_c cs_c fr_c lt_c HX_v cs_v fr_v lt_v HX_p cs_p fr_p lt_p
  have HB := nB
  clear nB
  have HC_k1 := nC_k1
  clear nC_k1
  have HC_k2 := nC_k2
  clear nC_k2
  have HC_k4 := nC_k4
  clear nC_k4
  have HC_b := nC_b
  clear nC_b
  have HX_s := nX_s
  clear nX_s
  have cs_s : ∀ i, w13.cell? ⟨w1.heap.size + 1 + 1 + 1, i, none⟩ = _ := fun i => blk_cell HX_s.out i
  have fr_s : ∀ i, w13.frozen? ⟨w1.heap.size + 1 + 1 + 1, i, none⟩ = false := fun i => blk_frozen HX_s.out i
  have lt_s := lt_of_block HX_s.out
  have HX_c := nX_c
  clear nX_c
  have cs_c : ∀ i, w13.cell? ⟨w1.heap.size + 1 + 1 + 1 + 1 + 1, i, none⟩ = _ := fun i => blk_cell HX_c.out i
  have fr_c : ∀ i, w13.frozen? ⟨w1.heap.size + 1 + 1 + 1 + 1 + 1, i, none⟩ = false := fun i => blk_frozen HX_c.out i
  have lt_c := lt_of_block HX_c.out
  have HX_v := nX_v
  clear nX_v
  have cs_v : ∀ i, w13.cell? ⟨w1.heap.size + 1 + 1 + 1 + 1 + 1 + 1, i, none⟩ = _ := fun i => blk_cell HX_v.out i
  have fr_v : ∀ i, w13.frozen? ⟨w1.heap.size + 1 + 1 + 1 + 1 + 1 + 1, i, none⟩ = false := fun i => blk_frozen HX_v.out i
  have lt_v := lt_of_block HX_v.out
  have HX_p := nX_p
  clear nX_p
  have cs_p : ∀ i, w13.cell? ⟨w1.heap.size, i, none⟩ = _ := fun i => blk_cell HX_p.out i
  have fr_p : ∀ i, w13.frozen? ⟨w1.heap.size, i, none⟩ = false := fun i => blk_frozen HX_p.out i
  have lt_p := lt_of_block HX_p.out
  clear hb
  go_wp2_with fail
  refine (canonsize_Total.calls 30 2 0 1048576 none 0 [] none 0 [] 1 _ (HG.out.below (by with_reducible repeat (first | exact HB.out | apply below_alloc | apply pw_below_drewN | apply below_drew1 | refine below_set ?_ GE_s.out | refine below_set ?_ GE_c.out | refine below_set ?_ GE_v.out | refine below_set ?_ GE_p.out))) (C_nil _ _ none) (Nat.le_refl 0) (C_nil _ _ none) (Nat.le_refl 0) (by kernel_rfl)).mono ?_
  rintro e w14 ⟨rfl, hb⟩
  have nB := Aside0.mk (below_step (by with_reducible repeat (first | exact HB.out | apply below_alloc | apply pw_below_drewN | apply below_drew1 | refine below_set ?_ GE_s.out | refine below_set ?_ GE_c.out | refine below_set ?_ GE_v.out | refine below_set ?_ GE_p.out)) hb)
  have nX_s := Aside0.mk (blk_below (g := w1.heap.size + 1 + 1 + 1) (by with_reducible repeat (first | exact HX_s.out | (apply blk_newN; first | rfl | (simp; done)) | apply blk_alloc | apply blk_drewN | apply blk_drew | apply blk_far (hp := NE_s_c.out) | apply blk_far (hp := NE_s_v.out) | apply blk_far (hp := NE_s_p.out))) hb)
  have nX_c := Aside0.mk (blk_below (g := w1.heap.size + 1 + 1 + 1 + 1 + 1) (by with_reducible repeat (first | exact HX_c.out | (apply blk_newN; first | rfl | (simp; done)) | apply blk_alloc | apply blk_drewN | apply blk_drew | apply blk_far (hp := NE_c_s.out) | apply blk_far (hp := NE_c_v.out) | apply blk_far (hp := NE_c_p.out))) hb)
  have nX_v := Aside0.mk (blk_below (g := w1.heap.size + 1 + 1 + 1 + 1 + 1 + 1) (by with_reducible repeat (first | exact HX_v.out | (apply blk_newN; first | rfl | (simp; done)) | apply blk_alloc | apply blk_drewN | apply blk_drew | apply blk_far (hp := NE_v_s.out) | apply blk_far (hp := NE_v_c.out) | apply blk_far (hp := NE_v_p.out))) hb)
  have nX_p := Aside0.mk (blk_below (g := w1.heap.size) (by with_reducible repeat (first | exact HX_p.out | (apply blk_newN; first | rfl | (simp; done)) | apply blk_alloc | apply blk_drewN | apply blk_drew | apply blk_far (hp := NE_p_s.out) | apply blk_far (hp := NE_p_c.out) | apply blk_far (hp := NE_p_v.out))) hb)
  have nC_k1 := Aside0.mk (Kd.C_below (by repeat (first | (with_reducible first | exact HC_k1.out | apply C_alloc | apply C_drewN | apply C_drew) | exact HC_k1.out)) hb)
  have nC_k2 := Aside0.mk (Kd.C_below (by repeat (first | (with_reducible first | exact HC_k2.out | apply C_alloc | apply C_drewN | apply C_drew) | exact HC_k2.out)) hb)
  have nC_k4 := Aside0.mk (Kd.C_below (by repeat (first | (with_reducible first | exact HC_k4.out | apply C_alloc | apply C_drewN | apply C_drew) | exact HC_k4.out)) hb)
  have nC_b := Aside0.mk (Kd.C_below (by repeat (first | (with_reducible first | exact HC_b.out | apply C_alloc | apply C_drewN | apply C_drew) | exact HC_b.out)) hb)
  clear HB HC_k1 HC_k2 HC_k4 HC_b HX_s cs_s fr_s lt_s HX_c cs_c fr_c lt_c HX_v cs_v fr_v lt_v HX_p cs_p fr_p lt_p
  have HB := nB
  clear nB
  have HC_k1 := nC_k1
  clear nC_k1
  have HC_k2 := nC_k2
  clear nC_k2
  have HC_k4 := nC_k4
  clear nC_k4
  have HC_b := nC_b
  clear nC_b
  have HX_s := nX_s
  clear nX_s
  have cs_s : ∀ i, w14.cell? ⟨w1.heap.size + 1 + 1 + 1, i, none⟩ = _ := fun i => blk_cell HX_s.out i
  have fr_s : ∀ i, w14.frozen? ⟨w1.heap.size + 1 + 1 + 1, i, none⟩ = false := fun i => blk_frozen HX_s.out i
  have lt_s := lt_of_block HX_s.out
  have HX_c := nX_c
  clear nX_c
  have cs_c : ∀ i, w14.cell? ⟨w1.heap.size + 1 + 1 + 1 + 1 + 1, i, none⟩ = _ := fun i => blk_cell HX_c.out i
  have fr_c : ∀ i, w14.frozen? ⟨w1.heap.size + 1 + 1 + 1 + 1 + 1, i, none⟩ = false := fun i => blk_frozen HX_c.out i
  have lt_c := lt_of_block HX_c.out
  have HX_v := nX_v
  clear nX_v
  have cs_v : ∀ i, w14.cell? ⟨w1.heap.size + 1 + 1 + 1 + 1 + 1 + 1, i, none⟩ = _ := fun i => blk_cell HX_v.out i
  have fr_v : ∀ i, w14.frozen? ⟨w1.heap.size + 1 + 1 + 1 + 1 + 1 + 1, i, none⟩ = false := fun i => blk_frozen HX_v.out i
  have lt_v := lt_of_block HX_v.out
  have HX_p := nX_p
  clear nX_p
  have cs_p : ∀ i, w14.cell? ⟨w1.heap.size, i, none⟩ = _ := fun i => blk_cell HX_p.out i
  have fr_p : ∀ i, w14.frozen? ⟨w1.heap.size, i, none⟩ = false := fun i => blk_frozen HX_p.out i
  have lt_p := lt_of_block HX_p.out
  clear hb
  go_wp2_with fail
  refine (canonsize_Object.calls 30 2 2 9 _ _ [0, 0, 0, 0, 0, 0, 0, 0, 0] none 0 [] 2 _ (HG.out.below (by with_reducible repeat (first | exact HB.out | apply below_alloc | apply pw_below_drewN | apply below_drew1 | refine below_set ?_ GE_s.out | refine below_set ?_ GE_c.out | refine below_set ?_ GE_v.out | refine below_set ?_ GE_p.out))) (by repeat (first | (with_reducible first | exact HC_b.out | apply C_alloc | apply C_drewN | apply C_drew) | exact HC_b.out)) H9.out (C_nil _ _ none) (Nat.le_refl 0) (by kernel_rfl)).mono ?_
  rintro e w15 ⟨rfl, hb⟩
  have nB := Aside0.mk (below_step (by with_reducible repeat (first | exact HB.out | apply below_alloc | apply pw_below_drewN | apply below_drew1 | refine below_set ?_ GE_s.out | refine below_set ?_ GE_c.out | refine below_set ?_ GE_v.out | refine below_set ?_ GE_p.out)) hb)
  have nX_s := Aside0.mk (blk_below (g := w1.heap.size + 1 + 1 + 1) (by with_reducible repeat (first | exact HX_s.out | (apply blk_newN; first | rfl | (simp; done)) | apply blk_alloc | apply blk_drewN | apply blk_drew | apply blk_far (hp := NE_s_c.out) | apply blk_far (hp := NE_s_v.out) | apply blk_far (hp := NE_s_p.out))) hb)
  have nX_c := Aside0.mk (blk_below (g := w1.heap.size + 1 + 1 + 1 + 1 + 1) (by with_reducible repeat (first | exact HX_c.out | (apply blk_newN; first | rfl | (simp; done)) | apply blk_alloc | apply blk_drewN | apply blk_drew | apply blk_far (hp := NE_c_s.out) | apply blk_far (hp := NE_c_v.out) | apply blk_far (hp := NE_c_p.out))) hb)
  have nX_v := Aside0.mk (blk_below (g := w1.heap.size + 1 + 1 + 1 + 1 + 1 + 1) (by with_reducible repeat (first | exact HX_v.out | (apply blk_newN; first | rfl | (simp; done)) | apply blk_alloc | apply blk_drewN | apply blk_drew | apply blk_far (hp := NE_v_s.out) | apply blk_far (hp := NE_v_c.out) | apply blk_far (hp := NE_v_p.out))) hb)
  have nX_p := Aside0.mk (blk_below (g := w1.heap.size) (by with_reducible repeat (first | exact HX_p.out | (apply blk_newN; first | rfl | (simp; done)) | apply blk_alloc | apply blk_drewN | apply blk_drew | apply blk_far (hp := NE_p_s.out) | apply blk_far (hp := NE_p_c.out) | apply blk_far (hp := NE_p_v.out))) hb)
  have nC_k1 := Aside0.mk (Kd.C_below (by repeat (first | (with_reducible first | exact HC_k1.out | apply C_alloc | apply C_drewN | apply C_drew) | exact HC_k1.out)) hb)
  have nC_k2 := Aside0.mk (Kd.C_below (by repeat (first | (with_reducible first | exact HC_k2.out | apply C_alloc | apply C_drewN | apply C_drew) | exact HC_k2.out)) hb)
  have nC_k4 := Aside0.mk (Kd.C_below (by repeat (first | (with_reducible first | exact HC_k4.out | apply C_alloc | apply C_drewN | apply C_drew) | exact HC_k4.out)) hb)
  have nC_b := Aside0.mk (Kd.C_below (by repeat (first | (with_reducible first | exact HC_b.out | apply C_alloc | apply C_drewN | apply C_drew) | exact HC_b.out)) hb)
  clear HB HC_k1 HC_k2 HC_k4 HC_b HX_s cs_s fr_s lt_s HX_c cs_c fr_c lt_c HX_v cs_v fr_v lt_v HX_p cs_p fr_p lt_p
  have HB := nB
  clear nB
  have HC_k1 := nC_k1
  clear nC_k1
  have HC_k2 := nC_k2
  clear nC_k2
  have HC_k4 := nC_k4
  clear nC_k4
  have HC_b := nC_b
  clear nC_b
  have HX_s := nX_s
  clear nX_s
  have cs_s : ∀ i, w15.cell? ⟨w1.heap.size + 1 + 1 + 1, i, none⟩ = _ := fun i => blk_cell HX_s.out i
  have fr_s : ∀ i, w15.frozen? ⟨w1.heap.size + 1 + 1 + 1, i, none⟩ = false := fun i => blk_frozen HX_s.out i
  have lt_s := lt_of_block HX_s.out
  have HX_c := nX_c
  clear nX_c
  have cs_c : ∀ i, w15.cell? ⟨w1.heap.size + 1 + 1 + 1 + 1 + 1, i, none⟩ = _ := fun i => blk_cell HX_c.out i
  have fr_c : ∀ i, w15.frozen? ⟨w1.heap.size + 1 + 1 + 1 + 1 + 1, i, none⟩ = false := fun i => blk_frozen HX_c.out i
  have lt_c := lt_of_block HX_c.out
  have HX_v := nX_v
  clear nX_v
  have cs_v : ∀ i, w15.cell? ⟨w1.heap.size + 1 + 1 + 1 + 1 + 1 + 1, i, none⟩ = _ := fun i => blk_cell HX_v.out i
  have fr_v : ∀ i, w15.frozen? ⟨w1.heap.size + 1 + 1 + 1 + 1 + 1 + 1, i, none⟩ = false := fun i => blk_frozen HX_v.out i
  have lt_v := lt_of_block HX_v.out
  have HX_p := nX_p
  clear nX_p
  have cs_p : ∀ i, w15.cell? ⟨w1.heap.size, i, none⟩ = _ := fun i => blk_cell HX_p.out i
  have fr_p : ∀ i, w15.frozen? ⟨w1.heap.size, i, none⟩ = false := fun i => blk_frozen HX_p.out i
  have lt_p := lt_of_block HX_p.out
  clear hb
  go_wp2
  go_ret
  refine ⟨by first | rfl | (simp; done), ?_⟩
  exact (by with_reducible repeat (first | exact HB.out | apply below_alloc | apply pw_below_drewN | apply below_drew1 | refine below_set ?_ GE_s.out | refine below_set ?_ GE_c.out | refine below_set ?_ GE_v.out | refine below_set ?_ GE_p.out))

end Go.Proofs.YtkiompgbmjoflaaDoor.P

set_option linter.unusedVariables false
namespace Go.Proofs.YtkiompgbmjoflaaDoor.P
open Go.RowKit Go.Proofs.YtkiompgbmjoflaaDoorW.PrintWords Go.Proofs.YtkiompgbmjoflaaDoorW.PrintLast Go.Proofs.YtkiompgbmjoflaaDoorW.PrintMore
theorem wrap_u64_any (x : Int) : IntKind.u64.wrap x = x % 18446744073709551616 := by simp [IntKind.wrap, IntKind.bits, IntKind.signed]
theorem wrap_u64 {x : Int} (h : 0 ≤ x ∧ x < 18446744073709551616) : IntKind.u64.wrap x = x := by rw [wrap_u64_any]; omega
theorem wrap64_id {x : Int} (h : -9223372036854775808 ≤ x ∧ x < 9223372036854775808) : wrap64 x = x := by unfold wrap64; omega
/-- A list of words that a slice can hold; a list of segments. -/
def Words (xs : List Int) : Prop := xs.length ≤ 9223372036854775807 ∧ ∀ x ∈ xs, 0 ≤ x ∧ x ≤ 18446744073709551615
def Bytes (xs : List Int) : Prop := xs.length ≤ 9223372036854775807 ∧ ∀ x ∈ xs, 0 ≤ x ∧ x ≤ 255
def Segs (l : List (List Int)) : Prop := l.length ≤ 9223372036854775807 ∧ ∀ s ∈ l, Words s
end Go.Proofs.YtkiompgbmjoflaaDoor.P

set_option linter.unusedVariables false
namespace Go.Proofs.YtkiompgbmjoflaaDoor.P
open Go.RowKit Go.Proofs.YtkiompgbmjoflaaDoorW.PrintWords

/-- What is read at a type, with this much fuel, is a value of the kind, and tells this of the datum. -/
def OpensAt {H α : Type} (enc : TypeId × Value → H) (P : Program) (w : World) (n : Nat) (t : TypeId) (d : Kd α) (S : α → DataW H → Prop) : Prop :=
  ∀ cs x, DataW.trod enc P w 0 (fun _ => true) true n t cs = some x → ∃ a, d.K w a cs ∧ S a x.1
def Opens {H α : Type} (enc : TypeId × Value → H) (P : Program) (w : World) (t : TypeId) (d : Kd α) (S : α → DataW H → Prop) : Prop := ∀ n, OpensAt enc P w n t d S

/-- The data of whole numbers, of slices. -/
def DInt {H : Type} (k : IntKind) (n : Int) (x : DataW H) : Prop := x = .lit (.int k n) ∧ (Lit.int k n).wf = true
def DBool {H : Type} (b : Bool) (x : DataW H) : Prop := x = .lit (.bool b)
inductive DAll {H α : Type} (S : α → DataW H → Prop) : List α → List (DataW H) → Prop
  | nil : DAll S [] []
  | cons {a : α} {x : DataW H} {us : List α} {xs : List (DataW H)} : S a x → DAll S us xs → DAll S (a :: us) (x :: xs)
def DSlice {H α : Type} (S : α → DataW H → Prop) (xs : List α) (x : DataW H) : Prop := (xs = [] ∧ x = .nil) ∨ ∃ es rest, x = .slice es rest ∧ DAll S xs es
theorem DAll.mem {H α : Type} {S : α → DataW H → Prop} {us : List α} {xs : List (DataW H)} (h : DAll S us xs) {a : α} (ha : a ∈ us) : ∃ x, x ∈ xs ∧ S a x := by
  induction h with
  | nil => cases ha
  | cons h0 _ ih =>
    rcases List.mem_cons.1 ha with rfl | ha
    · exact ⟨_, List.mem_cons_self, h0⟩
    · obtain ⟨x, hx, hs⟩ := ih ha
      exact ⟨x, List.mem_cons_of_mem _ hx, hs⟩
theorem DAll.length {H α : Type} {S : α → DataW H → Prop} {us : List α} {xs : List (DataW H)} (h : DAll S us xs) : us.length = xs.length := by
  induction h with
  | nil => rfl
  | cons _ _ ih => simp [ih]
theorem DSlice.mem {H α : Type} {S : α → DataW H → Prop} {xs : List α} {x : DataW H} (h : DSlice S xs x) {a : α} (ha : a ∈ xs) : ∃ y, S a y := by
  rcases h with ⟨rfl, _⟩ | ⟨es, rest, _, h⟩
  · cases ha
  · obtain ⟨y, _, hs⟩ := h.mem ha
    exact ⟨y, hs⟩

section
variable {H α : Type} {enc : TypeId × Value → H} {P : Program} {w : World} {n : Nat} {t e : TypeId}
theorem OpensAt.int {k : IntKind} (ht : P.underlying t = some (.int k)) : OpensAt enc P w n t (Kd.int k) (DInt k) := by
  intro cs x h
  obtain ⟨m, rfl, rfl, hw⟩ := DataW.trod_int ht h
  exact ⟨m, rfl, rfl, hw⟩
theorem OpensAt.bool (ht : P.underlying t = some .bool) : OpensAt enc P w n t Kd.bool DBool := by
  intro cs x h
  obtain ⟨b, rfl, rfl⟩ := DataW.trod_bool ht h
  exact ⟨b, rfl, rfl⟩
theorem mapM_get {α β : Type} {f : α → Option β} : ∀ {l : List α} {r : List β}, l.mapM f = some r → r.length = l.length ∧ ∀ (i : Nat) (x : α), l[i]? = some x → f x = r[i]?
  | [], r, h => by simp at h; subst h; simp
  | a :: l, r, h => by
    simp only [List.mapM_cons, Option.bind_eq_bind, Option.bind_eq_some_iff, Option.pure_def, Option.some.injEq] at h
    obtain ⟨b, hb, r', hr, rfl⟩ := h
    obtain ⟨h1, h2⟩ := mapM_get hr
    refine ⟨by simp [h1], fun i x hx => ?_⟩
    cases i with
    | zero => simp at hx; subst hx; simpa using hb
    | succ i => simp at hx; simpa using h2 i x hx
theorem cells?_get {w : World} {a : Addr} {n : Nat} {cs : List Value} (h : w.cells? 0 a n = some cs) : cs.length = n ∧ ∀ (i : Nat) (u : Value), cs[i]? = some u → w.cell? (a.add i) = some u := by
  simp only [World.cells?, Nat.zero_le, if_true] at h
  obtain ⟨h1, h2⟩ := mapM_get h
  refine ⟨by simpa using h1, fun i u hu => ?_⟩
  have hi : i < n := by have := (List.getElem?_eq_some_iff.1 hu).1; simp at h1; omega
  rw [h2 i i (by simp [hi]), hu]
theorem exists_list {α : Type} {p : Nat → α → Prop} : ∀ (m : Nat), (∀ i, i < m → ∃ a, p i a) → ∃ l : List α, l.length = m ∧ ∀ (i : Nat) (a : α), l[i]? = some a → p i a
  | 0, _ => ⟨[], rfl, fun i a h => by simp at h⟩
  | m + 1, h => by
    obtain ⟨l, hl, hp⟩ := exists_list m (fun i hi => h i (by omega))
    obtain ⟨a, ha⟩ := h m (by omega)
    refine ⟨l ++ [a], by simp [hl], fun i b hb => ?_⟩
    rcases Nat.lt_or_ge i l.length with hi | hi
    · rw [List.getElem?_append_left hi] at hb
      exact hp i b hb
    · have : i = l.length := by
        have := (List.getElem?_eq_some_iff.1 hb).1
        simp at this
        omega
      subst this
      simp at hb
      subst hb
      rw [hl]
      exact ha
theorem DAll.of_get {S : α → DataW H → Prop} : ∀ {us : List α} {xs : List (DataW H)}, us.length = xs.length → (∀ (i : Nat) (a : α) (x : DataW H), us[i]? = some a → xs[i]? = some x → S a x) → DAll S us xs
  | [], [], _, _ => .nil
  | [], _ :: _, h, _ => by simp at h
  | _ :: _, [], h, _ => by simp at h
  | a :: us, x :: xs, h, hg => .cons (hg 0 a x rfl rfl) (DAll.of_get (by simpa using h) fun i b y hb hy => hg (i + 1) b y (by simpa using hb) (by simpa using hy))
theorem OpensAt.slice {d : Kd α} {S : α → DataW H → Prop} (ht : P.underlying t = some (.slice e)) (hc : P.cellsOf e = d.sz) (h : OpensAt enc P w n e d S) : OpensAt enc P w (n + 1) t (Kd.slice e d) (DSlice S) := by
  intro cs x hx
  rcases DataW.trod_slice ht hx with ⟨rfl, rfl⟩ | ⟨a, len, cap, elems, rest, m, hm, rfl, rfl, _, hl, hcap, hlen, hel, _⟩
  · exact ⟨[], ⟨none, 0, rfl, Nat.le_refl _, rfl, by simp, fun h => absurd h (by simp)⟩, .inl ⟨rfl, rfl⟩⟩
  · obtain rfl : n = m := by omega
    have key : ∀ i, i < len → ∃ p : α, ∃ c : List Value, c.length = d.sz ∧ d.K w p c ∧ (∀ (j : Nat) (u : Value), c[j]? = some u → w.cell? (a.add (i * d.sz + j)) = some u) ∧ ∃ y, elems[i]? = some y ∧ S p y.1 := by
      intro i hi
      have h1 := hel i hi
      rw [List.getElem?_eq_getElem (by omega : i < elems.length)] at h1
      obtain ⟨c, hc1, hc2⟩ := Option.bind_eq_some_iff.mp h1
      obtain ⟨p, hp, hs⟩ := h c _ hc2
      obtain ⟨g1, g2⟩ := cells?_get hc1
      refine ⟨p, c, by rw [g1, hc], hp, fun j u hu => ?_, _, List.getElem?_eq_getElem (by omega), hs⟩
      have := g2 j u hu
      rwa [Deep.add_add, hc] at this
    obtain ⟨ps, hpl, hps⟩ := exists_list len key
    refine ⟨ps, ⟨some a, cap, by rw [hpl], by rw [hpl]; exact hl, rfl, by rw [hpl]; unfold maxLen at hcap; omega, fun _ => ⟨a, rfl, fun j p hj => ?_⟩⟩, .inr ⟨_, _, rfl, ?_⟩⟩
    · obtain ⟨c, h1, h2, h3, _⟩ := hps j p hj
      exact ⟨c, h1, h2, h3⟩
    · refine DAll.of_get (by simp [hpl, hlen]) fun i p y hp hy => ?_
      obtain ⟨c, _, _, _, z, hz, hs⟩ := hps i p hp
      rw [List.getElem?_map, hz] at hy
      simp at hy
      subst hy
      exact hs
theorem OpensAt.zero (t : TypeId) (d : Kd α) (S : α → DataW H → Prop) : OpensAt enc P w 0 t d S := by
  intro cs x h
  simp [DataW.trod] at h
theorem Opens.slice {d : Kd α} {S : α → DataW H → Prop} (ht : P.underlying t = some (.slice e)) (hc : P.cellsOf e = d.sz) (h : Opens enc P w e d S) : Opens enc P w t (Kd.slice e d) (DSlice S)
  | 0 => OpensAt.zero _ _ _
  | n + 1 => OpensAt.slice ht hc (h n)
/-- What the list that was read is, plainly. -/
theorem plain_slice {d : Kd α} {S : α → DataW H → Prop} {Q : α → Prop} {A : Option Addr} {xs : List α} {x : DataW H} (hc : Kd.C d w A xs.length xs) (s : DSlice S xs x) (hQ : ∀ a y c, S a y → d.K w a c → Q a) : xs.length ≤ 9223372036854775807 ∧ ∀ a ∈ xs, Q a :=
  ⟨hc.2.1, fun a ha => by
    obtain ⟨i, hi, rfl⟩ := List.getElem_of_mem ha
    obtain ⟨y, hy⟩ := s.mem ha
    obtain ⟨ad, _, hcell⟩ := hc.2.2 (by omega)
    obtain ⟨c, _, hK, _⟩ := hcell i _ (List.getElem?_eq_getElem hi)
    exact hQ _ y c hy hK⟩
end
end Go.Proofs.YtkiompgbmjoflaaDoor.P

set_option linter.unusedVariables false
namespace Go.Proofs.YtkiompgbmjoflaaDoor.P
open Go.RowKit Go.Proofs.YtkiompgbmjoflaaDoorW.PrintWords Go.Proofs.YtkiompgbmjoflaaDoorW.PrintLast Go.Proofs.YtkiompgbmjoflaaDoorW.PrintMore
/-- What is known of a node that was read: its datum is no smaller, its bytes are bytes. -/
def DNode {H : Type} (n : Nd) (x : DataW H) : Prop := tsz n ≤ Rows.uptoBulk x ∧ good n
theorem bulk_one {H : Type} (d : DataW H) : 1 ≤ Rows.uptoBulk d := by
  cases d with
  | lit l => cases l <;> simp [Rows.uptoBulk]
  | nil => simp [Rows.uptoBulk]
  | ptr d => simp [Rows.uptoBulk]
  | slice elems spare => simp [Rows.uptoBulk]
  | agg parts => simp [Rows.uptoBulk]
  | iface t d => simp [Rows.uptoBulk]
  | map entries => simp [Rows.uptoBulk]
  | held h => simp [Rows.uptoBulk]
theorem bulk_len {H : Type} : ∀ l : List (DataW H), l.length ≤ Rows.uptoBulkAll l
  | [] => Nat.zero_le _
  | x :: l => by have := bulk_one x; have := bulk_len l; rw [Rows.uptoBulkAll, List.length_cons]; omega
theorem bulk_nodes {H : Type} {us : List Nd} {xs : List (DataW H)} (h : DAll DNode us xs) : tszs us ≤ Rows.uptoBulkAll xs ∧ goods us := by
  induction h with
  | nil => exact ⟨Nat.le_refl _, by rw [goods]; trivial⟩
  | cons h0 _ ih => rw [tszs_cons, Rows.uptoBulkAll, goods]; exact ⟨by have := h0.1; have := ih.1; omega, h0.2, ih.2⟩
theorem slice_nodes {H : Type} {us : List Nd} {x : DataW H} (h : DSlice DNode us x) : tszs us + 1 ≤ Rows.uptoBulk x ∧ goods us := by
  rcases h with ⟨rfl, rfl⟩ | ⟨es, rest, rfl, h⟩
  · exact ⟨by rw [Rows.uptoBulk, tszs]; omega, by rw [goods]; trivial⟩
  · have := bulk_nodes h
    exact ⟨by rw [Rows.uptoBulk]; omega, this.2⟩
theorem slice_bytes {H : Type} {us : List Int} {x : DataW H} (h : DSlice (DInt .u8) us x) : us.length + 1 ≤ Rows.uptoBulk x ∧ ∀ b ∈ us, 0 ≤ b ∧ b ≤ 255 := by
  refine ⟨?_, fun b hb => ?_⟩
  · rcases h with ⟨rfl, rfl⟩ | ⟨es, rest, rfl, h⟩
    · rw [Rows.uptoBulk, List.length_nil]; omega
    · have := h.length
      have := bulk_len es
      rw [Rows.uptoBulk]
      omega
  · obtain ⟨y, hy⟩ := h.mem hb
    have := hy.2
    simpa [Lit.wf, IntKind.min, IntKind.max, IntKind.signed, IntKind.bits] using this
theorem Node.opens {H : Type} (enc : TypeId × Value → H) (w : World) (fuel : Nat) : OpensAt enc Tryd.prog w fuel 25 k25 DNode := by
  induction fuel using Nat.strongRecOn with
  | _ fuel ih =>
  intro cs x h
  obtain ⟨xs, n, rfl, rfl, hl, hlen, hf⟩ := DataW.trod_struct Tryd.underlying25 h
  have hc : cs.length = 5 := hl.trans (by kernel_rfl)
  obtain ⟨c0, c1, c2, c3, c4, rfl⟩ : ∃ c0 c1 c2 c3 c4, cs = [c0, c1, c2, c3, c4] := by
    match cs, hc with
    | [c0, c1, c2, c3, c4], _ => exact ⟨c0, c1, c2, c3, c4, rfl⟩
  obtain ⟨x0, x1, x2, x3, x4, rfl⟩ : ∃ x0 x1 x2 x3 x4, xs = [x0, x1, x2, x3, x4] := by
    match xs, (show xs.length = 5 from hlen) with
    | [x0, x1, x2, x3, x4], _ => exact ⟨x0, x1, x2, x3, x4, rfl⟩
  have z0 : Tryd.prog.cellsOf 3 = 1 := by kernel_rfl
  have z3 : Tryd.prog.cellsOf 22 = 1 := by kernel_rfl
  have z4 : Tryd.prog.cellsOf 23 = 1 := by kernel_rfl
  have h0 : DataW.trod enc Tryd.prog w 0 (fun _ => true) true n 3 (([c0, c1, c2, c3, c4].drop 0).take (Tryd.prog.cellsOf 3)) = [x0, x1, x2, x3, x4][0]? := hf 0 _ rfl
  have h1 : DataW.trod enc Tryd.prog w 0 (fun _ => true) true n 3 (([c0, c1, c2, c3, c4].drop 1).take (Tryd.prog.cellsOf 3)) = [x0, x1, x2, x3, x4][1]? := hf 1 _ rfl
  have h2 : DataW.trod enc Tryd.prog w 0 (fun _ => true) true n 3 (([c0, c1, c2, c3, c4].drop 2).take (Tryd.prog.cellsOf 3)) = [x0, x1, x2, x3, x4][2]? := hf 2 _ rfl
  have h3 : DataW.trod enc Tryd.prog w 0 (fun _ => true) true n 22 (([c0, c1, c2, c3, c4].drop 3).take (Tryd.prog.cellsOf 22)) = [x0, x1, x2, x3, x4][3]? := hf 3 _ rfl
  have h4 : DataW.trod enc Tryd.prog w 0 (fun _ => true) true n 23 (([c0, c1, c2, c3, c4].drop 4).take (Tryd.prog.cellsOf 23)) = [x0, x1, x2, x3, x4][4]? := hf 4 _ rfl
  simp only [z0, z3, z4, List.drop_zero, List.drop_succ_cons, List.take_succ_cons, List.take_zero, List.getElem?_cons_zero, List.getElem?_cons_succ] at h0 h1 h2 h3 h4
  obtain ⟨a0, e0, _, _⟩ := DataW.trod_int Tryd.underlying3 h0
  obtain ⟨a1, e1, _, _⟩ := DataW.trod_int Tryd.underlying3 h1
  obtain ⟨a2, e2, _, _⟩ := DataW.trod_int Tryd.underlying3 h2
  simp only [List.cons.injEq, and_true] at e0 e1 e2
  subst e0 e1 e2
  obtain ⟨l3, ⟨A3, cc3, hcs3, hl3, hr3⟩, s3⟩ := (show OpensAt enc Tryd.prog w n 22 (Kd.slice 5 (Kd.int .u8)) (DSlice (DInt .u8)) from Opens.slice Tryd.underlying22 (by kernel_rfl) (fun _ => OpensAt.int Tryd.underlying5) n) _ _ h3
  obtain ⟨l4, ⟨A4, cc4, hcs4, hl4, hr4⟩, s4⟩ := (show OpensAt enc Tryd.prog w n 23 (Kd.slice 25 k25) (DSlice DNode) from by
    cases n with
    | zero => exact OpensAt.zero _ _ _
    | succ m => exact OpensAt.slice Tryd.underlying23 (by kernel_rfl) (ih m (by omega))) _ _ h4
  simp only [List.cons.injEq, and_true] at hcs3 hcs4
  subst hcs3 hcs4
  have b3 := slice_bytes s3
  have b4 := slice_nodes s4
  refine ⟨⟨a0, a1, a2, l3, l4⟩, k25_mk w ⟨a0, a1, a2, l3, l4⟩ hl3 hr3 hl4 hr4, ?_, (good_eq _).2 ⟨b3.2, b4.2⟩⟩
  rw [tsz_eq]
  simp only [List.map_cons, List.map_nil, Rows.uptoBulk, Rows.uptoBulkAll]
  omega
end Go.Proofs.YtkiompgbmjoflaaDoor.P

namespace Go.Proofs.YtkiompgbmjoflaaDoor.P
open Go.RowKit Go.WideMaps Go.WideElems
theorem gBits : Tryd.prog.globalNamed "capnp/listsize.bits" = some 0 := by kernel_rfl
theorem tBits : (Tryd.prog.globals[0]?).map (·.type) = some 55 := by kernel_rfl
theorem bits_of_laid {W : World} {l : List (String × DataW Unit)} (h : laidMetH Tryd.prog l W) (hf : l.filter (fun x => x.2.handleName?.isNone) = [("capnp/listsize.bits", Rows.laid_capnp_listsize_bits)]) : ∀ i : Nat, i < 8 → W.cell? ⟨0, i, none⟩ = some (.int .i64 (bitsOf i)) := by
  have h1 := (laidMetH_iff.1 h).1
  rw [hf] at h1
  have ht : Lib.TabIs Tryd.prog W "capnp/listsize.bits" .i64 [0, 1, 8, 16, 32, 64, 64, 0] := Lib.tabIs_of_head (rest := []) gBits tBits Tryd.underlying55 Tryd.underlying3 (by kernel_rfl) (by kernel_rfl) h1
  exact fun i hi => ht.cell gBits i hi
end Go.Proofs.YtkiompgbmjoflaaDoor.P
