-- Printed by this session's wip/pp.py, out of Lean's print of the program.
import Derived.Test.YtlkcmpamjheldaaDoorPx0
import Derived.Test.YtlkcmpamjheldaaDoorPx15
namespace Go.Proofs.YtlkcmpamjheldaaDoor.P
open Go.RowKit Go.Proofs.YtlkcmpamjheldaaDoorW.PrintWords Go.Proofs.YtlkcmpamjheldaaDoorW.PrintLast Go.Proofs.YtlkcmpamjheldaaDoorW.PrintMore
attribute [local go_sem] max2_int min2_int max_two min_two max_three min_three max_four min_four   -- for this text's walks alone
set_option linter.unusedVariables false
set_option linter.unusedSimpArgs false

/-! ### capnpref02_Encode: function 10 -/
def capnpref02_Encode.j0 : Nat → Int → Int → Int → Int → Int → Int → Int → Int → Bool → Int → Int → Int → Option (Int × Bool)
  | 0, _, _, _, _, _, _, _, _, _, _, _, _ => none
  | k + 1, x4, x5, x209000, x209001, x209002, x209003, x209004, x209005, x209006, x209007, x209008, x209009 => if x209000 = 0 then (some (IntKind.u64.wrap ((IntKind.u64.wrap ((IntKind.u64.wrap (x4 + (IntKind.u64.wrap (4 * (IntKind.u64.wrap (x5)))))) + (IntKind.u64.wrap (4294967296 * (IntKind.u64.wrap (x209002)))))) + (IntKind.u64.wrap (281474976710656 * (IntKind.u64.wrap (x209003))))), true)) else (if x209000 = 1 then (some (IntKind.u64.wrap ((IntKind.u64.wrap ((IntKind.u64.wrap (x4 + (IntKind.u64.wrap (4 * (IntKind.u64.wrap (x5)))))) + (IntKind.u64.wrap (4294967296 * (IntKind.u64.wrap (x209004)))))) + (IntKind.u64.wrap (34359738368 * (IntKind.u64.wrap (x209005))))), true)) else (if x209000 = 2 then (if x209006 = true then (some (IntKind.u64.wrap ((IntKind.u64.wrap ((IntKind.u64.wrap (x4 + 4)) + (IntKind.u64.wrap (8 * (IntKind.u64.wrap (x209007)))))) + (IntKind.u64.wrap (4294967296 * (IntKind.u64.wrap (x209008))))), true)) else (some (IntKind.u64.wrap ((IntKind.u64.wrap (x4 + (IntKind.u64.wrap (8 * (IntKind.u64.wrap (x209007)))))) + (IntKind.u64.wrap (4294967296 * (IntKind.u64.wrap (x209008))))), true))) else (some (IntKind.u64.wrap ((IntKind.u64.wrap (x4 + (IntKind.u64.wrap (4 * (IntKind.u64.wrap (x209009)))))) + (IntKind.u64.wrap (4294967296 * (IntKind.u64.wrap (x209008))))), true))))
def capnpref02_Encode.f (k : Nat) (a0_0 : Int) (a0_1 : Int) (a0_2 : Int) (a0_3 : Int) (a0_4 : Int) (a0_5 : Int) (a0_6 : Bool) (a0_7 : Int) (a0_8 : Int) (a0_9 : Int) : Option (Int × Bool) := (capnpref02_Valid.f a0_0 a0_1 a0_2 a0_3 a0_4 a0_5 a0_6 a0_7 a0_8 a0_9).bind fun t209 => (if t209 = true then (if a0_1 < 0 then (capnpref02_Encode.j0 k (IntKind.u64.wrap (a0_0)) (wrap64 (a0_1 + 1073741824)) a0_0 a0_1 a0_2 a0_3 a0_4 a0_5 a0_6 a0_7 a0_8 a0_9) else (capnpref02_Encode.j0 k (IntKind.u64.wrap (a0_0)) a0_1 a0_0 a0_1 a0_2 a0_3 a0_4 a0_5 a0_6 a0_7 a0_8 a0_9)) else (some (0, false)))
theorem capnpref02_Encode.mono_l : ∀ k, (∀ y0 y1 y2 y3 y4 y5 y6 y7 y8 y9 y10 y11, LeO (capnpref02_Encode.j0 k y0 y1 y2 y3 y4 y5 y6 y7 y8 y9 y10 y11) (capnpref02_Encode.j0 (k + 1) y0 y1 y2 y3 y4 y5 y6 y7 y8 y9 y10 y11))
  | 0 => fun _ _ _ _ _ _ _ _ _ _ _ _ r h => by simp [capnpref02_Encode.j0] at h
  | k + 1 => by
    have ih0 := capnpref02_Encode.mono_l k
    · intro y0 y1 y2 y3 y4 y5 y6 y7 y8 y9 y10 y11
      unfold capnpref02_Encode.j0
      repeat' first
      | (with_reducible exact ih0 _ _ _ _ _ _ _ _ _ _ _ _)
      | (with_reducible exact LeO.refl _)
      | (with_reducible exact LeO.none _)
      | (with_reducible refine LeO.ite ?_ ?_)
      | (with_reducible refine LeO.bind ?_ (fun _ => ?_))
      | exact ih0 _ _ _ _ _ _ _ _ _ _ _ _
      | exact LeO.none _
      | refine LeO.ite ?_ ?_
      | refine LeO.bind ?_ (fun _ => ?_)
theorem capnpref02_Encode.mono : ∀ a0 a1 a2 a3 a4 a5 a6 a7 a8 a9 k, LeO (capnpref02_Encode.f k a0 a1 a2 a3 a4 a5 a6 a7 a8 a9) (capnpref02_Encode.f (k + 1) a0 a1 a2 a3 a4 a5 a6 a7 a8 a9) := by
  intro a0 a1 a2 a3 a4 a5 a6 a7 a8 a9 k
  have ih0 := capnpref02_Encode.mono_l k
  unfold capnpref02_Encode.f
  repeat' first
      | (with_reducible exact ih0 _ _ _ _ _ _ _ _ _ _ _ _)
      | (with_reducible exact LeO.refl _)
      | (with_reducible exact LeO.none _)
      | (with_reducible refine LeO.ite ?_ ?_)
      | (with_reducible refine LeO.bind ?_ (fun _ => ?_))
      | exact ih0 _ _ _ _ _ _ _ _ _ _ _ _
      | exact LeO.none _
      | refine LeO.ite ?_ ?_
      | refine LeO.bind ?_ (fun _ => ?_)
set_option maxHeartbeats 8000000 in
set_option maxRecDepth 100000 in
theorem capnpref02_Encode.calls (k : Nat) (a0_0 : Int) (a0_1 : Int) (a0_2 : Int) (a0_3 : Int) (a0_4 : Int) (a0_5 : Int) (a0_6 : Bool) (a0_7 : Int) (a0_8 : Int) (a0_9 : Int) (r1 : Int) (r2 : Bool) (w : World) (h : capnpref02_Encode.f k a0_0 a0_1 a0_2 a0_3 a0_4 a0_5 a0_6 a0_7 a0_8 a0_9 = some (r1, r2)) :
    Calls Tryd.prog 10 #[.agg #[.int .i64 a0_0, .int .i64 a0_1, .int .i64 a0_2, .int .i64 a0_3, .int .i64 a0_4, .int .i64 a0_5, .bool a0_6, .int .i64 a0_7, .int .u32 a0_8, .int .u32 a0_9]] w fun e w' => e = .returned (.tuple #[.int .u64 r1, .bool r2]) ∧ Below w.heap.size w w' := by
  have hu25 := Tryd.underlying25
  have HB := Aside0.mk (Below.refl w.heap.size w)
  have H : ((capnpref02_Valid.f a0_0 a0_1 a0_2 a0_3 a0_4 a0_5 a0_6 a0_7 a0_8 a0_9).bind fun t209 => (if t209 = true then (if a0_1 < 0 then (capnpref02_Encode.j0 k (IntKind.u64.wrap (a0_0)) (wrap64 (a0_1 + 1073741824)) a0_0 a0_1 a0_2 a0_3 a0_4 a0_5 a0_6 a0_7 a0_8 a0_9) else (capnpref02_Encode.j0 k (IntKind.u64.wrap (a0_0)) a0_1 a0_0 a0_1 a0_2 a0_3 a0_4 a0_5 a0_6 a0_7 a0_8 a0_9)) else (some (0, false)))) = some (r1, r2) := h
  clear h
  replace H := Option.bind_eq_some_iff.mp H
  obtain ⟨t209, A20, H⟩ := H
  replace H : (if t209 = true then (if a0_1 < 0 then (capnpref02_Encode.j0 k (IntKind.u64.wrap (a0_0)) (wrap64 (a0_1 + 1073741824)) a0_0 a0_1 a0_2 a0_3 a0_4 a0_5 a0_6 a0_7 a0_8 a0_9) else (capnpref02_Encode.j0 k (IntKind.u64.wrap (a0_0)) a0_1 a0_0 a0_1 a0_2 a0_3 a0_4 a0_5 a0_6 a0_7 a0_8 a0_9)) else (some (0, false))) = some (r1, r2) := H
  have A2 := Aside0.mk A20
  clear A20
  by_cases c3 : t209 = true
  · subst c3
    have H1 : (if a0_1 < 0 then (capnpref02_Encode.j0 k (IntKind.u64.wrap (a0_0)) (wrap64 (a0_1 + 1073741824)) a0_0 a0_1 a0_2 a0_3 a0_4 a0_5 a0_6 a0_7 a0_8 a0_9) else (capnpref02_Encode.j0 k (IntKind.u64.wrap (a0_0)) a0_1 a0_0 a0_1 a0_2 a0_3 a0_4 a0_5 a0_6 a0_7 a0_8 a0_9)) = some (r1, r2) := by rw [if_pos rfl] at H; exact H
    clear H
    have H := H1
    clear H1
    have HC4 := Aside0.mk H
    clear H
    go_enter Tryd.func10, Tryd.ntmps10
    go_upto_if 15 with (first | ((with_reducible refine gate_dst (N := 1) rfl ?_); refine box_event ?hg (N := 1) ?hd (cs := #[.int .i64 a0_0, .int .i64 a0_1, .int .i64 a0_2, .int .i64 a0_3, .int .i64 a0_4, .int .i64 a0_5, .bool a0_6, .int .i64 a0_7, .int .u32 a0_8, .int .u32 a0_9]) (t := 25) ?hr ?_; (case hd => rfl); (case hg => rfl); (case hr => first | (go_simp; done) | (go_simp; rfl)); intro gb208 hg w5 hbox hb; have n0_ := Aside0.mk (below_step (by repeat (first | (with_reducible first | exact HB.out | apply below_alloc | apply pw_below_drewN | apply below_drew1) | exact HB.out)) hb); have n1_ := Aside0.mk (hbox); have n2_ := Aside0.mk ((by rw [hg]; exact (below_size (by repeat (first | (with_reducible first | exact HB.out | apply below_alloc | apply pw_below_drewN | apply below_drew1) | exact HB.out))) : w.heap.size ≤ gb208)); have n3_ := Aside0.mk ((by rw [hg]; exact (below_size (by repeat (first | (with_reducible first | exact HB.out | apply below_alloc | apply pw_below_drewN | apply below_drew1) | exact HB.out))) : w.heap.size ≤ gb208)); clear HB; have HB := n0_; have BK208 := n1_; have GW208 := n2_; have GE208 := n3_; clear n0_ n1_ n2_ n3_; clear hb hbox hg; have hcz6_0 : w5.cell? ⟨gb208, 0, none⟩ = some (.int .i64 a0_0) := (blk_cell BK208.out 0).trans rfl; have hcz6_1 : w5.cell? ⟨gb208, 1, none⟩ = some (.int .i64 a0_1) := (blk_cell BK208.out 1).trans rfl; have hcz6_2 : w5.cell? ⟨gb208, 2, none⟩ = some (.int .i64 a0_2) := (blk_cell BK208.out 2).trans rfl; have hcz6_3 : w5.cell? ⟨gb208, 3, none⟩ = some (.int .i64 a0_3) := (blk_cell BK208.out 3).trans rfl; have hcz6_4 : w5.cell? ⟨gb208, 4, none⟩ = some (.int .i64 a0_4) := (blk_cell BK208.out 4).trans rfl; have hcz6_5 : w5.cell? ⟨gb208, 5, none⟩ = some (.int .i64 a0_5) := (blk_cell BK208.out 5).trans rfl; have hcz6_6 : w5.cell? ⟨gb208, 6, none⟩ = some (.bool a0_6) := (blk_cell BK208.out 6).trans rfl; have hcz6_7 : w5.cell? ⟨gb208, 7, none⟩ = some (.int .i64 a0_7) := (blk_cell BK208.out 7).trans rfl; have hcz6_8 : w5.cell? ⟨gb208, 8, none⟩ = some (.int .u32 a0_8) := (blk_cell BK208.out 8).trans rfl; have hcz6_9 : w5.cell? ⟨gb208, 9, none⟩ = some (.int .u32 a0_9) := (blk_cell BK208.out 9).trans rfl; have hfz6_0 := blk_frozen BK208.out 0; have hfz6_1 := blk_frozen BK208.out 1; have hfz6_2 := blk_frozen BK208.out 2; have hfz6_3 := blk_frozen BK208.out 3; have hfz6_4 := blk_frozen BK208.out 4; have hfz6_5 := blk_frozen BK208.out 5; have hfz6_6 := blk_frozen BK208.out 6; have hfz6_7 := blk_frozen BK208.out 7; have hfz6_8 := blk_frozen BK208.out 8; have hfz6_9 := blk_frozen BK208.out 9) | ((with_reducible refine gate_callee (f := 14) rfl ?_); refine goesL_ (some 7) rfl rfl Tryd.func14 (by kernel_rfl) rfl #[.agg #[.int .i64 a0_0, .int .i64 a0_1, .int .i64 a0_2, .int .i64 a0_3, .int .i64 a0_4, .int .i64 a0_5, .bool a0_6, .int .i64 a0_7, .int .u32 a0_8, .int .u32 a0_9]] rfl (by (try simp only [List.map_toArray, List.map_cons, List.map_nil]); first | done | rfl | (simp only [List.length_drop, List.length_take]; rfl)) ?_; (with_reducible refine (capnpref02_Valid.calls a0_0 a0_1 a0_2 a0_3 a0_4 a0_5 a0_6 a0_7 a0_8 a0_9 true _ A2.out).mono ?_); rintro e w7 ⟨rfl, hb⟩; refine ⟨_, rfl, ?_⟩; have n0_ := Aside0.mk (blk_below (g := gb208) (o := .cells #[.int .i64 a0_0, .int .i64 a0_1, .int .i64 a0_2, .int .i64 a0_3, .int .i64 a0_4, .int .i64 a0_5, .bool a0_6, .int .i64 a0_7, .int .u32 a0_8, .int .u32 a0_9] 25 (0, 0)) (by (with_reducible repeat (first | refine blk_drewN ?_ _ | refine blk_drew ?_ | refine blk_alloc ?_ _)); exact BK208.out) hb); have n1_ := Aside0.mk (below_step (by repeat (first | (with_reducible first | exact HB.out | apply below_alloc | apply pw_below_drewN | apply below_drew1 | refine below_set ?_ GE208.out) | exact HB.out)) hb); clear BK208; clear HB; have BK208 := n0_; have HB := n1_; clear n0_ n1_; (try clear hb); (try clear hb2); (try clear hk); (try clear hi); have hcz8_0 : w7.cell? ⟨gb208, 0, none⟩ = some (.int .i64 a0_0) := (blk_cell BK208.out 0).trans rfl; have hcz8_1 : w7.cell? ⟨gb208, 1, none⟩ = some (.int .i64 a0_1) := (blk_cell BK208.out 1).trans rfl; have hcz8_2 : w7.cell? ⟨gb208, 2, none⟩ = some (.int .i64 a0_2) := (blk_cell BK208.out 2).trans rfl; have hcz8_3 : w7.cell? ⟨gb208, 3, none⟩ = some (.int .i64 a0_3) := (blk_cell BK208.out 3).trans rfl; have hcz8_4 : w7.cell? ⟨gb208, 4, none⟩ = some (.int .i64 a0_4) := (blk_cell BK208.out 4).trans rfl; have hcz8_5 : w7.cell? ⟨gb208, 5, none⟩ = some (.int .i64 a0_5) := (blk_cell BK208.out 5).trans rfl; have hcz8_6 : w7.cell? ⟨gb208, 6, none⟩ = some (.bool a0_6) := (blk_cell BK208.out 6).trans rfl; have hcz8_7 : w7.cell? ⟨gb208, 7, none⟩ = some (.int .i64 a0_7) := (blk_cell BK208.out 7).trans rfl; have hcz8_8 : w7.cell? ⟨gb208, 8, none⟩ = some (.int .u32 a0_8) := (blk_cell BK208.out 8).trans rfl; have hcz8_9 : w7.cell? ⟨gb208, 9, none⟩ = some (.int .u32 a0_9) := (blk_cell BK208.out 9).trans rfl; have hfz8_0 := blk_frozen BK208.out 0; have hfz8_1 := blk_frozen BK208.out 1; have hfz8_2 := blk_frozen BK208.out 2; have hfz8_3 := blk_frozen BK208.out 3; have hfz8_4 := blk_frozen BK208.out 4; have hfz8_5 := blk_frozen BK208.out 5; have hfz8_6 := blk_frozen BK208.out 6; have hfz8_7 := blk_frozen BK208.out 7; have hfz8_8 := blk_frozen BK208.out 8; have hfz8_9 := blk_frozen BK208.out 9))
    (try simp only [Act.put, List.setIfInBounds_toArray, List.set_cons_zero, List.set_cons_succ])
    go_cut [5] (fun v5 wc => ∃ (kq : Nat) (x5_3 : Int), v5 = .int .i64 x5_3 ∧ Aside0 (capnpref02_Encode.j0 kq (IntKind.u64.wrap (a0_0)) x5_3 a0_0 a0_1 a0_2 a0_3 a0_4 a0_5 a0_6 a0_7 a0_8 a0_9 = some (r1, r2)) ∧ Aside0 (kq ≤ k) ∧ Aside0 (wc.heap[gb208]? = some (.cells #[.int .i64 a0_0, .int .i64 a0_1, .int .i64 a0_2, .int .i64 a0_3, .int .i64 a0_4, .int .i64 a0_5, .bool a0_6, .int .i64 a0_7, .int .u32 a0_8, .int .u32 a0_9] 25 (0, 0))) ∧ Aside0 (Below w.heap.size w wc))
    case first =>
      have H := HC4.out
      clear HC4
      by_cases c9 : a0_1 < 0
      · rw [if_pos c9] at H
        have c9b0 : decide (a0_1 < 0) = true := decide_eq_true c9
        clear c9
        (first | rw [c9b0] | (simp only [i64_w, i32_w]; rw [c9b0]) | skip)
        have H' := Aside0.mk H
        clear H
        go_wp2
        go_meet
        case rel => exact ⟨_, (wrap64 (a0_1 + 1073741824)), (by first | rfl | (simp; done) | (simp [*]; done)), H', ⟨by first | omega | exact Nat.le_refl _⟩, ⟨by (with_reducible repeat (first | refine blk_drewN ?_ _ | refine blk_drew ?_ | refine blk_alloc ?_ _)); exact BK208.out⟩, ⟨by repeat (first | (with_reducible first | exact HB.out | apply below_alloc | apply pw_below_drewN | apply below_drew1 | refine below_set ?_ GE208.out) | exact HB.out)⟩⟩
      · rw [if_neg c9] at H
        have c9b0 : decide (a0_1 < 0) = false := decide_eq_false c9
        clear c9
        (first | rw [c9b0] | (simp only [i64_w, i32_w]; rw [c9b0]) | skip)
        have H' := Aside0.mk H
        clear H
        go_wp2
        go_meet
        case rel => exact ⟨_, (a0_1), (by first | rfl | (simp; done) | (simp [*]; done)), H', ⟨by first | omega | exact Nat.le_refl _⟩, ⟨by (with_reducible repeat (first | refine blk_drewN ?_ _ | refine blk_drew ?_ | refine blk_alloc ?_ _)); exact BK208.out⟩, ⟨by repeat (first | (with_reducible first | exact HB.out | apply below_alloc | apply pw_below_drewN | apply below_drew1 | refine below_set ?_ GE208.out) | exact HB.out)⟩⟩
    case rest =>
      clear HC4
      try clear c1
      try clear p2
      try clear c3
      try clear p6
      try clear c9
      try clear c9b0
      try clear hcz6_0
      try clear hcz6_1
      try clear hcz6_2
      try clear hcz6_3
      try clear hcz6_4
      try clear hcz6_5
      try clear hcz6_6
      try clear hcz6_7
      try clear hcz6_8
      try clear hcz6_9
      try clear hcz8_0
      try clear hcz8_1
      try clear hcz8_2
      try clear hcz8_3
      try clear hcz8_4
      try clear hcz8_5
      try clear hcz8_6
      try clear hcz8_7
      try clear hcz8_8
      try clear hcz8_9
      try clear hfz6_0
      try clear hfz6_1
      try clear hfz6_2
      try clear hfz6_3
      try clear hfz6_4
      try clear hfz6_5
      try clear hfz6_6
      try clear hfz6_7
      try clear hfz6_8
      try clear hfz6_9
      try clear hfz8_0
      try clear hfz8_1
      try clear hfz8_2
      try clear hfz8_3
      try clear hfz8_4
      try clear hfz8_5
      try clear hfz8_6
      try clear hfz8_7
      try clear hfz8_8
      try clear hfz8_9
      obtain ⟨kq, x5_3, rfl, HA, HJ3, BK208, HB⟩ := hcut
      cases kq with
      | zero => exact absurd HA.out (by simp [capnpref02_Encode.j0])
      | succ kj3 =>
        have H := HA.out
        clear HA
        simp only [capnpref02_Encode.j0] at H
        by_cases c10 : a0_0 = 0
        · rw [if_pos c10] at H
          have c10b0 : (a0_0 == 0) = true := beq_iff_eq.mpr c10
          have c10b1 : (a0_0 != 0) = false := bne_eq_false_iff_eq.mpr c10
          clear c10
          simp only [Option.some.injEq, Prod.mk.injEq] at H
          obtain ⟨rfl, rfl⟩ := H
          have hcz11_0 : wc.cell? ⟨gb208, 0, none⟩ = some (.int .i64 a0_0) := (blk_cell BK208.out 0).trans rfl
          have hcz11_1 : wc.cell? ⟨gb208, 1, none⟩ = some (.int .i64 a0_1) := (blk_cell BK208.out 1).trans rfl
          have hcz11_2 : wc.cell? ⟨gb208, 2, none⟩ = some (.int .i64 a0_2) := (blk_cell BK208.out 2).trans rfl
          have hcz11_3 : wc.cell? ⟨gb208, 3, none⟩ = some (.int .i64 a0_3) := (blk_cell BK208.out 3).trans rfl
          have hcz11_4 : wc.cell? ⟨gb208, 4, none⟩ = some (.int .i64 a0_4) := (blk_cell BK208.out 4).trans rfl
          have hcz11_5 : wc.cell? ⟨gb208, 5, none⟩ = some (.int .i64 a0_5) := (blk_cell BK208.out 5).trans rfl
          have hcz11_6 : wc.cell? ⟨gb208, 6, none⟩ = some (.bool a0_6) := (blk_cell BK208.out 6).trans rfl
          have hcz11_7 : wc.cell? ⟨gb208, 7, none⟩ = some (.int .i64 a0_7) := (blk_cell BK208.out 7).trans rfl
          have hcz11_8 : wc.cell? ⟨gb208, 8, none⟩ = some (.int .u32 a0_8) := (blk_cell BK208.out 8).trans rfl
          have hcz11_9 : wc.cell? ⟨gb208, 9, none⟩ = some (.int .u32 a0_9) := (blk_cell BK208.out 9).trans rfl
          have hfz11_0 := blk_frozen BK208.out 0
          have hfz11_1 := blk_frozen BK208.out 1
          have hfz11_2 := blk_frozen BK208.out 2
          have hfz11_3 := blk_frozen BK208.out 3
          have hfz11_4 := blk_frozen BK208.out 4
          have hfz11_5 := blk_frozen BK208.out 5
          have hfz11_6 := blk_frozen BK208.out 6
          have hfz11_7 := blk_frozen BK208.out 7
          have hfz11_8 := blk_frozen BK208.out 8
          have hfz11_9 := blk_frozen BK208.out 9
          go_wp2
          go_ret2
          exact ⟨by first | rfl | (simp [errW_none, errW_some] <;> rfl) | (simp [*, errW_none, errW_some] <;> rfl), by repeat (first | (with_reducible first | exact HB.out | apply below_alloc | apply pw_below_drewN | apply below_drew1 | refine below_set ?_ GE208.out) | exact HB.out)⟩
        · rw [if_neg c10] at H
          have c10b0 : (a0_0 == 0) = false := beq_eq_false_iff_ne.mpr c10
          have c10b1 : (a0_0 != 0) = true := bne_iff_ne.mpr c10
          by_cases c12 : a0_0 = 1
          · rw [if_pos c12] at H
            have c12b0 : (a0_0 == 1) = true := beq_iff_eq.mpr c12
            have c12b1 : (a0_0 != 1) = false := bne_eq_false_iff_eq.mpr c12
            clear c12
            simp only [Option.some.injEq, Prod.mk.injEq] at H
            obtain ⟨rfl, rfl⟩ := H
            have hcz13_0 : wc.cell? ⟨gb208, 0, none⟩ = some (.int .i64 a0_0) := (blk_cell BK208.out 0).trans rfl
            have hcz13_1 : wc.cell? ⟨gb208, 1, none⟩ = some (.int .i64 a0_1) := (blk_cell BK208.out 1).trans rfl
            have hcz13_2 : wc.cell? ⟨gb208, 2, none⟩ = some (.int .i64 a0_2) := (blk_cell BK208.out 2).trans rfl
            have hcz13_3 : wc.cell? ⟨gb208, 3, none⟩ = some (.int .i64 a0_3) := (blk_cell BK208.out 3).trans rfl
            have hcz13_4 : wc.cell? ⟨gb208, 4, none⟩ = some (.int .i64 a0_4) := (blk_cell BK208.out 4).trans rfl
            have hcz13_5 : wc.cell? ⟨gb208, 5, none⟩ = some (.int .i64 a0_5) := (blk_cell BK208.out 5).trans rfl
            have hcz13_6 : wc.cell? ⟨gb208, 6, none⟩ = some (.bool a0_6) := (blk_cell BK208.out 6).trans rfl
            have hcz13_7 : wc.cell? ⟨gb208, 7, none⟩ = some (.int .i64 a0_7) := (blk_cell BK208.out 7).trans rfl
            have hcz13_8 : wc.cell? ⟨gb208, 8, none⟩ = some (.int .u32 a0_8) := (blk_cell BK208.out 8).trans rfl
            have hcz13_9 : wc.cell? ⟨gb208, 9, none⟩ = some (.int .u32 a0_9) := (blk_cell BK208.out 9).trans rfl
            have hfz13_0 := blk_frozen BK208.out 0
            have hfz13_1 := blk_frozen BK208.out 1
            have hfz13_2 := blk_frozen BK208.out 2
            have hfz13_3 := blk_frozen BK208.out 3
            have hfz13_4 := blk_frozen BK208.out 4
            have hfz13_5 := blk_frozen BK208.out 5
            have hfz13_6 := blk_frozen BK208.out 6
            have hfz13_7 := blk_frozen BK208.out 7
            have hfz13_8 := blk_frozen BK208.out 8
            have hfz13_9 := blk_frozen BK208.out 9
            go_wp2
            go_ret2
            exact ⟨by first | rfl | (simp [errW_none, errW_some] <;> rfl) | (simp [*, errW_none, errW_some] <;> rfl), by repeat (first | (with_reducible first | exact HB.out | apply below_alloc | apply pw_below_drewN | apply below_drew1 | refine below_set ?_ GE208.out) | exact HB.out)⟩
          · rw [if_neg c12] at H
            have c12b0 : (a0_0 == 1) = false := beq_eq_false_iff_ne.mpr c12
            have c12b1 : (a0_0 != 1) = true := bne_iff_ne.mpr c12
            by_cases c14 : a0_0 = 2
            · rw [if_pos c14] at H
              have c14b0 : (a0_0 == 2) = true := beq_iff_eq.mpr c14
              have c14b1 : (a0_0 != 2) = false := bne_eq_false_iff_eq.mpr c14
              clear c14
              by_cases c15 : a0_6 = true
              · subst c15
                have H1 : (some (IntKind.u64.wrap ((IntKind.u64.wrap ((IntKind.u64.wrap ((IntKind.u64.wrap (a0_0)) + 4)) + (IntKind.u64.wrap (8 * (IntKind.u64.wrap (a0_7)))))) + (IntKind.u64.wrap (4294967296 * (IntKind.u64.wrap (a0_8))))), true)) = some (r1, r2) := by rw [if_pos rfl] at H; exact H
                clear H
                have H := H1
                clear H1
                simp only [Option.some.injEq, Prod.mk.injEq] at H
                obtain ⟨rfl, rfl⟩ := H
                have hcz16_0 : wc.cell? ⟨gb208, 0, none⟩ = some (.int .i64 a0_0) := (blk_cell BK208.out 0).trans rfl
                have hcz16_1 : wc.cell? ⟨gb208, 1, none⟩ = some (.int .i64 a0_1) := (blk_cell BK208.out 1).trans rfl
                have hcz16_2 : wc.cell? ⟨gb208, 2, none⟩ = some (.int .i64 a0_2) := (blk_cell BK208.out 2).trans rfl
                have hcz16_3 : wc.cell? ⟨gb208, 3, none⟩ = some (.int .i64 a0_3) := (blk_cell BK208.out 3).trans rfl
                have hcz16_4 : wc.cell? ⟨gb208, 4, none⟩ = some (.int .i64 a0_4) := (blk_cell BK208.out 4).trans rfl
                have hcz16_5 : wc.cell? ⟨gb208, 5, none⟩ = some (.int .i64 a0_5) := (blk_cell BK208.out 5).trans rfl
                have hcz16_6 : wc.cell? ⟨gb208, 6, none⟩ = some (.bool true) := (blk_cell BK208.out 6).trans rfl
                have hcz16_7 : wc.cell? ⟨gb208, 7, none⟩ = some (.int .i64 a0_7) := (blk_cell BK208.out 7).trans rfl
                have hcz16_8 : wc.cell? ⟨gb208, 8, none⟩ = some (.int .u32 a0_8) := (blk_cell BK208.out 8).trans rfl
                have hcz16_9 : wc.cell? ⟨gb208, 9, none⟩ = some (.int .u32 a0_9) := (blk_cell BK208.out 9).trans rfl
                have hfz16_0 := blk_frozen BK208.out 0
                have hfz16_1 := blk_frozen BK208.out 1
                have hfz16_2 := blk_frozen BK208.out 2
                have hfz16_3 := blk_frozen BK208.out 3
                have hfz16_4 := blk_frozen BK208.out 4
                have hfz16_5 := blk_frozen BK208.out 5
                have hfz16_6 := blk_frozen BK208.out 6
                have hfz16_7 := blk_frozen BK208.out 7
                have hfz16_8 := blk_frozen BK208.out 8
                have hfz16_9 := blk_frozen BK208.out 9
                go_wp2
                go_ret2
                exact ⟨by first | rfl | (simp [errW_none, errW_some] <;> rfl) | (simp [*, errW_none, errW_some] <;> rfl), by repeat (first | (with_reducible first | exact HB.out | apply below_alloc | apply pw_below_drewN | apply below_drew1 | refine below_set ?_ GE208.out) | exact HB.out)⟩
              · replace c15 := Bool.eq_false_iff.mpr c15
                subst c15
                have H1 : (some (IntKind.u64.wrap ((IntKind.u64.wrap ((IntKind.u64.wrap (a0_0)) + (IntKind.u64.wrap (8 * (IntKind.u64.wrap (a0_7)))))) + (IntKind.u64.wrap (4294967296 * (IntKind.u64.wrap (a0_8))))), true)) = some (r1, r2) := by rw [if_neg (show ¬ (false = true) by decide)] at H; exact H
                clear H
                have H := H1
                clear H1
                simp only [Option.some.injEq, Prod.mk.injEq] at H
                obtain ⟨rfl, rfl⟩ := H
                have hcz17_0 : wc.cell? ⟨gb208, 0, none⟩ = some (.int .i64 a0_0) := (blk_cell BK208.out 0).trans rfl
                have hcz17_1 : wc.cell? ⟨gb208, 1, none⟩ = some (.int .i64 a0_1) := (blk_cell BK208.out 1).trans rfl
                have hcz17_2 : wc.cell? ⟨gb208, 2, none⟩ = some (.int .i64 a0_2) := (blk_cell BK208.out 2).trans rfl
                have hcz17_3 : wc.cell? ⟨gb208, 3, none⟩ = some (.int .i64 a0_3) := (blk_cell BK208.out 3).trans rfl
                have hcz17_4 : wc.cell? ⟨gb208, 4, none⟩ = some (.int .i64 a0_4) := (blk_cell BK208.out 4).trans rfl
                have hcz17_5 : wc.cell? ⟨gb208, 5, none⟩ = some (.int .i64 a0_5) := (blk_cell BK208.out 5).trans rfl
                have hcz17_6 : wc.cell? ⟨gb208, 6, none⟩ = some (.bool false) := (blk_cell BK208.out 6).trans rfl
                have hcz17_7 : wc.cell? ⟨gb208, 7, none⟩ = some (.int .i64 a0_7) := (blk_cell BK208.out 7).trans rfl
                have hcz17_8 : wc.cell? ⟨gb208, 8, none⟩ = some (.int .u32 a0_8) := (blk_cell BK208.out 8).trans rfl
                have hcz17_9 : wc.cell? ⟨gb208, 9, none⟩ = some (.int .u32 a0_9) := (blk_cell BK208.out 9).trans rfl
                have hfz17_0 := blk_frozen BK208.out 0
                have hfz17_1 := blk_frozen BK208.out 1
                have hfz17_2 := blk_frozen BK208.out 2
                have hfz17_3 := blk_frozen BK208.out 3
                have hfz17_4 := blk_frozen BK208.out 4
                have hfz17_5 := blk_frozen BK208.out 5
                have hfz17_6 := blk_frozen BK208.out 6
                have hfz17_7 := blk_frozen BK208.out 7
                have hfz17_8 := blk_frozen BK208.out 8
                have hfz17_9 := blk_frozen BK208.out 9
                go_wp2
                go_ret2
                exact ⟨by first | rfl | (simp [errW_none, errW_some] <;> rfl) | (simp [*, errW_none, errW_some] <;> rfl), by repeat (first | (with_reducible first | exact HB.out | apply below_alloc | apply pw_below_drewN | apply below_drew1 | refine below_set ?_ GE208.out) | exact HB.out)⟩
            · rw [if_neg c14] at H
              have c14b0 : (a0_0 == 2) = false := beq_eq_false_iff_ne.mpr c14
              have c14b1 : (a0_0 != 2) = true := bne_iff_ne.mpr c14
              simp only [Option.some.injEq, Prod.mk.injEq] at H
              obtain ⟨rfl, rfl⟩ := H
              have hcz18_0 : wc.cell? ⟨gb208, 0, none⟩ = some (.int .i64 a0_0) := (blk_cell BK208.out 0).trans rfl
              have hcz18_1 : wc.cell? ⟨gb208, 1, none⟩ = some (.int .i64 a0_1) := (blk_cell BK208.out 1).trans rfl
              have hcz18_2 : wc.cell? ⟨gb208, 2, none⟩ = some (.int .i64 a0_2) := (blk_cell BK208.out 2).trans rfl
              have hcz18_3 : wc.cell? ⟨gb208, 3, none⟩ = some (.int .i64 a0_3) := (blk_cell BK208.out 3).trans rfl
              have hcz18_4 : wc.cell? ⟨gb208, 4, none⟩ = some (.int .i64 a0_4) := (blk_cell BK208.out 4).trans rfl
              have hcz18_5 : wc.cell? ⟨gb208, 5, none⟩ = some (.int .i64 a0_5) := (blk_cell BK208.out 5).trans rfl
              have hcz18_6 : wc.cell? ⟨gb208, 6, none⟩ = some (.bool a0_6) := (blk_cell BK208.out 6).trans rfl
              have hcz18_7 : wc.cell? ⟨gb208, 7, none⟩ = some (.int .i64 a0_7) := (blk_cell BK208.out 7).trans rfl
              have hcz18_8 : wc.cell? ⟨gb208, 8, none⟩ = some (.int .u32 a0_8) := (blk_cell BK208.out 8).trans rfl
              have hcz18_9 : wc.cell? ⟨gb208, 9, none⟩ = some (.int .u32 a0_9) := (blk_cell BK208.out 9).trans rfl
              have hfz18_0 := blk_frozen BK208.out 0
              have hfz18_1 := blk_frozen BK208.out 1
              have hfz18_2 := blk_frozen BK208.out 2
              have hfz18_3 := blk_frozen BK208.out 3
              have hfz18_4 := blk_frozen BK208.out 4
              have hfz18_5 := blk_frozen BK208.out 5
              have hfz18_6 := blk_frozen BK208.out 6
              have hfz18_7 := blk_frozen BK208.out 7
              have hfz18_8 := blk_frozen BK208.out 8
              have hfz18_9 := blk_frozen BK208.out 9
              go_wp2
              go_ret2
              exact ⟨by first | rfl | (simp [errW_none, errW_some] <;> rfl) | (simp [*, errW_none, errW_some] <;> rfl), by repeat (first | (with_reducible first | exact HB.out | apply below_alloc | apply pw_below_drewN | apply below_drew1 | refine below_set ?_ GE208.out) | exact HB.out)⟩
  · replace c3 := Bool.eq_false_iff.mpr c3
    subst c3
    have H1 : (some (0, false)) = some (r1, r2) := by rw [if_neg (show ¬ (false = true) by decide)] at H; exact H
    clear H
    have H := H1
    clear H1
    simp only [Option.some.injEq, Prod.mk.injEq] at H
    obtain ⟨rfl, rfl⟩ := H
    go_enter Tryd.func10, Tryd.ntmps10
    go_wp2_with (first | ((with_reducible refine gate_dst (N := 1) rfl ?_); refine box_event ?hg (N := 1) ?hd (cs := #[.int .i64 a0_0, .int .i64 a0_1, .int .i64 a0_2, .int .i64 a0_3, .int .i64 a0_4, .int .i64 a0_5, .bool a0_6, .int .i64 a0_7, .int .u32 a0_8, .int .u32 a0_9]) (t := 25) ?hr ?_; (case hd => rfl); (case hg => rfl); (case hr => first | (go_simp; done) | (go_simp; rfl)); intro gb208 hg w19 hbox hb; have n0_ := Aside0.mk (below_step (by repeat (first | (with_reducible first | exact HB.out | apply below_alloc | apply pw_below_drewN | apply below_drew1) | exact HB.out)) hb); have n1_ := Aside0.mk (hbox); have n2_ := Aside0.mk ((by rw [hg]; exact (below_size (by repeat (first | (with_reducible first | exact HB.out | apply below_alloc | apply pw_below_drewN | apply below_drew1) | exact HB.out))) : w.heap.size ≤ gb208)); have n3_ := Aside0.mk ((by rw [hg]; exact (below_size (by repeat (first | (with_reducible first | exact HB.out | apply below_alloc | apply pw_below_drewN | apply below_drew1) | exact HB.out))) : w.heap.size ≤ gb208)); clear HB; have HB := n0_; have BK208 := n1_; have GW208 := n2_; have GE208 := n3_; clear n0_ n1_ n2_ n3_; clear hb hbox hg; have hcz20_0 : w19.cell? ⟨gb208, 0, none⟩ = some (.int .i64 a0_0) := (blk_cell BK208.out 0).trans rfl; have hcz20_1 : w19.cell? ⟨gb208, 1, none⟩ = some (.int .i64 a0_1) := (blk_cell BK208.out 1).trans rfl; have hcz20_2 : w19.cell? ⟨gb208, 2, none⟩ = some (.int .i64 a0_2) := (blk_cell BK208.out 2).trans rfl; have hcz20_3 : w19.cell? ⟨gb208, 3, none⟩ = some (.int .i64 a0_3) := (blk_cell BK208.out 3).trans rfl; have hcz20_4 : w19.cell? ⟨gb208, 4, none⟩ = some (.int .i64 a0_4) := (blk_cell BK208.out 4).trans rfl; have hcz20_5 : w19.cell? ⟨gb208, 5, none⟩ = some (.int .i64 a0_5) := (blk_cell BK208.out 5).trans rfl; have hcz20_6 : w19.cell? ⟨gb208, 6, none⟩ = some (.bool a0_6) := (blk_cell BK208.out 6).trans rfl; have hcz20_7 : w19.cell? ⟨gb208, 7, none⟩ = some (.int .i64 a0_7) := (blk_cell BK208.out 7).trans rfl; have hcz20_8 : w19.cell? ⟨gb208, 8, none⟩ = some (.int .u32 a0_8) := (blk_cell BK208.out 8).trans rfl; have hcz20_9 : w19.cell? ⟨gb208, 9, none⟩ = some (.int .u32 a0_9) := (blk_cell BK208.out 9).trans rfl; have hfz20_0 := blk_frozen BK208.out 0; have hfz20_1 := blk_frozen BK208.out 1; have hfz20_2 := blk_frozen BK208.out 2; have hfz20_3 := blk_frozen BK208.out 3; have hfz20_4 := blk_frozen BK208.out 4; have hfz20_5 := blk_frozen BK208.out 5; have hfz20_6 := blk_frozen BK208.out 6; have hfz20_7 := blk_frozen BK208.out 7; have hfz20_8 := blk_frozen BK208.out 8; have hfz20_9 := blk_frozen BK208.out 9) | ((with_reducible refine gate_callee (f := 14) rfl ?_); refine goesL_ (some 7) rfl rfl Tryd.func14 (by kernel_rfl) rfl #[.agg #[.int .i64 a0_0, .int .i64 a0_1, .int .i64 a0_2, .int .i64 a0_3, .int .i64 a0_4, .int .i64 a0_5, .bool a0_6, .int .i64 a0_7, .int .u32 a0_8, .int .u32 a0_9]] rfl (by (try simp only [List.map_toArray, List.map_cons, List.map_nil]); first | done | rfl | (simp only [List.length_drop, List.length_take]; rfl)) ?_; (with_reducible refine (capnpref02_Valid.calls a0_0 a0_1 a0_2 a0_3 a0_4 a0_5 a0_6 a0_7 a0_8 a0_9 false _ A2.out).mono ?_); rintro e w21 ⟨rfl, hb⟩; refine ⟨_, rfl, ?_⟩; have n0_ := Aside0.mk (blk_below (g := gb208) (o := .cells #[.int .i64 a0_0, .int .i64 a0_1, .int .i64 a0_2, .int .i64 a0_3, .int .i64 a0_4, .int .i64 a0_5, .bool a0_6, .int .i64 a0_7, .int .u32 a0_8, .int .u32 a0_9] 25 (0, 0)) (by (with_reducible repeat (first | refine blk_drewN ?_ _ | refine blk_drew ?_ | refine blk_alloc ?_ _)); exact BK208.out) hb); have n1_ := Aside0.mk (below_step (by repeat (first | (with_reducible first | exact HB.out | apply below_alloc | apply pw_below_drewN | apply below_drew1 | refine below_set ?_ GE208.out) | exact HB.out)) hb); clear BK208; clear HB; have BK208 := n0_; have HB := n1_; clear n0_ n1_; (try clear hb); (try clear hb2); (try clear hk); (try clear hi)))
    go_ret2
    exact ⟨by first | rfl | (simp [errW_none, errW_some] <;> rfl) | (simp [*, errW_none, errW_some] <;> rfl), by repeat (first | (with_reducible first | exact HB.out | apply below_alloc | apply pw_below_drewN | apply below_drew1 | refine below_set ?_ GE208.out) | exact HB.out)⟩

end Go.Proofs.YtlkcmpamjheldaaDoor.P
