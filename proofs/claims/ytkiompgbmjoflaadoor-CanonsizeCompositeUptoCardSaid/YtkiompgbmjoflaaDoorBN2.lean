/- The texts of this session that come first, joined by wip/merge.py. -/
import Derived.Test.YtkiompgbmjoflaaDoorBN1
import Derived.LoopTactic
import Derived.Deep.RegionWith
import Derived.OneCell
import Derived.Laws.EntriesVeiled
import Derived.Test.YtkiompgbmjoflaaDoorWRepsOne
namespace Go.Proofs.YtkiompgbmjoflaaDoor.P
open Go.RowKit Go.Proofs.YtkiompgbmjoflaaDoorW.PrintWords Go.Proofs.YtkiompgbmjoflaaDoorW.PrintLast Go.Proofs.YtkiompgbmjoflaaDoorW.PrintMore
attribute [local go_sem] max2_int min2_int max_two min_two max_three min_three max_four min_four   -- for this text's walks alone
set_option linter.unusedVariables false
set_option linter.unusedSimpArgs false

variable {gb : Bool}
/-! ### capnpref11_Trimmed: function 23 -/
mutual
def capnpref11_Trimmed.j0 : Nat → Bool → Int → Int → Int → List Int → List (S25) → Option (Bool)
  | 0, _, _, _, _, _, _ => none
  | k + 1, x25, x144000, x144001, x144002, x144003, x144004 => if x25 = true then (some false) else (capnpref11_Trimmed.l0 k 0 x144000 x144001 x144002 x144003 x144004)
def capnpref11_Trimmed.l0 : Nat → Int → Int → Int → Int → List Int → List (S25) → Option (Bool)
  | 0, _, _, _, _, _, _ => none
  | k + 1, x3, x144000, x144001, x144002, x144003, x144004 => if x3 < (x144004.length : Int) then (if 0 ≤ x3 then ((capnpref11_Trimmed.f k ((rd_T25 x144004 x3).f0) ((rd_T25 x144004 x3).f1) ((rd_T25 x144004 x3).f2) ((rd_T25 x144004 x3).f3) ((rd_T25 x144004 x3).f4)).bind fun t147 => (if t147 = true then (capnpref11_Trimmed.l0 k (wrap64 (x3 + 1)) x144000 x144001 x144002 x144003 x144004) else (some false))) else (none)) else (some true)
def capnpref11_Trimmed.f : Nat → Int → Int → Int → List Int → List (S25) → Option (Bool)
  | 0, _, _, _, _, _ => none
  | k + 1, a0_0, a0_1, a0_2, l0_3, l0_4 => if a0_0 = 1 then ((capnpref11_Words.f k l0_3).bind fun t144 => (if (wrap64 (8 * t144)) = (l0_3.length : Int) then ((capnpref11_Pointers.f k l0_4).bind fun t145 => (capnpref11_Trimmed.j0 k (t145 != (l0_4.length : Int)) a0_0 a0_1 a0_2 l0_3 l0_4)) else (capnpref11_Trimmed.j0 k true a0_0 a0_1 a0_2 l0_3 l0_4))) else (capnpref11_Trimmed.j0 k false a0_0 a0_1 a0_2 l0_3 l0_4)
end
theorem capnpref11_Trimmed.mono_l : ∀ k, (∀ y0 y1 y2 y3 y4, LeO (capnpref11_Trimmed.f k y0 y1 y2 y3 y4) (capnpref11_Trimmed.f (k + 1) y0 y1 y2 y3 y4)) ∧ (∀ y0 y1 y2 y3 y4 y5, LeO (capnpref11_Trimmed.j0 k y0 y1 y2 y3 y4 y5) (capnpref11_Trimmed.j0 (k + 1) y0 y1 y2 y3 y4 y5)) ∧ (∀ y0 y1 y2 y3 y4 y5, LeO (capnpref11_Trimmed.l0 k y0 y1 y2 y3 y4 y5) (capnpref11_Trimmed.l0 (k + 1) y0 y1 y2 y3 y4 y5))
  | 0 => ⟨fun _ _ _ _ _ r h => by simp [capnpref11_Trimmed.f] at h, fun _ _ _ _ _ _ r h => by simp [capnpref11_Trimmed.j0] at h, fun _ _ _ _ _ _ r h => by simp [capnpref11_Trimmed.l0] at h⟩
  | k + 1 => by
    obtain ⟨ih0, ih1, ih2⟩ := capnpref11_Trimmed.mono_l k
    refine ⟨?_, ?_, ?_⟩
    · intro y0 y1 y2 y3 y4
      unfold capnpref11_Trimmed.f
      repeat' first
      | (with_reducible exact ih0 _ _ _ _ _)
      | (with_reducible exact ih1 _ _ _ _ _ _)
      | (with_reducible exact ih2 _ _ _ _ _ _)
      | (with_reducible exact capnpref11_Pointers.mono _ _)
      | (with_reducible exact capnpref11_Words.mono _ _)
      | (with_reducible exact LeO.refl _)
      | (with_reducible exact LeO.none _)
      | (with_reducible refine LeO.ite ?_ ?_)
      | (with_reducible refine LeO.bind ?_ (fun _ => ?_))
      | exact ih0 _ _ _ _ _
      | exact ih1 _ _ _ _ _ _
      | exact ih2 _ _ _ _ _ _
      | exact capnpref11_Pointers.mono _ _
      | exact capnpref11_Words.mono _ _
      | exact LeO.none _
      | refine LeO.ite ?_ ?_
      | refine LeO.bind ?_ (fun _ => ?_)
    · intro y0 y1 y2 y3 y4 y5
      unfold capnpref11_Trimmed.j0
      repeat' first
      | (with_reducible exact ih0 _ _ _ _ _)
      | (with_reducible exact ih1 _ _ _ _ _ _)
      | (with_reducible exact ih2 _ _ _ _ _ _)
      | (with_reducible exact capnpref11_Pointers.mono _ _)
      | (with_reducible exact capnpref11_Words.mono _ _)
      | (with_reducible exact LeO.refl _)
      | (with_reducible exact LeO.none _)
      | (with_reducible refine LeO.ite ?_ ?_)
      | (with_reducible refine LeO.bind ?_ (fun _ => ?_))
      | exact ih0 _ _ _ _ _
      | exact ih1 _ _ _ _ _ _
      | exact ih2 _ _ _ _ _ _
      | exact capnpref11_Pointers.mono _ _
      | exact capnpref11_Words.mono _ _
      | exact LeO.none _
      | refine LeO.ite ?_ ?_
      | refine LeO.bind ?_ (fun _ => ?_)
    · intro y0 y1 y2 y3 y4 y5
      unfold capnpref11_Trimmed.l0
      repeat' first
      | (with_reducible exact ih0 _ _ _ _ _)
      | (with_reducible exact ih1 _ _ _ _ _ _)
      | (with_reducible exact ih2 _ _ _ _ _ _)
      | (with_reducible exact capnpref11_Pointers.mono _ _)
      | (with_reducible exact capnpref11_Words.mono _ _)
      | (with_reducible exact LeO.refl _)
      | (with_reducible exact LeO.none _)
      | (with_reducible refine LeO.ite ?_ ?_)
      | (with_reducible refine LeO.bind ?_ (fun _ => ?_))
      | exact ih0 _ _ _ _ _
      | exact ih1 _ _ _ _ _ _
      | exact ih2 _ _ _ _ _ _
      | exact capnpref11_Pointers.mono _ _
      | exact capnpref11_Words.mono _ _
      | exact LeO.none _
      | refine LeO.ite ?_ ?_
      | refine LeO.bind ?_ (fun _ => ?_)
theorem capnpref11_Trimmed.mono : ∀ a0 a1 a2 a3 a4 k, LeO (capnpref11_Trimmed.f k a0 a1 a2 a3 a4) (capnpref11_Trimmed.f (k + 1) a0 a1 a2 a3 a4) := by
  intro a0 a1 a2 a3 a4 k
  obtain ⟨ih0, ih1, ih2⟩ := capnpref11_Trimmed.mono_l k
  exact ih0 a0 a1 a2 a3 a4
set_option maxHeartbeats 8000000 in
set_option maxRecDepth 100000 in
theorem capnpref11_Trimmed.calls (k : Nat) : ∀ (a0_0 : Int) (a0_1 : Int) (a0_2 : Int) (A0_3 : Option Addr) (c0_3 : Nat) (l0_3 : List Int) (A0_4 : Option Addr) (c0_4 : Nat) (l0_4 : List (S25)) (r : Bool) (w : World) (hr0_3 : Kd.C (Kd.int .u8) w A0_3 l0_3.length l0_3) (hc0_3 : l0_3.length ≤ c0_3) (hr0_4 : Kd.C k25 w A0_4 l0_4.length l0_4) (hc0_4 : l0_4.length ≤ c0_4) (h : capnpref11_Trimmed.f k a0_0 a0_1 a0_2 l0_3 l0_4 = some r),
    Calls Tryd.prog 23 #[.agg #[.int .i64 a0_0, .int .i64 a0_1, .int .i64 a0_2, .slice A0_3 l0_3.length c0_3, .slice A0_4 l0_4.length c0_4]] w fun e w' => e = .returned (.bool r) ∧ Below w.heap.size w w' := by
  induction k using Nat.strongRecOn with
  | _ k ih =>
  intro a0_0 a0_1 a0_2 A0_3 c0_3 l0_3 A0_4 c0_4 l0_4 r w hr0_3 hc0_3 hr0_4 hc0_4 h
  cases k with
  | zero => exact absurd h (by simp [capnpref11_Trimmed.f])
  | succ k =>
  simp only [capnpref11_Trimmed.f] at h
  have hu25 := Tryd.underlying25
  have HR0_3 := Aside0.mk hr0_3
  have HC0_3 := Aside0.mk hc0_3
  clear hr0_3 hc0_3
  have HR0_4 := Aside0.mk hr0_4
  have HC0_4 := Aside0.mk hc0_4
  clear hr0_4 hc0_4
  have HB := Aside0.mk (Below.refl w.heap.size w)
  have H : (if a0_0 = 1 then ((capnpref11_Words.f k l0_3).bind fun t144 => (if (wrap64 (8 * t144)) = (l0_3.length : Int) then ((capnpref11_Pointers.f k l0_4).bind fun t145 => (capnpref11_Trimmed.j0 k (t145 != (l0_4.length : Int)) a0_0 a0_1 a0_2 l0_3 l0_4)) else (capnpref11_Trimmed.j0 k true a0_0 a0_1 a0_2 l0_3 l0_4))) else (capnpref11_Trimmed.j0 k false a0_0 a0_1 a0_2 l0_3 l0_4)) = some r := h
  clear h
  have HC2 := Aside0.mk H
  clear H
  go_enter Tryd.func23, Tryd.ntmps23
  go_upto_region 1 with (first | ((with_reducible refine gate_dst (N := 1) rfl ?_); (try (refine gate_guard (by rfl) ?_; dsimp only)); refine box_event ?hg (N := 1) ?hd (cs := #[.int .i64 a0_0, .int .i64 a0_1, .int .i64 a0_2, .slice A0_3 l0_3.length c0_3, .slice A0_4 l0_4.length c0_4]) (t := 25) ?hr ?_; (case hd => rfl); (case hg => rfl); (case hr => first | (go_simp; done) | (go_simp; rfl)); intro gb143 hg w3 hbox hb; have n0_ := Aside0.mk (below_step (by repeat (first | (with_reducible first | exact HB.out | apply below_alloc | apply pw_below_drewN | apply below_drew1) | exact HB.out)) hb); have n1_ := Aside0.mk (hbox); have n2_ := Aside0.mk ((by rw [hg]; exact (below_size (by repeat (first | (with_reducible first | exact HB.out | apply below_alloc | apply pw_below_drewN | apply below_drew1) | exact HB.out))) : w.heap.size ≤ gb143)); have n3_ := Aside0.mk ((by rw [hg]; exact (below_size (by repeat (first | (with_reducible first | exact HB.out | apply below_alloc | apply pw_below_drewN | apply below_drew1) | exact HB.out))) : w.heap.size ≤ gb143)); clear HB; have HB := n0_; have BK143 := n1_; have GW143 := n2_; have GE143 := n3_; clear n0_ n1_ n2_ n3_; clear hb hbox hg))
  repeat (go_quiet (first | ((with_reducible refine gate_dst (N := 1) rfl ?_); (try (refine gate_guard (by rfl) ?_; dsimp only)); refine box_event ?hg (N := 1) ?hd (cs := #[.int .i64 a0_0, .int .i64 a0_1, .int .i64 a0_2, .slice A0_3 l0_3.length c0_3, .slice A0_4 l0_4.length c0_4]) (t := 25) ?hr ?_; (case hd => rfl); (case hg => rfl); (case hr => first | (go_simp; done) | (go_simp; rfl)); intro gb143 hg w3 hbox hb; have n0_ := Aside0.mk (below_step (by repeat (first | (with_reducible first | exact HB.out | apply below_alloc | apply pw_below_drewN | apply below_drew1) | exact HB.out)) hb); have n1_ := Aside0.mk (hbox); have n2_ := Aside0.mk ((by rw [hg]; exact (below_size (by repeat (first | (with_reducible first | exact HB.out | apply below_alloc | apply pw_below_drewN | apply below_drew1) | exact HB.out))) : w.heap.size ≤ gb143)); have n3_ := Aside0.mk ((by rw [hg]; exact (below_size (by repeat (first | (with_reducible first | exact HB.out | apply below_alloc | apply pw_below_drewN | apply below_drew1) | exact HB.out))) : w.heap.size ≤ gb143)); clear HB; have HB := n0_; have BK143 := n1_; have GW143 := n2_; have GE143 := n3_; clear n0_ n1_ n2_ n3_; clear hb hbox hg)); go_upto_region 1 with (first | ((with_reducible refine gate_dst (N := 1) rfl ?_); (try (refine gate_guard (by rfl) ?_; dsimp only)); refine box_event ?hg (N := 1) ?hd (cs := #[.int .i64 a0_0, .int .i64 a0_1, .int .i64 a0_2, .slice A0_3 l0_3.length c0_3, .slice A0_4 l0_4.length c0_4]) (t := 25) ?hr ?_; (case hd => rfl); (case hg => rfl); (case hr => first | (go_simp; done) | (go_simp; rfl)); intro gb143 hg w3 hbox hb; have n0_ := Aside0.mk (below_step (by repeat (first | (with_reducible first | exact HB.out | apply below_alloc | apply pw_below_drewN | apply below_drew1) | exact HB.out)) hb); have n1_ := Aside0.mk (hbox); have n2_ := Aside0.mk ((by rw [hg]; exact (below_size (by repeat (first | (with_reducible first | exact HB.out | apply below_alloc | apply pw_below_drewN | apply below_drew1) | exact HB.out))) : w.heap.size ≤ gb143)); have n3_ := Aside0.mk ((by rw [hg]; exact (below_size (by repeat (first | (with_reducible first | exact HB.out | apply below_alloc | apply pw_below_drewN | apply below_drew1) | exact HB.out))) : w.heap.size ≤ gb143)); clear HB; have HB := n0_; have BK143 := n1_; have GW143 := n2_; have GE143 := n3_; clear n0_ n1_ n2_ n3_; clear hb hbox hg)))
  (try simp only [Act.put, List.setIfInBounds_toArray, List.set_cons_zero, List.set_cons_succ])
  go_cut [25] (fun v25 wc => ∃ (kq : Nat) (x25_1 : Bool), v25 = .bool x25_1 ∧ Aside0 (capnpref11_Trimmed.j0 kq x25_1 a0_0 a0_1 a0_2 l0_3 l0_4 = some r) ∧ Aside0 (kq ≤ k) ∧ Aside0 (wc.heap[gb143]? = some (.cells #[.int .i64 a0_0, .int .i64 a0_1, .int .i64 a0_2, (.slice A0_3 l0_3.length c0_3), (.slice A0_4 l0_4.length c0_4)] 25 (0, 0))) ∧ Aside0 (Below w.heap.size w wc))
  case first =>
    have H := HC2.out
    clear HC2
    by_cases c4 : a0_0 = 1
    · rw [if_pos c4] at H
      have c4b0 : (a0_0 == 1) = true := beq_iff_eq.mpr c4
      have c4b1 : (a0_0 != 1) = false := bne_eq_false_iff_eq.mpr c4
      clear c4
      (first | rw [c4b0] | (simp only [i64_w, i32_w]; rw [c4b0]) | skip)
      replace H := Option.bind_eq_some_iff.mp H
      obtain ⟨t144, A50, H⟩ := H
      replace H : (if (wrap64 (8 * t144)) = (l0_3.length : Int) then ((capnpref11_Pointers.f k l0_4).bind fun t145 => (capnpref11_Trimmed.j0 k (t145 != (l0_4.length : Int)) a0_0 a0_1 a0_2 l0_3 l0_4)) else (capnpref11_Trimmed.j0 k true a0_0 a0_1 a0_2 l0_3 l0_4)) = some r := H
      have A5 := Aside0.mk A50
      clear A50
      by_cases c6 : (wrap64 (8 * t144)) = (l0_3.length : Int)
      · rw [if_pos c6] at H
        have c6b0 : ((wrap64 (8 * t144)) == (l0_3.length : Int)) = true := beq_iff_eq.mpr c6
        have c6b1 : ((wrap64 (8 * t144)) != (l0_3.length : Int)) = false := bne_eq_false_iff_eq.mpr c6
        clear c6
        replace H := Option.bind_eq_some_iff.mp H
        obtain ⟨t145, A70, H⟩ := H
        replace H : (capnpref11_Trimmed.j0 k (t145 != (l0_4.length : Int)) a0_0 a0_1 a0_2 l0_3 l0_4) = some r := H
        have A7 := Aside0.mk A70
        clear A70
        have H' := Aside0.mk H
        clear H
        have hcz8_0 : w3.cell? ⟨gb143, 0, none⟩ = some (.int .i64 a0_0) := (blk_cell BK143.out 0).trans rfl
        have hcz8_1 : w3.cell? ⟨gb143, 1, none⟩ = some (.int .i64 a0_1) := (blk_cell BK143.out 1).trans rfl
        have hcz8_2 : w3.cell? ⟨gb143, 2, none⟩ = some (.int .i64 a0_2) := (blk_cell BK143.out 2).trans rfl
        have hcz8_3 : w3.cell? ⟨gb143, 3, none⟩ = some (.slice A0_3 l0_3.length c0_3) := (blk_cell BK143.out 3).trans rfl
        have hcz8_4 : w3.cell? ⟨gb143, 4, none⟩ = some (.slice A0_4 l0_4.length c0_4) := (blk_cell BK143.out 4).trans rfl
        have hfz8_0 := blk_frozen BK143.out 0
        have hfz8_1 := blk_frozen BK143.out 1
        have hfz8_2 := blk_frozen BK143.out 2
        have hfz8_3 := blk_frozen BK143.out 3
        have hfz8_4 := blk_frozen BK143.out 4
        go_wp2_with (first | (go_at_call 38; (with_reducible refine (capnpref11_Words.calls k _ _ l0_3 t144 _ ?side1 ?side2 A5.out).mono ?_); (case side1 => repeat (first | exact (Kd.C_below HR0_3.out HB.out) | (with_reducible refine Kd.C_alloc ?_ _) | (with_reducible refine Kd.C_drewN ?_ _) | (with_reducible refine Kd.C_drew ?_))); (case side2 => exact HC0_3.out); rintro e w' ⟨rfl, ⟨nd, rfl⟩⟩; (try first | exact ⟨rfl, _, World.drewN_drewN _ _ _⟩ | exact ⟨rfl, _, Eq.trans (World.drewN_drewN _ _ _) (congrArg (World.drewN _) (Nat.add_assoc _ _ _))⟩)) | (go_at_call 39; (with_reducible refine (capnpref11_Pointers.calls k _ _ l0_4 t145 _ ?side1 ?side2 A7.out).mono ?_); (case side1 => repeat (first | exact (Kd.C_below HR0_4.out (by repeat (first | (with_reducible first | exact HB.out | apply below_alloc | apply pw_below_drewN | apply below_drew1 | refine below_set ?_ GE143.out) | exact HB.out))) | (with_reducible refine Kd.C_alloc ?_ _) | (with_reducible refine Kd.C_drewN ?_ _) | (with_reducible refine Kd.C_drew ?_))); (case side2 => exact HC0_4.out); rintro e w' ⟨rfl, ⟨nd, rfl⟩⟩; (try first | exact ⟨rfl, _, World.drewN_drewN _ _ _⟩ | exact ⟨rfl, _, Eq.trans (World.drewN_drewN _ _ _) (congrArg (World.drewN _) (Nat.add_assoc _ _ _))⟩)))
        repeat (go_quiet (first | (go_at_call 38; (with_reducible refine (capnpref11_Words.calls k _ _ l0_3 t144 _ ?side1 ?side2 A5.out).mono ?_); (case side1 => repeat (first | exact (Kd.C_below HR0_3.out HB.out) | (with_reducible refine Kd.C_alloc ?_ _) | (with_reducible refine Kd.C_drewN ?_ _) | (with_reducible refine Kd.C_drew ?_))); (case side2 => exact HC0_3.out); rintro e w' ⟨rfl, ⟨nd, rfl⟩⟩; (try first | exact ⟨rfl, _, World.drewN_drewN _ _ _⟩ | exact ⟨rfl, _, Eq.trans (World.drewN_drewN _ _ _) (congrArg (World.drewN _) (Nat.add_assoc _ _ _))⟩)) | (go_at_call 39; (with_reducible refine (capnpref11_Pointers.calls k _ _ l0_4 t145 _ ?side1 ?side2 A7.out).mono ?_); (case side1 => repeat (first | exact (Kd.C_below HR0_4.out (by repeat (first | (with_reducible first | exact HB.out | apply below_alloc | apply pw_below_drewN | apply below_drew1 | refine below_set ?_ GE143.out) | exact HB.out))) | (with_reducible refine Kd.C_alloc ?_ _) | (with_reducible refine Kd.C_drewN ?_ _) | (with_reducible refine Kd.C_drew ?_))); (case side2 => exact HC0_4.out); rintro e w' ⟨rfl, ⟨nd, rfl⟩⟩; (try first | exact ⟨rfl, _, World.drewN_drewN _ _ _⟩ | exact ⟨rfl, _, Eq.trans (World.drewN_drewN _ _ _) (congrArg (World.drewN _) (Nat.add_assoc _ _ _))⟩))); try go_wp2_with (first | (go_at_call 38; (with_reducible refine (capnpref11_Words.calls k _ _ l0_3 t144 _ ?side1 ?side2 A5.out).mono ?_); (case side1 => repeat (first | exact (Kd.C_below HR0_3.out HB.out) | (with_reducible refine Kd.C_alloc ?_ _) | (with_reducible refine Kd.C_drewN ?_ _) | (with_reducible refine Kd.C_drew ?_))); (case side2 => exact HC0_3.out); rintro e w' ⟨rfl, ⟨nd, rfl⟩⟩; (try first | exact ⟨rfl, _, World.drewN_drewN _ _ _⟩ | exact ⟨rfl, _, Eq.trans (World.drewN_drewN _ _ _) (congrArg (World.drewN _) (Nat.add_assoc _ _ _))⟩)) | (go_at_call 39; (with_reducible refine (capnpref11_Pointers.calls k _ _ l0_4 t145 _ ?side1 ?side2 A7.out).mono ?_); (case side1 => repeat (first | exact (Kd.C_below HR0_4.out (by repeat (first | (with_reducible first | exact HB.out | apply below_alloc | apply pw_below_drewN | apply below_drew1 | refine below_set ?_ GE143.out) | exact HB.out))) | (with_reducible refine Kd.C_alloc ?_ _) | (with_reducible refine Kd.C_drewN ?_ _) | (with_reducible refine Kd.C_drew ?_))); (case side2 => exact HC0_4.out); rintro e w' ⟨rfl, ⟨nd, rfl⟩⟩; (try first | exact ⟨rfl, _, World.drewN_drewN _ _ _⟩ | exact ⟨rfl, _, Eq.trans (World.drewN_drewN _ _ _) (congrArg (World.drewN _) (Nat.add_assoc _ _ _))⟩))))
        go_meet
        case rel => exact ⟨_, ((t145 != (l0_4.length : Int))), (by first | rfl | (simp; done) | (simp [*]; done)), H', ⟨by first | omega | exact Nat.le_refl _⟩, ⟨by (with_reducible repeat (first | refine blk_drewN ?_ _ | refine blk_drew ?_ | refine blk_alloc ?_ _)); exact BK143.out⟩, ⟨by repeat (first | (with_reducible first | exact HB.out | apply below_alloc | apply pw_below_drewN | apply below_drew1 | refine below_set ?_ GE143.out) | exact HB.out)⟩⟩
      · rw [if_neg c6] at H
        have c6b0 : ((wrap64 (8 * t144)) == (l0_3.length : Int)) = false := beq_eq_false_iff_ne.mpr c6
        have c6b1 : ((wrap64 (8 * t144)) != (l0_3.length : Int)) = true := bne_iff_ne.mpr c6
        have H' := Aside0.mk H
        clear H
        have hcz9_0 : w3.cell? ⟨gb143, 0, none⟩ = some (.int .i64 a0_0) := (blk_cell BK143.out 0).trans rfl
        have hcz9_1 : w3.cell? ⟨gb143, 1, none⟩ = some (.int .i64 a0_1) := (blk_cell BK143.out 1).trans rfl
        have hcz9_2 : w3.cell? ⟨gb143, 2, none⟩ = some (.int .i64 a0_2) := (blk_cell BK143.out 2).trans rfl
        have hcz9_3 : w3.cell? ⟨gb143, 3, none⟩ = some (.slice A0_3 l0_3.length c0_3) := (blk_cell BK143.out 3).trans rfl
        have hcz9_4 : w3.cell? ⟨gb143, 4, none⟩ = some (.slice A0_4 l0_4.length c0_4) := (blk_cell BK143.out 4).trans rfl
        have hfz9_0 := blk_frozen BK143.out 0
        have hfz9_1 := blk_frozen BK143.out 1
        have hfz9_2 := blk_frozen BK143.out 2
        have hfz9_3 := blk_frozen BK143.out 3
        have hfz9_4 := blk_frozen BK143.out 4
        go_wp2_with (first | (go_at_call 38; (with_reducible refine (capnpref11_Words.calls k _ _ l0_3 t144 _ ?side1 ?side2 A5.out).mono ?_); (case side1 => repeat (first | exact (Kd.C_below HR0_3.out HB.out) | (with_reducible refine Kd.C_alloc ?_ _) | (with_reducible refine Kd.C_drewN ?_ _) | (with_reducible refine Kd.C_drew ?_))); (case side2 => exact HC0_3.out); rintro e w' ⟨rfl, ⟨nd, rfl⟩⟩; (try first | exact ⟨rfl, _, World.drewN_drewN _ _ _⟩ | exact ⟨rfl, _, Eq.trans (World.drewN_drewN _ _ _) (congrArg (World.drewN _) (Nat.add_assoc _ _ _))⟩)))
        repeat (go_quiet (first | (go_at_call 38; (with_reducible refine (capnpref11_Words.calls k _ _ l0_3 t144 _ ?side1 ?side2 A5.out).mono ?_); (case side1 => repeat (first | exact (Kd.C_below HR0_3.out HB.out) | (with_reducible refine Kd.C_alloc ?_ _) | (with_reducible refine Kd.C_drewN ?_ _) | (with_reducible refine Kd.C_drew ?_))); (case side2 => exact HC0_3.out); rintro e w' ⟨rfl, ⟨nd, rfl⟩⟩; (try first | exact ⟨rfl, _, World.drewN_drewN _ _ _⟩ | exact ⟨rfl, _, Eq.trans (World.drewN_drewN _ _ _) (congrArg (World.drewN _) (Nat.add_assoc _ _ _))⟩))); try go_wp2_with (first | (go_at_call 38; (with_reducible refine (capnpref11_Words.calls k _ _ l0_3 t144 _ ?side1 ?side2 A5.out).mono ?_); (case side1 => repeat (first | exact (Kd.C_below HR0_3.out HB.out) | (with_reducible refine Kd.C_alloc ?_ _) | (with_reducible refine Kd.C_drewN ?_ _) | (with_reducible refine Kd.C_drew ?_))); (case side2 => exact HC0_3.out); rintro e w' ⟨rfl, ⟨nd, rfl⟩⟩; (try first | exact ⟨rfl, _, World.drewN_drewN _ _ _⟩ | exact ⟨rfl, _, Eq.trans (World.drewN_drewN _ _ _) (congrArg (World.drewN _) (Nat.add_assoc _ _ _))⟩))))
        go_meet
        case rel => exact ⟨_, (true), (by first | rfl | (simp; done) | (simp [*]; done)), H', ⟨by first | omega | exact Nat.le_refl _⟩, ⟨by (with_reducible repeat (first | refine blk_drewN ?_ _ | refine blk_drew ?_ | refine blk_alloc ?_ _)); exact BK143.out⟩, ⟨by repeat (first | (with_reducible first | exact HB.out | apply below_alloc | apply pw_below_drewN | apply below_drew1 | refine below_set ?_ GE143.out) | exact HB.out)⟩⟩
    · rw [if_neg c4] at H
      have c4b0 : (a0_0 == 1) = false := beq_eq_false_iff_ne.mpr c4
      have c4b1 : (a0_0 != 1) = true := bne_iff_ne.mpr c4
      (first | rw [c4b0] | (simp only [i64_w, i32_w]; rw [c4b0]) | skip)
      have H' := Aside0.mk H
      clear H
      have hcz10_0 : w3.cell? ⟨gb143, 0, none⟩ = some (.int .i64 a0_0) := (blk_cell BK143.out 0).trans rfl
      have hcz10_1 : w3.cell? ⟨gb143, 1, none⟩ = some (.int .i64 a0_1) := (blk_cell BK143.out 1).trans rfl
      have hcz10_2 : w3.cell? ⟨gb143, 2, none⟩ = some (.int .i64 a0_2) := (blk_cell BK143.out 2).trans rfl
      have hcz10_3 : w3.cell? ⟨gb143, 3, none⟩ = some (.slice A0_3 l0_3.length c0_3) := (blk_cell BK143.out 3).trans rfl
      have hcz10_4 : w3.cell? ⟨gb143, 4, none⟩ = some (.slice A0_4 l0_4.length c0_4) := (blk_cell BK143.out 4).trans rfl
      have hfz10_0 := blk_frozen BK143.out 0
      have hfz10_1 := blk_frozen BK143.out 1
      have hfz10_2 := blk_frozen BK143.out 2
      have hfz10_3 := blk_frozen BK143.out 3
      have hfz10_4 := blk_frozen BK143.out 4
      go_wp2
      repeat (go_quiet (fail); try go_wp2)
      go_meet
      case rel => exact ⟨_, (false), (by first | rfl | (simp; done) | (simp [*]; done)), H', ⟨by first | omega | exact Nat.le_refl _⟩, ⟨by (with_reducible repeat (first | refine blk_drewN ?_ _ | refine blk_drew ?_ | refine blk_alloc ?_ _)); exact BK143.out⟩, ⟨by repeat (first | (with_reducible first | exact HB.out | apply below_alloc | apply pw_below_drewN | apply below_drew1 | refine below_set ?_ GE143.out) | exact HB.out)⟩⟩
  case rest =>
    clear HC2
    try clear c2
    try clear p2
    try clear c4
    try clear c4b0
    try clear c4b1
    try clear c6
    try clear c6b0
    try clear c6b1
    try clear p6
    try clear hcz10_0
    try clear hcz10_1
    try clear hcz10_2
    try clear hcz10_3
    try clear hcz10_4
    try clear hcz8_0
    try clear hcz8_1
    try clear hcz8_2
    try clear hcz8_3
    try clear hcz8_4
    try clear hcz9_0
    try clear hcz9_1
    try clear hcz9_2
    try clear hcz9_3
    try clear hcz9_4
    try clear hfz10_0
    try clear hfz10_1
    try clear hfz10_2
    try clear hfz10_3
    try clear hfz10_4
    try clear hfz8_0
    try clear hfz8_1
    try clear hfz8_2
    try clear hfz8_3
    try clear hfz8_4
    try clear hfz9_0
    try clear hfz9_1
    try clear hfz9_2
    try clear hfz9_3
    try clear hfz9_4
    obtain ⟨kq, x25_1, rfl, HA, HJ1, BK143, HB⟩ := hcut
    cases kq with
    | zero => exact absurd HA.out (by simp [capnpref11_Trimmed.j0])
    | succ kj1 =>
      have H := HA.out
      clear HA
      simp only [capnpref11_Trimmed.j0] at H
      by_cases c11 : x25_1 = true
      · subst c11
        have H1 : (some false) = some r := by rw [if_pos rfl] at H; exact H
        clear H
        have H := H1
        clear H1
        obtain rfl := Option.some.inj H
        go_wp2
        repeat (go_quiet (fail); try go_wp2)
        go_ret
        exact ⟨by first | rfl | (simp [errW_none, errW_some] <;> rfl) | (simp [*, errW_none, errW_some] <;> rfl), by repeat (first | (with_reducible first | exact HB.out | apply below_alloc | apply pw_below_drewN | apply below_drew1 | refine below_set ?_ GE143.out) | exact HB.out)⟩
      · replace c11 := Bool.eq_false_iff.mpr c11
        subst c11
        have H1 : (capnpref11_Trimmed.l0 kj1 0 a0_0 a0_1 a0_2 l0_3 l0_4) = some r := by rw [if_neg (show ¬ (false = true) by decide)] at H; exact H
        clear H
        have H := H1
        clear H1
        have H' := Aside0.mk H
        clear H
        go_wp2
        repeat (go_quiet (fail); try go_wp2)
        go_loopg [3] kj1 (fun kq v3 w' => ∃ (x3_2 : Int), v3 = .int .i64 x3_2 ∧ Aside0 (capnpref11_Trimmed.l0 kq x3_2 a0_0 a0_1 a0_2 l0_3 l0_4 = some r) ∧ Aside0 (kq ≤ kj1) ∧ Aside0 (w'.heap[gb143]? = some (.cells #[.int .i64 a0_0, .int .i64 a0_1, .int .i64 a0_2, (.slice A0_3 l0_3.length c0_3), (.slice A0_4 l0_4.length c0_4)] 25 (0, 0))) ∧ Aside0 (Below w.heap.size w w'))
        case atStart => exact ⟨(0), (by first | rfl | (simp; done) | (simp [*]; done)), H', ⟨Nat.le_refl _⟩, ⟨by (with_reducible repeat (first | refine blk_drewN ?_ _ | refine blk_drew ?_ | refine blk_alloc ?_ _)); exact BK143.out⟩, ⟨by repeat (first | (with_reducible first | exact HB.out | apply below_alloc | apply pw_below_drewN | apply below_drew1 | refine below_set ?_ GE143.out) | exact HB.out)⟩⟩
        case round =>
          clear H'
          try clear c1
          try clear c2
          try clear p2
          try clear c4
          try clear c4b0
          try clear c4b1
          try clear c6
          try clear c6b0
          try clear c6b1
          try clear p6
          try clear c11
          try clear hcz10_0
          try clear hcz10_1
          try clear hcz10_2
          try clear hcz10_3
          try clear hcz10_4
          try clear hcz8_0
          try clear hcz8_1
          try clear hcz8_2
          try clear hcz8_3
          try clear hcz8_4
          try clear hcz9_0
          try clear hcz9_1
          try clear hcz9_2
          try clear hcz9_3
          try clear hcz9_4
          try clear hfz10_0
          try clear hfz10_1
          try clear hfz10_2
          try clear hfz10_3
          try clear hfz10_4
          try clear hfz8_0
          try clear hfz8_1
          try clear hfz8_2
          try clear hfz8_3
          try clear hfz8_4
          try clear hfz9_0
          try clear hfz9_1
          try clear hfz9_2
          try clear hfz9_3
          try clear hfz9_4
          try clear p2
          try clear p6
          obtain ⟨x3_2, rfl, HA, HK2, BK143, HB⟩ := hrel
          cases gk with
          | zero => exact absurd HA.out (by simp [capnpref11_Trimmed.l0])
          | succ k2 =>
            have H := HA.out
            clear HA
            simp only [capnpref11_Trimmed.l0] at H
            by_cases c12 : x3_2 < (l0_4.length : Int)
            · rw [if_pos c12] at H
              have c12b0 : decide (x3_2 < (l0_4.length : Int)) = true := decide_eq_true c12
              clear c12
              by_cases c13 : 0 ≤ x3_2
              · rw [if_pos c13] at H
                have c13b0 : decide (0 ≤ x3_2) = true := decide_eq_true c13
                clear c13
                replace H := Option.bind_eq_some_iff.mp H
                obtain ⟨t147, A140, H⟩ := H
                replace H : (if t147 = true then (capnpref11_Trimmed.l0 k2 (wrap64 (x3_2 + 1)) a0_0 a0_1 a0_2 l0_3 l0_4) else (some false)) = some r := H
                have A14 := Aside0.mk A140
                clear A140
                by_cases c15 : t147 = true
                · subst c15
                  have H1 : (capnpref11_Trimmed.l0 k2 (wrap64 (x3_2 + 1)) a0_0 a0_1 a0_2 l0_3 l0_4) = some r := by rw [if_pos rfl] at H; exact H
                  clear H
                  have H := H1
                  clear H1
                  have H' := Aside0.mk H
                  clear H
                  have hcz16_0 : wr.cell? ⟨gb143, 0, none⟩ = some (.int .i64 a0_0) := (blk_cell BK143.out 0).trans rfl
                  have hcz16_1 : wr.cell? ⟨gb143, 1, none⟩ = some (.int .i64 a0_1) := (blk_cell BK143.out 1).trans rfl
                  have hcz16_2 : wr.cell? ⟨gb143, 2, none⟩ = some (.int .i64 a0_2) := (blk_cell BK143.out 2).trans rfl
                  have hcz16_3 : wr.cell? ⟨gb143, 3, none⟩ = some (.slice A0_3 l0_3.length c0_3) := (blk_cell BK143.out 3).trans rfl
                  have hcz16_4 : wr.cell? ⟨gb143, 4, none⟩ = some (.slice A0_4 l0_4.length c0_4) := (blk_cell BK143.out 4).trans rfl
                  have hfz16_0 := blk_frozen BK143.out 0
                  have hfz16_1 := blk_frozen BK143.out 1
                  have hfz16_2 := blk_frozen BK143.out 2
                  have hfz16_3 := blk_frozen BK143.out 3
                  have hfz16_4 := blk_frozen BK143.out 4
                  have p146 : 0 ≤ (x3_2 : Int) := of_decide_eq_true (by first | (with_reducible assumption) | assumption)
                  have q146 : x3_2 < (l0_4.length : Int) := of_decide_eq_true (by first | (with_reducible assumption) | assumption)
                  obtain ⟨ad146, A146_3, c146_3, A146_4, c146_4, e146, hx146_0, hx146_1, hx146_2, hx146_3, hx146_4, hl146_3, hi146_3, hl146_4, hi146_4⟩ := at_T25 HR0_4.out x3_2 p146 q146
                  cases e146
                  replace hx146_0 := (HB.out.cell (World.block_lt_of_cell? w _ hx146_0)).trans hx146_0
                  replace hx146_1 := (HB.out.cell (World.block_lt_of_cell? w _ hx146_1)).trans hx146_1
                  replace hx146_2 := (HB.out.cell (World.block_lt_of_cell? w _ hx146_2)).trans hx146_2
                  replace hx146_3 := (HB.out.cell (World.block_lt_of_cell? w _ hx146_3)).trans hx146_3
                  replace hx146_4 := (HB.out.cell (World.block_lt_of_cell? w _ hx146_4)).trans hx146_4
                  have HR146_3 := Aside0.mk hi146_3
                  have HC146_3 := Aside0.mk hl146_3
                  clear hi146_3 hl146_3
                  have HR146_4 := Aside0.mk hi146_4
                  have HC146_4 := Aside0.mk hl146_4
                  clear hi146_4 hl146_4
                  replace p146 := eq_true p146
                  replace q146 := eq_true q146
                  go_wp2_with (first | (go_at_call 23; (with_reducible refine (ih k2 (by have := HJ1.out; have := HK2.out; omega) ((rd_T25 l0_4 x3_2).f0) ((rd_T25 l0_4 x3_2).f1) ((rd_T25 l0_4 x3_2).f2) _ _ ((rd_T25 l0_4 x3_2).f3) _ _ ((rd_T25 l0_4 x3_2).f4) true _ ?side1 ?side2 ?side3 ?side4 A14.out).mono ?_); (case side1 => repeat (first | exact (Kd.C_below HR146_3.out HB.out) | (with_reducible refine Kd.C_alloc ?_ _) | (with_reducible refine Kd.C_drewN ?_ _) | (with_reducible refine Kd.C_drew ?_))); (case side2 => exact HC146_3.out); (case side3 => repeat (first | exact (Kd.C_below HR146_4.out HB.out) | (with_reducible refine Kd.C_alloc ?_ _) | (with_reducible refine Kd.C_drewN ?_ _) | (with_reducible refine Kd.C_drew ?_))); (case side4 => exact HC146_4.out); rintro e w17 ⟨rfl, hb⟩; have n0_ := Aside0.mk (blk_below (g := gb143) (o := .cells #[.int .i64 a0_0, .int .i64 a0_1, .int .i64 a0_2, .slice A0_3 l0_3.length c0_3, .slice (some ad146) l0_4.length c0_4] 25 (0, 0)) (by (with_reducible repeat (first | refine blk_drewN ?_ _ | refine blk_drew ?_ | refine blk_alloc ?_ _)); exact BK143.out) hb); have n1_ := Aside0.mk (below_step (by repeat (first | (with_reducible first | exact HB.out | apply below_alloc | apply pw_below_drewN | apply below_drew1 | refine below_set ?_ GE143.out) | exact HB.out)) hb); clear BK143; clear HB; have BK143 := n0_; have HB := n1_; clear n0_ n1_; (try clear hb); (try clear hb2); (try clear hk); (try clear hi)))
                  repeat (go_quiet (first | (go_at_call 23; (with_reducible refine (ih k2 (by have := HJ1.out; have := HK2.out; omega) ((rd_T25 l0_4 x3_2).f0) ((rd_T25 l0_4 x3_2).f1) ((rd_T25 l0_4 x3_2).f2) _ _ ((rd_T25 l0_4 x3_2).f3) _ _ ((rd_T25 l0_4 x3_2).f4) true _ ?side1 ?side2 ?side3 ?side4 A14.out).mono ?_); (case side1 => repeat (first | exact (Kd.C_below HR146_3.out HB.out) | (with_reducible refine Kd.C_alloc ?_ _) | (with_reducible refine Kd.C_drewN ?_ _) | (with_reducible refine Kd.C_drew ?_))); (case side2 => exact HC146_3.out); (case side3 => repeat (first | exact (Kd.C_below HR146_4.out HB.out) | (with_reducible refine Kd.C_alloc ?_ _) | (with_reducible refine Kd.C_drewN ?_ _) | (with_reducible refine Kd.C_drew ?_))); (case side4 => exact HC146_4.out); rintro e w17 ⟨rfl, hb⟩; have n0_ := Aside0.mk (blk_below (g := gb143) (o := .cells #[.int .i64 a0_0, .int .i64 a0_1, .int .i64 a0_2, .slice A0_3 l0_3.length c0_3, .slice (some ad146) l0_4.length c0_4] 25 (0, 0)) (by (with_reducible repeat (first | refine blk_drewN ?_ _ | refine blk_drew ?_ | refine blk_alloc ?_ _)); exact BK143.out) hb); have n1_ := Aside0.mk (below_step (by repeat (first | (with_reducible first | exact HB.out | apply below_alloc | apply pw_below_drewN | apply below_drew1 | refine below_set ?_ GE143.out) | exact HB.out)) hb); clear BK143; clear HB; have BK143 := n0_; have HB := n1_; clear n0_ n1_; (try clear hb); (try clear hb2); (try clear hk); (try clear hi))); try go_wp2_with (first | (go_at_call 23; (with_reducible refine (ih k2 (by have := HJ1.out; have := HK2.out; omega) ((rd_T25 l0_4 x3_2).f0) ((rd_T25 l0_4 x3_2).f1) ((rd_T25 l0_4 x3_2).f2) _ _ ((rd_T25 l0_4 x3_2).f3) _ _ ((rd_T25 l0_4 x3_2).f4) true _ ?side1 ?side2 ?side3 ?side4 A14.out).mono ?_); (case side1 => repeat (first | exact (Kd.C_below HR146_3.out HB.out) | (with_reducible refine Kd.C_alloc ?_ _) | (with_reducible refine Kd.C_drewN ?_ _) | (with_reducible refine Kd.C_drew ?_))); (case side2 => exact HC146_3.out); (case side3 => repeat (first | exact (Kd.C_below HR146_4.out HB.out) | (with_reducible refine Kd.C_alloc ?_ _) | (with_reducible refine Kd.C_drewN ?_ _) | (with_reducible refine Kd.C_drew ?_))); (case side4 => exact HC146_4.out); rintro e w17 ⟨rfl, hb⟩; have n0_ := Aside0.mk (blk_below (g := gb143) (o := .cells #[.int .i64 a0_0, .int .i64 a0_1, .int .i64 a0_2, .slice A0_3 l0_3.length c0_3, .slice (some ad146) l0_4.length c0_4] 25 (0, 0)) (by (with_reducible repeat (first | refine blk_drewN ?_ _ | refine blk_drew ?_ | refine blk_alloc ?_ _)); exact BK143.out) hb); have n1_ := Aside0.mk (below_step (by repeat (first | (with_reducible first | exact HB.out | apply below_alloc | apply pw_below_drewN | apply below_drew1 | refine below_set ?_ GE143.out) | exact HB.out)) hb); clear BK143; clear HB; have BK143 := n0_; have HB := n1_; clear n0_ n1_; (try clear hb); (try clear hb2); (try clear hk); (try clear hi))))
                  go_roundg k2
                  case measure => have := HJ1.out; have := HK2.out; omega
                  case rel => exact ⟨(wrap64 (x3_2 + 1)), (by first | rfl | (simp; done) | (simp [*]; done)), H', ⟨by have := HJ1.out; have := HK2.out; omega⟩, ⟨by (with_reducible repeat (first | refine blk_drewN ?_ _ | refine blk_drew ?_ | refine blk_alloc ?_ _)); exact BK143.out⟩, ⟨by repeat (first | (with_reducible first | exact HB.out | apply below_alloc | apply pw_below_drewN | apply below_drew1 | refine below_set ?_ GE143.out) | exact HB.out)⟩⟩
                · replace c15 := Bool.eq_false_iff.mpr c15
                  subst c15
                  have H1 : (some false) = some r := by rw [if_neg (show ¬ (false = true) by decide)] at H; exact H
                  clear H
                  have H := H1
                  clear H1
                  obtain rfl := Option.some.inj H
                  have hcz18_0 : wr.cell? ⟨gb143, 0, none⟩ = some (.int .i64 a0_0) := (blk_cell BK143.out 0).trans rfl
                  have hcz18_1 : wr.cell? ⟨gb143, 1, none⟩ = some (.int .i64 a0_1) := (blk_cell BK143.out 1).trans rfl
                  have hcz18_2 : wr.cell? ⟨gb143, 2, none⟩ = some (.int .i64 a0_2) := (blk_cell BK143.out 2).trans rfl
                  have hcz18_3 : wr.cell? ⟨gb143, 3, none⟩ = some (.slice A0_3 l0_3.length c0_3) := (blk_cell BK143.out 3).trans rfl
                  have hcz18_4 : wr.cell? ⟨gb143, 4, none⟩ = some (.slice A0_4 l0_4.length c0_4) := (blk_cell BK143.out 4).trans rfl
                  have hfz18_0 := blk_frozen BK143.out 0
                  have hfz18_1 := blk_frozen BK143.out 1
                  have hfz18_2 := blk_frozen BK143.out 2
                  have hfz18_3 := blk_frozen BK143.out 3
                  have hfz18_4 := blk_frozen BK143.out 4
                  have p146 : 0 ≤ (x3_2 : Int) := of_decide_eq_true (by first | (with_reducible assumption) | assumption)
                  have q146 : x3_2 < (l0_4.length : Int) := of_decide_eq_true (by first | (with_reducible assumption) | assumption)
                  obtain ⟨ad146, A146_3, c146_3, A146_4, c146_4, e146, hx146_0, hx146_1, hx146_2, hx146_3, hx146_4, hl146_3, hi146_3, hl146_4, hi146_4⟩ := at_T25 HR0_4.out x3_2 p146 q146
                  cases e146
                  replace hx146_0 := (HB.out.cell (World.block_lt_of_cell? w _ hx146_0)).trans hx146_0
                  replace hx146_1 := (HB.out.cell (World.block_lt_of_cell? w _ hx146_1)).trans hx146_1
                  replace hx146_2 := (HB.out.cell (World.block_lt_of_cell? w _ hx146_2)).trans hx146_2
                  replace hx146_3 := (HB.out.cell (World.block_lt_of_cell? w _ hx146_3)).trans hx146_3
                  replace hx146_4 := (HB.out.cell (World.block_lt_of_cell? w _ hx146_4)).trans hx146_4
                  have HR146_3 := Aside0.mk hi146_3
                  have HC146_3 := Aside0.mk hl146_3
                  clear hi146_3 hl146_3
                  have HR146_4 := Aside0.mk hi146_4
                  have HC146_4 := Aside0.mk hl146_4
                  clear hi146_4 hl146_4
                  replace p146 := eq_true p146
                  replace q146 := eq_true q146
                  go_wp2_with (first | (go_at_call 23; (with_reducible refine (ih k2 (by have := HJ1.out; have := HK2.out; omega) ((rd_T25 l0_4 x3_2).f0) ((rd_T25 l0_4 x3_2).f1) ((rd_T25 l0_4 x3_2).f2) _ _ ((rd_T25 l0_4 x3_2).f3) _ _ ((rd_T25 l0_4 x3_2).f4) false _ ?side1 ?side2 ?side3 ?side4 A14.out).mono ?_); (case side1 => repeat (first | exact (Kd.C_below HR146_3.out HB.out) | (with_reducible refine Kd.C_alloc ?_ _) | (with_reducible refine Kd.C_drewN ?_ _) | (with_reducible refine Kd.C_drew ?_))); (case side2 => exact HC146_3.out); (case side3 => repeat (first | exact (Kd.C_below HR146_4.out HB.out) | (with_reducible refine Kd.C_alloc ?_ _) | (with_reducible refine Kd.C_drewN ?_ _) | (with_reducible refine Kd.C_drew ?_))); (case side4 => exact HC146_4.out); rintro e w19 ⟨rfl, hb⟩; have n0_ := Aside0.mk (blk_below (g := gb143) (o := .cells #[.int .i64 a0_0, .int .i64 a0_1, .int .i64 a0_2, .slice A0_3 l0_3.length c0_3, .slice (some ad146) l0_4.length c0_4] 25 (0, 0)) (by (with_reducible repeat (first | refine blk_drewN ?_ _ | refine blk_drew ?_ | refine blk_alloc ?_ _)); exact BK143.out) hb); have n1_ := Aside0.mk (below_step (by repeat (first | (with_reducible first | exact HB.out | apply below_alloc | apply pw_below_drewN | apply below_drew1 | refine below_set ?_ GE143.out) | exact HB.out)) hb); clear BK143; clear HB; have BK143 := n0_; have HB := n1_; clear n0_ n1_; (try clear hb); (try clear hb2); (try clear hk); (try clear hi)))
                  repeat (go_quiet (first | (go_at_call 23; (with_reducible refine (ih k2 (by have := HJ1.out; have := HK2.out; omega) ((rd_T25 l0_4 x3_2).f0) ((rd_T25 l0_4 x3_2).f1) ((rd_T25 l0_4 x3_2).f2) _ _ ((rd_T25 l0_4 x3_2).f3) _ _ ((rd_T25 l0_4 x3_2).f4) false _ ?side1 ?side2 ?side3 ?side4 A14.out).mono ?_); (case side1 => repeat (first | exact (Kd.C_below HR146_3.out HB.out) | (with_reducible refine Kd.C_alloc ?_ _) | (with_reducible refine Kd.C_drewN ?_ _) | (with_reducible refine Kd.C_drew ?_))); (case side2 => exact HC146_3.out); (case side3 => repeat (first | exact (Kd.C_below HR146_4.out HB.out) | (with_reducible refine Kd.C_alloc ?_ _) | (with_reducible refine Kd.C_drewN ?_ _) | (with_reducible refine Kd.C_drew ?_))); (case side4 => exact HC146_4.out); rintro e w19 ⟨rfl, hb⟩; have n0_ := Aside0.mk (blk_below (g := gb143) (o := .cells #[.int .i64 a0_0, .int .i64 a0_1, .int .i64 a0_2, .slice A0_3 l0_3.length c0_3, .slice (some ad146) l0_4.length c0_4] 25 (0, 0)) (by (with_reducible repeat (first | refine blk_drewN ?_ _ | refine blk_drew ?_ | refine blk_alloc ?_ _)); exact BK143.out) hb); have n1_ := Aside0.mk (below_step (by repeat (first | (with_reducible first | exact HB.out | apply below_alloc | apply pw_below_drewN | apply below_drew1 | refine below_set ?_ GE143.out) | exact HB.out)) hb); clear BK143; clear HB; have BK143 := n0_; have HB := n1_; clear n0_ n1_; (try clear hb); (try clear hb2); (try clear hk); (try clear hi))); try go_wp2_with (first | (go_at_call 23; (with_reducible refine (ih k2 (by have := HJ1.out; have := HK2.out; omega) ((rd_T25 l0_4 x3_2).f0) ((rd_T25 l0_4 x3_2).f1) ((rd_T25 l0_4 x3_2).f2) _ _ ((rd_T25 l0_4 x3_2).f3) _ _ ((rd_T25 l0_4 x3_2).f4) false _ ?side1 ?side2 ?side3 ?side4 A14.out).mono ?_); (case side1 => repeat (first | exact (Kd.C_below HR146_3.out HB.out) | (with_reducible refine Kd.C_alloc ?_ _) | (with_reducible refine Kd.C_drewN ?_ _) | (with_reducible refine Kd.C_drew ?_))); (case side2 => exact HC146_3.out); (case side3 => repeat (first | exact (Kd.C_below HR146_4.out HB.out) | (with_reducible refine Kd.C_alloc ?_ _) | (with_reducible refine Kd.C_drewN ?_ _) | (with_reducible refine Kd.C_drew ?_))); (case side4 => exact HC146_4.out); rintro e w19 ⟨rfl, hb⟩; have n0_ := Aside0.mk (blk_below (g := gb143) (o := .cells #[.int .i64 a0_0, .int .i64 a0_1, .int .i64 a0_2, .slice A0_3 l0_3.length c0_3, .slice (some ad146) l0_4.length c0_4] 25 (0, 0)) (by (with_reducible repeat (first | refine blk_drewN ?_ _ | refine blk_drew ?_ | refine blk_alloc ?_ _)); exact BK143.out) hb); have n1_ := Aside0.mk (below_step (by repeat (first | (with_reducible first | exact HB.out | apply below_alloc | apply pw_below_drewN | apply below_drew1 | refine below_set ?_ GE143.out) | exact HB.out)) hb); clear BK143; clear HB; have BK143 := n0_; have HB := n1_; clear n0_ n1_; (try clear hb); (try clear hb2); (try clear hk); (try clear hi))))
                  go_ret
                  exact ⟨by first | rfl | (simp [errW_none, errW_some] <;> rfl) | (simp [*, errW_none, errW_some] <;> rfl), by repeat (first | (with_reducible first | exact HB.out | apply below_alloc | apply pw_below_drewN | apply below_drew1 | refine below_set ?_ GE143.out) | exact HB.out)⟩
              · rw [if_neg c13] at H
                exact absurd H (by simp)
            · rw [if_neg c12] at H
              have c12b0 : decide (x3_2 < (l0_4.length : Int)) = false := decide_eq_false c12
              clear c12
              obtain rfl := Option.some.inj H
              have hcz20_0 : wr.cell? ⟨gb143, 0, none⟩ = some (.int .i64 a0_0) := (blk_cell BK143.out 0).trans rfl
              have hcz20_1 : wr.cell? ⟨gb143, 1, none⟩ = some (.int .i64 a0_1) := (blk_cell BK143.out 1).trans rfl
              have hcz20_2 : wr.cell? ⟨gb143, 2, none⟩ = some (.int .i64 a0_2) := (blk_cell BK143.out 2).trans rfl
              have hcz20_3 : wr.cell? ⟨gb143, 3, none⟩ = some (.slice A0_3 l0_3.length c0_3) := (blk_cell BK143.out 3).trans rfl
              have hcz20_4 : wr.cell? ⟨gb143, 4, none⟩ = some (.slice A0_4 l0_4.length c0_4) := (blk_cell BK143.out 4).trans rfl
              have hfz20_0 := blk_frozen BK143.out 0
              have hfz20_1 := blk_frozen BK143.out 1
              have hfz20_2 := blk_frozen BK143.out 2
              have hfz20_3 := blk_frozen BK143.out 3
              have hfz20_4 := blk_frozen BK143.out 4
              go_wp2
              repeat (go_quiet (fail); try go_wp2)
              go_ret
              exact ⟨by first | rfl | (simp [errW_none, errW_some] <;> rfl) | (simp [*, errW_none, errW_some] <;> rfl), by repeat (first | (with_reducible first | exact HB.out | apply below_alloc | apply pw_below_drewN | apply below_drew1 | refine below_set ?_ GE143.out) | exact HB.out)⟩

end Go.Proofs.YtkiompgbmjoflaaDoor.P

namespace Go.Proofs.YtkiompgbmjoflaaDoor.P
open Go.RowKit Go.Proofs.YtkiompgbmjoflaaDoorW.PrintWords Go.Proofs.YtkiompgbmjoflaaDoorW.PrintLast Go.Proofs.YtkiompgbmjoflaaDoorW.PrintMore
attribute [local go_sem] max2_int min2_int max_two min_two max_three min_three max_four min_four   -- for this text's walks alone
set_option linter.unusedVariables false
set_option linter.unusedSimpArgs false

variable {gb : Bool}
/-! ### capnpref13_Right: function 9 -/
def capnpref13_Right.f (k : Nat) (a0_0 : Int) (a0_1 : Int) (a0_2 : Int) (l0_3 : List Int) (l0_4 : List (S25)) : Option (Bool) := (capnpref10_Few.f k a0_0 a0_1 a0_2 l0_3 l0_4).bind fun t149 => (if t149 = true then ((capnpref10_Valid.f k a0_0 a0_1 a0_2 l0_3 l0_4).bind fun t150 => (if t150 = true then ((capnpref11_Trimmed.f k a0_0 a0_1 a0_2 l0_3 l0_4).bind fun t151 => (some t151)) else (some false))) else (some false))
theorem capnpref13_Right.mono : ∀ a0 a1 a2 a3 a4 k, LeO (capnpref13_Right.f k a0 a1 a2 a3 a4) (capnpref13_Right.f (k + 1) a0 a1 a2 a3 a4) := by
  intro a0 a1 a2 a3 a4 k
  unfold capnpref13_Right.f
  repeat' first
      | (with_reducible exact capnpref10_Few.mono _ _ _ _ _ _)
      | (with_reducible exact capnpref10_Valid.mono _ _ _ _ _ _)
      | (with_reducible exact capnpref11_Trimmed.mono _ _ _ _ _ _)
      | (with_reducible exact LeO.refl _)
      | (with_reducible exact LeO.none _)
      | (with_reducible refine LeO.ite ?_ ?_)
      | (with_reducible refine LeO.bind ?_ (fun _ => ?_))
      | exact capnpref10_Few.mono _ _ _ _ _ _
      | exact capnpref10_Valid.mono _ _ _ _ _ _
      | exact capnpref11_Trimmed.mono _ _ _ _ _ _
      | exact LeO.none _
      | refine LeO.ite ?_ ?_
      | refine LeO.bind ?_ (fun _ => ?_)
set_option maxHeartbeats 8000000 in
set_option maxRecDepth 100000 in
theorem capnpref13_Right.calls (k : Nat) (a0_0 : Int) (a0_1 : Int) (a0_2 : Int) (A0_3 : Option Addr) (c0_3 : Nat) (l0_3 : List Int) (A0_4 : Option Addr) (c0_4 : Nat) (l0_4 : List (S25)) (r : Bool) (w : World) (hr0_3 : Kd.C (Kd.int .u8) w A0_3 l0_3.length l0_3) (hc0_3 : l0_3.length ≤ c0_3) (hr0_4 : Kd.C k25 w A0_4 l0_4.length l0_4) (hc0_4 : l0_4.length ≤ c0_4) (h : capnpref13_Right.f k a0_0 a0_1 a0_2 l0_3 l0_4 = some r) :
    Calls Tryd.prog 9 #[.agg #[.int .i64 a0_0, .int .i64 a0_1, .int .i64 a0_2, .slice A0_3 l0_3.length c0_3, .slice A0_4 l0_4.length c0_4]] w fun e w' => e = .returned (.bool r) ∧ Below w.heap.size w w' := by
  have hu25 := Tryd.underlying25
  have HR0_3 := Aside0.mk hr0_3
  have HC0_3 := Aside0.mk hc0_3
  clear hr0_3 hc0_3
  have HR0_4 := Aside0.mk hr0_4
  have HC0_4 := Aside0.mk hc0_4
  clear hr0_4 hc0_4
  have HB := Aside0.mk (Below.refl w.heap.size w)
  have H : ((capnpref10_Few.f k a0_0 a0_1 a0_2 l0_3 l0_4).bind fun t149 => (if t149 = true then ((capnpref10_Valid.f k a0_0 a0_1 a0_2 l0_3 l0_4).bind fun t150 => (if t150 = true then ((capnpref11_Trimmed.f k a0_0 a0_1 a0_2 l0_3 l0_4).bind fun t151 => (some t151)) else (some false))) else (some false))) = some r := h
  clear h
  replace H := Option.bind_eq_some_iff.mp H
  obtain ⟨t149, A20, H⟩ := H
  replace H : (if t149 = true then ((capnpref10_Valid.f k a0_0 a0_1 a0_2 l0_3 l0_4).bind fun t150 => (if t150 = true then ((capnpref11_Trimmed.f k a0_0 a0_1 a0_2 l0_3 l0_4).bind fun t151 => (some t151)) else (some false))) else (some false)) = some r := H
  have A2 := Aside0.mk A20
  clear A20
  by_cases c3 : t149 = true
  · subst c3
    have H1 : ((capnpref10_Valid.f k a0_0 a0_1 a0_2 l0_3 l0_4).bind fun t150 => (if t150 = true then ((capnpref11_Trimmed.f k a0_0 a0_1 a0_2 l0_3 l0_4).bind fun t151 => (some t151)) else (some false))) = some r := by rw [if_pos rfl] at H; exact H
    clear H
    have H := H1
    clear H1
    replace H := Option.bind_eq_some_iff.mp H
    obtain ⟨t150, A40, H⟩ := H
    replace H : (if t150 = true then ((capnpref11_Trimmed.f k a0_0 a0_1 a0_2 l0_3 l0_4).bind fun t151 => (some t151)) else (some false)) = some r := H
    have A4 := Aside0.mk A40
    clear A40
    by_cases c5 : t150 = true
    · subst c5
      have H1 : ((capnpref11_Trimmed.f k a0_0 a0_1 a0_2 l0_3 l0_4).bind fun t151 => (some t151)) = some r := by rw [if_pos rfl] at H; exact H
      clear H
      have H := H1
      clear H1
      replace H := Option.bind_eq_some_iff.mp H
      obtain ⟨t151, A60, H⟩ := H
      replace H : (some t151) = some r := H
      have A6 := Aside0.mk A60
      clear A60
      obtain rfl := Option.some.inj H
      go_enter Tryd.func9, Tryd.ntmps9
      go_wp2_with (first | ((with_reducible refine gate_dst (N := 1) rfl ?_); refine box_event ?hg (N := 1) ?hd (cs := #[.int .i64 a0_0, .int .i64 a0_1, .int .i64 a0_2, .slice A0_3 l0_3.length c0_3, .slice A0_4 l0_4.length c0_4]) (t := 25) ?hr ?_; (case hd => rfl); (case hg => rfl); (case hr => first | (go_simp; done) | (go_simp; rfl)); intro gb148 hg w7 hbox hb; have n0_ := Aside0.mk (below_step (by repeat (first | (with_reducible first | exact HB.out | apply below_alloc | apply pw_below_drewN | apply below_drew1) | exact HB.out)) hb); have n1_ := Aside0.mk (hbox); have n2_ := Aside0.mk ((by rw [hg]; exact (below_size (by repeat (first | (with_reducible first | exact HB.out | apply below_alloc | apply pw_below_drewN | apply below_drew1) | exact HB.out))) : w.heap.size ≤ gb148)); have n3_ := Aside0.mk ((by rw [hg]; exact (below_size (by repeat (first | (with_reducible first | exact HB.out | apply below_alloc | apply pw_below_drewN | apply below_drew1) | exact HB.out))) : w.heap.size ≤ gb148)); clear HB; have HB := n0_; have BK148 := n1_; have GW148 := n2_; have GE148 := n3_; clear n0_ n1_ n2_ n3_; clear hb hbox hg; have hcz8_0 : w7.cell? ⟨gb148, 0, none⟩ = some (.int .i64 a0_0) := (blk_cell BK148.out 0).trans rfl; have hcz8_1 : w7.cell? ⟨gb148, 1, none⟩ = some (.int .i64 a0_1) := (blk_cell BK148.out 1).trans rfl; have hcz8_2 : w7.cell? ⟨gb148, 2, none⟩ = some (.int .i64 a0_2) := (blk_cell BK148.out 2).trans rfl; have hcz8_3 : w7.cell? ⟨gb148, 3, none⟩ = some (.slice A0_3 l0_3.length c0_3) := (blk_cell BK148.out 3).trans rfl; have hcz8_4 : w7.cell? ⟨gb148, 4, none⟩ = some (.slice A0_4 l0_4.length c0_4) := (blk_cell BK148.out 4).trans rfl; have hfz8_0 := blk_frozen BK148.out 0; have hfz8_1 := blk_frozen BK148.out 1; have hfz8_2 := blk_frozen BK148.out 2; have hfz8_3 := blk_frozen BK148.out 3; have hfz8_4 := blk_frozen BK148.out 4) | ((with_reducible refine gate_callee (f := 21) rfl ?_); refine goesL_ (some 4) rfl rfl Tryd.func21 (by kernel_rfl) rfl #[.agg #[.int .i64 a0_0, .int .i64 a0_1, .int .i64 a0_2, .slice A0_3 l0_3.length c0_3, .slice A0_4 l0_4.length c0_4]] rfl (by (try simp only [List.map_toArray, List.map_cons, List.map_nil]); first | done | rfl | (simp only [List.length_drop, List.length_take]; rfl)) ?_; (with_reducible refine (capnpref10_Few.calls k a0_0 a0_1 a0_2 _ _ l0_3 _ _ l0_4 true _ ?side1 ?side2 ?side3 ?side4 A2.out).mono ?_); (case side1 => repeat (first | exact (Kd.C_below HR0_3.out HB.out) | (with_reducible refine Kd.C_alloc ?_ _) | (with_reducible refine Kd.C_drewN ?_ _) | (with_reducible refine Kd.C_drew ?_))); (case side2 => exact HC0_3.out); (case side3 => repeat (first | exact (Kd.C_below HR0_4.out HB.out) | (with_reducible refine Kd.C_alloc ?_ _) | (with_reducible refine Kd.C_drewN ?_ _) | (with_reducible refine Kd.C_drew ?_))); (case side4 => exact HC0_4.out); rintro e w9 ⟨rfl, hb⟩; refine ⟨_, rfl, ?_⟩; have n0_ := Aside0.mk (blk_below (g := gb148) (o := .cells #[.int .i64 a0_0, .int .i64 a0_1, .int .i64 a0_2, .slice A0_3 l0_3.length c0_3, .slice A0_4 l0_4.length c0_4] 25 (0, 0)) (by (with_reducible repeat (first | refine blk_drewN ?_ _ | refine blk_drew ?_ | refine blk_alloc ?_ _)); exact BK148.out) hb); have n1_ := Aside0.mk (below_step (by repeat (first | (with_reducible first | exact HB.out | apply below_alloc | apply pw_below_drewN | apply below_drew1 | refine below_set ?_ GE148.out) | exact HB.out)) hb); clear BK148; clear HB; have BK148 := n0_; have HB := n1_; clear n0_ n1_; (try clear hb); (try clear hb2); (try clear hk); (try clear hi); have hcz10_0 : w9.cell? ⟨gb148, 0, none⟩ = some (.int .i64 a0_0) := (blk_cell BK148.out 0).trans rfl; have hcz10_1 : w9.cell? ⟨gb148, 1, none⟩ = some (.int .i64 a0_1) := (blk_cell BK148.out 1).trans rfl; have hcz10_2 : w9.cell? ⟨gb148, 2, none⟩ = some (.int .i64 a0_2) := (blk_cell BK148.out 2).trans rfl; have hcz10_3 : w9.cell? ⟨gb148, 3, none⟩ = some (.slice A0_3 l0_3.length c0_3) := (blk_cell BK148.out 3).trans rfl; have hcz10_4 : w9.cell? ⟨gb148, 4, none⟩ = some (.slice A0_4 l0_4.length c0_4) := (blk_cell BK148.out 4).trans rfl; have hfz10_0 := blk_frozen BK148.out 0; have hfz10_1 := blk_frozen BK148.out 1; have hfz10_2 := blk_frozen BK148.out 2; have hfz10_3 := blk_frozen BK148.out 3; have hfz10_4 := blk_frozen BK148.out 4) | (go_at_call 22; (with_reducible refine (capnpref10_Valid.calls k a0_0 a0_1 a0_2 _ _ l0_3 _ _ l0_4 true _ ?side1 ?side2 ?side3 ?side4 A4.out).mono ?_); (case side1 => repeat (first | exact (Kd.C_below HR0_3.out HB.out) | (with_reducible refine Kd.C_alloc ?_ _) | (with_reducible refine Kd.C_drewN ?_ _) | (with_reducible refine Kd.C_drew ?_))); (case side2 => exact HC0_3.out); (case side3 => repeat (first | exact (Kd.C_below HR0_4.out HB.out) | (with_reducible refine Kd.C_alloc ?_ _) | (with_reducible refine Kd.C_drewN ?_ _) | (with_reducible refine Kd.C_drew ?_))); (case side4 => exact HC0_4.out); rintro e w11 ⟨rfl, hb⟩; have n0_ := Aside0.mk (blk_below (g := gb148) (o := .cells #[.int .i64 a0_0, .int .i64 a0_1, .int .i64 a0_2, .slice A0_3 l0_3.length c0_3, .slice A0_4 l0_4.length c0_4] 25 (0, 0)) (by (with_reducible repeat (first | refine blk_drewN ?_ _ | refine blk_drew ?_ | refine blk_alloc ?_ _)); exact BK148.out) hb); have n1_ := Aside0.mk (below_step (by repeat (first | (with_reducible first | exact HB.out | apply below_alloc | apply pw_below_drewN | apply below_drew1 | refine below_set ?_ GE148.out) | exact HB.out)) hb); clear BK148; clear HB; have BK148 := n0_; have HB := n1_; clear n0_ n1_; (try clear hb); (try clear hb2); (try clear hk); (try clear hi); have hcz12_0 : w11.cell? ⟨gb148, 0, none⟩ = some (.int .i64 a0_0) := (blk_cell BK148.out 0).trans rfl; have hcz12_1 : w11.cell? ⟨gb148, 1, none⟩ = some (.int .i64 a0_1) := (blk_cell BK148.out 1).trans rfl; have hcz12_2 : w11.cell? ⟨gb148, 2, none⟩ = some (.int .i64 a0_2) := (blk_cell BK148.out 2).trans rfl; have hcz12_3 : w11.cell? ⟨gb148, 3, none⟩ = some (.slice A0_3 l0_3.length c0_3) := (blk_cell BK148.out 3).trans rfl; have hcz12_4 : w11.cell? ⟨gb148, 4, none⟩ = some (.slice A0_4 l0_4.length c0_4) := (blk_cell BK148.out 4).trans rfl; have hfz12_0 := blk_frozen BK148.out 0; have hfz12_1 := blk_frozen BK148.out 1; have hfz12_2 := blk_frozen BK148.out 2; have hfz12_3 := blk_frozen BK148.out 3; have hfz12_4 := blk_frozen BK148.out 4) | (go_at_call 23; (with_reducible refine (capnpref11_Trimmed.calls k a0_0 a0_1 a0_2 _ _ l0_3 _ _ l0_4 t151 _ ?side1 ?side2 ?side3 ?side4 A6.out).mono ?_); (case side1 => repeat (first | exact (Kd.C_below HR0_3.out HB.out) | (with_reducible refine Kd.C_alloc ?_ _) | (with_reducible refine Kd.C_drewN ?_ _) | (with_reducible refine Kd.C_drew ?_))); (case side2 => exact HC0_3.out); (case side3 => repeat (first | exact (Kd.C_below HR0_4.out HB.out) | (with_reducible refine Kd.C_alloc ?_ _) | (with_reducible refine Kd.C_drewN ?_ _) | (with_reducible refine Kd.C_drew ?_))); (case side4 => exact HC0_4.out); rintro e w13 ⟨rfl, hb⟩; have n0_ := Aside0.mk (blk_below (g := gb148) (o := .cells #[.int .i64 a0_0, .int .i64 a0_1, .int .i64 a0_2, .slice A0_3 l0_3.length c0_3, .slice A0_4 l0_4.length c0_4] 25 (0, 0)) (by (with_reducible repeat (first | refine blk_drewN ?_ _ | refine blk_drew ?_ | refine blk_alloc ?_ _)); exact BK148.out) hb); have n1_ := Aside0.mk (below_step (by repeat (first | (with_reducible first | exact HB.out | apply below_alloc | apply pw_below_drewN | apply below_drew1 | refine below_set ?_ GE148.out) | exact HB.out)) hb); clear BK148; clear HB; have BK148 := n0_; have HB := n1_; clear n0_ n1_; (try clear hb); (try clear hb2); (try clear hk); (try clear hi)))
      go_ret
      exact ⟨by first | rfl | (simp [errW_none, errW_some] <;> rfl) | (simp [*, errW_none, errW_some] <;> rfl), by repeat (first | (with_reducible first | exact HB.out | apply below_alloc | apply pw_below_drewN | apply below_drew1 | refine below_set ?_ GE148.out) | exact HB.out)⟩
    · replace c5 := Bool.eq_false_iff.mpr c5
      subst c5
      have H1 : (some false) = some r := by rw [if_neg (show ¬ (false = true) by decide)] at H; exact H
      clear H
      have H := H1
      clear H1
      obtain rfl := Option.some.inj H
      go_enter Tryd.func9, Tryd.ntmps9
      go_wp2_with (first | ((with_reducible refine gate_dst (N := 1) rfl ?_); refine box_event ?hg (N := 1) ?hd (cs := #[.int .i64 a0_0, .int .i64 a0_1, .int .i64 a0_2, .slice A0_3 l0_3.length c0_3, .slice A0_4 l0_4.length c0_4]) (t := 25) ?hr ?_; (case hd => rfl); (case hg => rfl); (case hr => first | (go_simp; done) | (go_simp; rfl)); intro gb148 hg w14 hbox hb; have n0_ := Aside0.mk (below_step (by repeat (first | (with_reducible first | exact HB.out | apply below_alloc | apply pw_below_drewN | apply below_drew1) | exact HB.out)) hb); have n1_ := Aside0.mk (hbox); have n2_ := Aside0.mk ((by rw [hg]; exact (below_size (by repeat (first | (with_reducible first | exact HB.out | apply below_alloc | apply pw_below_drewN | apply below_drew1) | exact HB.out))) : w.heap.size ≤ gb148)); have n3_ := Aside0.mk ((by rw [hg]; exact (below_size (by repeat (first | (with_reducible first | exact HB.out | apply below_alloc | apply pw_below_drewN | apply below_drew1) | exact HB.out))) : w.heap.size ≤ gb148)); clear HB; have HB := n0_; have BK148 := n1_; have GW148 := n2_; have GE148 := n3_; clear n0_ n1_ n2_ n3_; clear hb hbox hg; have hcz15_0 : w14.cell? ⟨gb148, 0, none⟩ = some (.int .i64 a0_0) := (blk_cell BK148.out 0).trans rfl; have hcz15_1 : w14.cell? ⟨gb148, 1, none⟩ = some (.int .i64 a0_1) := (blk_cell BK148.out 1).trans rfl; have hcz15_2 : w14.cell? ⟨gb148, 2, none⟩ = some (.int .i64 a0_2) := (blk_cell BK148.out 2).trans rfl; have hcz15_3 : w14.cell? ⟨gb148, 3, none⟩ = some (.slice A0_3 l0_3.length c0_3) := (blk_cell BK148.out 3).trans rfl; have hcz15_4 : w14.cell? ⟨gb148, 4, none⟩ = some (.slice A0_4 l0_4.length c0_4) := (blk_cell BK148.out 4).trans rfl; have hfz15_0 := blk_frozen BK148.out 0; have hfz15_1 := blk_frozen BK148.out 1; have hfz15_2 := blk_frozen BK148.out 2; have hfz15_3 := blk_frozen BK148.out 3; have hfz15_4 := blk_frozen BK148.out 4) | ((with_reducible refine gate_callee (f := 21) rfl ?_); refine goesL_ (some 4) rfl rfl Tryd.func21 (by kernel_rfl) rfl #[.agg #[.int .i64 a0_0, .int .i64 a0_1, .int .i64 a0_2, .slice A0_3 l0_3.length c0_3, .slice A0_4 l0_4.length c0_4]] rfl (by (try simp only [List.map_toArray, List.map_cons, List.map_nil]); first | done | rfl | (simp only [List.length_drop, List.length_take]; rfl)) ?_; (with_reducible refine (capnpref10_Few.calls k a0_0 a0_1 a0_2 _ _ l0_3 _ _ l0_4 true _ ?side1 ?side2 ?side3 ?side4 A2.out).mono ?_); (case side1 => repeat (first | exact (Kd.C_below HR0_3.out HB.out) | (with_reducible refine Kd.C_alloc ?_ _) | (with_reducible refine Kd.C_drewN ?_ _) | (with_reducible refine Kd.C_drew ?_))); (case side2 => exact HC0_3.out); (case side3 => repeat (first | exact (Kd.C_below HR0_4.out HB.out) | (with_reducible refine Kd.C_alloc ?_ _) | (with_reducible refine Kd.C_drewN ?_ _) | (with_reducible refine Kd.C_drew ?_))); (case side4 => exact HC0_4.out); rintro e w16 ⟨rfl, hb⟩; refine ⟨_, rfl, ?_⟩; have n0_ := Aside0.mk (blk_below (g := gb148) (o := .cells #[.int .i64 a0_0, .int .i64 a0_1, .int .i64 a0_2, .slice A0_3 l0_3.length c0_3, .slice A0_4 l0_4.length c0_4] 25 (0, 0)) (by (with_reducible repeat (first | refine blk_drewN ?_ _ | refine blk_drew ?_ | refine blk_alloc ?_ _)); exact BK148.out) hb); have n1_ := Aside0.mk (below_step (by repeat (first | (with_reducible first | exact HB.out | apply below_alloc | apply pw_below_drewN | apply below_drew1 | refine below_set ?_ GE148.out) | exact HB.out)) hb); clear BK148; clear HB; have BK148 := n0_; have HB := n1_; clear n0_ n1_; (try clear hb); (try clear hb2); (try clear hk); (try clear hi); have hcz17_0 : w16.cell? ⟨gb148, 0, none⟩ = some (.int .i64 a0_0) := (blk_cell BK148.out 0).trans rfl; have hcz17_1 : w16.cell? ⟨gb148, 1, none⟩ = some (.int .i64 a0_1) := (blk_cell BK148.out 1).trans rfl; have hcz17_2 : w16.cell? ⟨gb148, 2, none⟩ = some (.int .i64 a0_2) := (blk_cell BK148.out 2).trans rfl; have hcz17_3 : w16.cell? ⟨gb148, 3, none⟩ = some (.slice A0_3 l0_3.length c0_3) := (blk_cell BK148.out 3).trans rfl; have hcz17_4 : w16.cell? ⟨gb148, 4, none⟩ = some (.slice A0_4 l0_4.length c0_4) := (blk_cell BK148.out 4).trans rfl; have hfz17_0 := blk_frozen BK148.out 0; have hfz17_1 := blk_frozen BK148.out 1; have hfz17_2 := blk_frozen BK148.out 2; have hfz17_3 := blk_frozen BK148.out 3; have hfz17_4 := blk_frozen BK148.out 4) | (go_at_call 22; (with_reducible refine (capnpref10_Valid.calls k a0_0 a0_1 a0_2 _ _ l0_3 _ _ l0_4 false _ ?side1 ?side2 ?side3 ?side4 A4.out).mono ?_); (case side1 => repeat (first | exact (Kd.C_below HR0_3.out HB.out) | (with_reducible refine Kd.C_alloc ?_ _) | (with_reducible refine Kd.C_drewN ?_ _) | (with_reducible refine Kd.C_drew ?_))); (case side2 => exact HC0_3.out); (case side3 => repeat (first | exact (Kd.C_below HR0_4.out HB.out) | (with_reducible refine Kd.C_alloc ?_ _) | (with_reducible refine Kd.C_drewN ?_ _) | (with_reducible refine Kd.C_drew ?_))); (case side4 => exact HC0_4.out); rintro e w18 ⟨rfl, hb⟩; have n0_ := Aside0.mk (blk_below (g := gb148) (o := .cells #[.int .i64 a0_0, .int .i64 a0_1, .int .i64 a0_2, .slice A0_3 l0_3.length c0_3, .slice A0_4 l0_4.length c0_4] 25 (0, 0)) (by (with_reducible repeat (first | refine blk_drewN ?_ _ | refine blk_drew ?_ | refine blk_alloc ?_ _)); exact BK148.out) hb); have n1_ := Aside0.mk (below_step (by repeat (first | (with_reducible first | exact HB.out | apply below_alloc | apply pw_below_drewN | apply below_drew1 | refine below_set ?_ GE148.out) | exact HB.out)) hb); clear BK148; clear HB; have BK148 := n0_; have HB := n1_; clear n0_ n1_; (try clear hb); (try clear hb2); (try clear hk); (try clear hi)))
      go_ret
      exact ⟨by first | rfl | (simp [errW_none, errW_some] <;> rfl) | (simp [*, errW_none, errW_some] <;> rfl), by repeat (first | (with_reducible first | exact HB.out | apply below_alloc | apply pw_below_drewN | apply below_drew1 | refine below_set ?_ GE148.out) | exact HB.out)⟩
  · replace c3 := Bool.eq_false_iff.mpr c3
    subst c3
    have H1 : (some false) = some r := by rw [if_neg (show ¬ (false = true) by decide)] at H; exact H
    clear H
    have H := H1
    clear H1
    obtain rfl := Option.some.inj H
    go_enter Tryd.func9, Tryd.ntmps9
    go_wp2_with (first | ((with_reducible refine gate_dst (N := 1) rfl ?_); refine box_event ?hg (N := 1) ?hd (cs := #[.int .i64 a0_0, .int .i64 a0_1, .int .i64 a0_2, .slice A0_3 l0_3.length c0_3, .slice A0_4 l0_4.length c0_4]) (t := 25) ?hr ?_; (case hd => rfl); (case hg => rfl); (case hr => first | (go_simp; done) | (go_simp; rfl)); intro gb148 hg w19 hbox hb; have n0_ := Aside0.mk (below_step (by repeat (first | (with_reducible first | exact HB.out | apply below_alloc | apply pw_below_drewN | apply below_drew1) | exact HB.out)) hb); have n1_ := Aside0.mk (hbox); have n2_ := Aside0.mk ((by rw [hg]; exact (below_size (by repeat (first | (with_reducible first | exact HB.out | apply below_alloc | apply pw_below_drewN | apply below_drew1) | exact HB.out))) : w.heap.size ≤ gb148)); have n3_ := Aside0.mk ((by rw [hg]; exact (below_size (by repeat (first | (with_reducible first | exact HB.out | apply below_alloc | apply pw_below_drewN | apply below_drew1) | exact HB.out))) : w.heap.size ≤ gb148)); clear HB; have HB := n0_; have BK148 := n1_; have GW148 := n2_; have GE148 := n3_; clear n0_ n1_ n2_ n3_; clear hb hbox hg; have hcz20_0 : w19.cell? ⟨gb148, 0, none⟩ = some (.int .i64 a0_0) := (blk_cell BK148.out 0).trans rfl; have hcz20_1 : w19.cell? ⟨gb148, 1, none⟩ = some (.int .i64 a0_1) := (blk_cell BK148.out 1).trans rfl; have hcz20_2 : w19.cell? ⟨gb148, 2, none⟩ = some (.int .i64 a0_2) := (blk_cell BK148.out 2).trans rfl; have hcz20_3 : w19.cell? ⟨gb148, 3, none⟩ = some (.slice A0_3 l0_3.length c0_3) := (blk_cell BK148.out 3).trans rfl; have hcz20_4 : w19.cell? ⟨gb148, 4, none⟩ = some (.slice A0_4 l0_4.length c0_4) := (blk_cell BK148.out 4).trans rfl; have hfz20_0 := blk_frozen BK148.out 0; have hfz20_1 := blk_frozen BK148.out 1; have hfz20_2 := blk_frozen BK148.out 2; have hfz20_3 := blk_frozen BK148.out 3; have hfz20_4 := blk_frozen BK148.out 4) | ((with_reducible refine gate_callee (f := 21) rfl ?_); refine goesL_ (some 4) rfl rfl Tryd.func21 (by kernel_rfl) rfl #[.agg #[.int .i64 a0_0, .int .i64 a0_1, .int .i64 a0_2, .slice A0_3 l0_3.length c0_3, .slice A0_4 l0_4.length c0_4]] rfl (by (try simp only [List.map_toArray, List.map_cons, List.map_nil]); first | done | rfl | (simp only [List.length_drop, List.length_take]; rfl)) ?_; (with_reducible refine (capnpref10_Few.calls k a0_0 a0_1 a0_2 _ _ l0_3 _ _ l0_4 false _ ?side1 ?side2 ?side3 ?side4 A2.out).mono ?_); (case side1 => repeat (first | exact (Kd.C_below HR0_3.out HB.out) | (with_reducible refine Kd.C_alloc ?_ _) | (with_reducible refine Kd.C_drewN ?_ _) | (with_reducible refine Kd.C_drew ?_))); (case side2 => exact HC0_3.out); (case side3 => repeat (first | exact (Kd.C_below HR0_4.out HB.out) | (with_reducible refine Kd.C_alloc ?_ _) | (with_reducible refine Kd.C_drewN ?_ _) | (with_reducible refine Kd.C_drew ?_))); (case side4 => exact HC0_4.out); rintro e w21 ⟨rfl, hb⟩; refine ⟨_, rfl, ?_⟩; have n0_ := Aside0.mk (blk_below (g := gb148) (o := .cells #[.int .i64 a0_0, .int .i64 a0_1, .int .i64 a0_2, .slice A0_3 l0_3.length c0_3, .slice A0_4 l0_4.length c0_4] 25 (0, 0)) (by (with_reducible repeat (first | refine blk_drewN ?_ _ | refine blk_drew ?_ | refine blk_alloc ?_ _)); exact BK148.out) hb); have n1_ := Aside0.mk (below_step (by repeat (first | (with_reducible first | exact HB.out | apply below_alloc | apply pw_below_drewN | apply below_drew1 | refine below_set ?_ GE148.out) | exact HB.out)) hb); clear BK148; clear HB; have BK148 := n0_; have HB := n1_; clear n0_ n1_; (try clear hb); (try clear hb2); (try clear hk); (try clear hi)))
    go_ret
    exact ⟨by first | rfl | (simp [errW_none, errW_some] <;> rfl) | (simp [*, errW_none, errW_some] <;> rfl), by repeat (first | (with_reducible first | exact HB.out | apply below_alloc | apply pw_below_drewN | apply below_drew1 | refine below_set ?_ GE148.out) | exact HB.out)⟩

end Go.Proofs.YtkiompgbmjoflaaDoor.P

set_option linter.unusedVariables false
set_option linter.unusedSimpArgs false
namespace Go.Proofs.YtkiompgbmjoflaaDoor.P
open Go.RowKit Go.Proofs.YtkiompgbmjoflaaDoorW.PrintWords Go.Proofs.YtkiompgbmjoflaaDoorW.PrintLast Go.Proofs.YtkiompgbmjoflaaDoorW.PrintMore
mutual
/-- Bytes are bytes, everywhere. -/
def good : Nd → Prop
  | ⟨_, _, _, d, ks⟩ => (∀ x ∈ d, 0 ≤ x ∧ x ≤ 255) ∧ goods ks
def goods : List Nd → Prop
  | [] => True
  | x :: xs => good x ∧ goods xs
end
theorem good_eq (n : Nd) : good n ↔ (∀ x ∈ n.f3, 0 ≤ x ∧ x ≤ 255) ∧ goods n.f4 := by cases n; rw [good]
theorem goods_mem {x : Nd} {l : List Nd} (h : goods l) (hx : x ∈ l) : good x := by
  induction l with
  | nil => cases hx
  | cons y l ih =>
    rw [goods] at h
    rcases List.mem_cons.1 hx with rfl | hx
    · exact h.1
    · exact ih h.2 hx
theorem goods_of {l : List Nd} (h : ∀ x ∈ l, good x) : goods l := by
  induction l with
  | nil => rw [goods]; trivial
  | cons y l ih => rw [goods]; exact ⟨h _ List.mem_cons_self, ih fun x hx => h x (List.mem_cons_of_mem _ hx)⟩
/-- What is asked of a node itself. -/
def vtop (n : Nd) : Bool :=
  if n.f0 = 0 then decide (n.f1 = 0 ∧ n.f2 = 0 ∧ n.f3 = [] ∧ n.f4 = [])
  else if n.f0 = 1 then decide (n.f1 = 0 ∧ n.f2 = 0 ∧ n.f3.length % 8 = 0 ∧ n.f3.length ≤ 524280 ∧ n.f4.length ≤ 65535)
  else if n.f0 = 2 then (if n.f2 < 0 ∨ n.f2 > 536870911 ∨ n.f1 < 0 ∨ n.f1 > 7 then false
    else if n.f1 ≥ 6 then decide (n.f3 = [] ∧ (n.f4.length : Int) = n.f2) else decide (n.f4 = [] ∧ (n.f3.length : Int) = nbytes n.f1 n.f2 ∧ trimB n.f1 n.f2 n.f3 = n.f3))
  else false
mutual
def vld : Nd → Bool
  | ⟨a, b, c, d, ks⟩ => vlds (a == 2 && b == 7) ks && vtop ⟨a, b, c, d, ks⟩
def vlds : Bool → List Nd → Bool
  | _, [] => true
  | c, x :: xs => (vld x && (!c || x.f0 == 1)) && vlds c xs
end
theorem vld_eq (n : Nd) : vld n = (vlds (n.f0 == 2 && n.f1 == 7) n.f4 && vtop n) := by cases n; rw [vld]
theorem vlds_cons (c : Bool) (x : Nd) (l : List Nd) : vlds c (x :: l) = ((vld x && (!c || x.f0 == 1)) && vlds c l) := by rw [vlds]
theorem vlds_mem {c : Bool} {l : List Nd} (h : vlds c l = true) {x : Nd} (hx : x ∈ l) : vld x = true ∧ (c = true → x.f0 = 1) := by
  induction l with
  | nil => cases hx
  | cons y l ih =>
    rw [vlds_cons, Bool.and_eq_true, Bool.and_eq_true] at h
    rcases List.mem_cons.1 hx with rfl | hx
    · refine ⟨h.1.1, fun hc => ?_⟩
      have := h.1.2
      rw [hc] at this
      simpa using this
    · exact ih h.2 hx
theorem nil_len {α : Type} (l : List α) : l = [] ↔ (l.length : Int) = 0 := by
  rw [← List.length_eq_zero_iff]; omega
theorem vtop_has (n : Nd) (hb : Big n) (hg : good n) : Has (fun k => capnpref10_Valid.l0 k (n.f4.length : Int) n.f0 n.f1 n.f2 n.f3 n.f4) (vtop n) := by
  have hk := hb.kids
  have hd := hb.data
  refine Has.step (fun k => by rw [capnpref10_Valid.l0]) (Has.neg (by omega) ?_)
  unfold vtop
  by_cases h0 : n.f0 = 0
  · refine Has.pos h0 ?_
    rw [if_pos h0]
    by_cases h1 : n.f1 = 0
    case neg =>
      exact Has.neg h1 ((Has.some_ _).eq (by rw [decide_eq_false]; simp [h1]))
    refine Has.pos h1 ?_
    by_cases h2 : n.f2 = 0
    case neg =>
      exact Has.neg h2 ((Has.some_ _).eq (by rw [decide_eq_false]; simp [h2]))
    refine Has.pos h2 ?_
    by_cases h3 : n.f3 = []
    case neg =>
      exact Has.neg (by rw [← nil_len]; exact h3) ((Has.some_ _).eq (by rw [decide_eq_false]; simp [h3]))
    refine Has.pos ((nil_len _).1 h3) ((Has.some_ _).eq ?_)
    rw [Bool.eq_iff_iff, beq_iff_eq, decide_eq_true_iff, ← nil_len]
    simp [h1, h2, h3]
  refine Has.neg h0 ?_
  rw [if_neg h0]
  by_cases h1 : n.f0 = 1
  · refine Has.pos h1 ?_
    rw [if_pos h1]
    by_cases h1 : n.f1 = 0
    case neg =>
      exact Has.neg h1 ((Has.some_ _).eq (by rw [decide_eq_false]; simp [h1]))
    refine Has.pos h1 ?_
    by_cases h2 : n.f2 = 0
    case neg =>
      exact Has.neg h2 ((Has.some_ _).eq (by rw [decide_eq_false]; simp [h2]))
    refine Has.pos h2 ?_
    by_cases h3 : n.f3.length % 8 = 0
    case neg =>
      exact Has.neg (by omega) ((Has.some_ _).eq (by rw [decide_eq_false]; simp [h3]))
    refine Has.pos (by omega) ?_
    by_cases h4 : n.f3.length ≤ 524280
    case neg =>
      exact Has.neg (by omega) ((Has.some_ _).eq (by rw [decide_eq_false]; simp [h4]))
    refine Has.pos (by omega) ((Has.some_ _).eq ?_)
    rw [decide_eq_decide]
    simp [h1, h2, h3, h4]
    omega
  refine Has.neg h1 ?_
  rw [if_neg h1]
  by_cases h2 : n.f0 = 2
  case neg =>
    refine Has.neg h2 ?_
    rw [if_neg h2]
    exact Has.some_ _
  refine Has.pos h2 ?_
  rw [if_pos h2]
  have bad : Has (fun k => capnpref10_Valid.j1 k true n.f0 n.f1 n.f2 n.f3 n.f4) false := Has.step (fun k => by rw [capnpref10_Valid.j1]) (Has.pos rfl (Has.some_ _))
  by_cases g1 : n.f2 < 0
  · refine Has.pos g1 ?_
    rw [if_pos (by omega)]
    exact bad
  refine Has.neg g1 ?_
  by_cases g2 : n.f2 > 536870911
  · refine Has.pos g2 ?_
    rw [if_pos (by omega)]
    exact bad
  refine Has.neg g2 ?_
  by_cases g3 : n.f1 < 0
  · refine Has.pos g3 ?_
    rw [if_pos (by omega)]
    exact bad
  refine Has.neg g3 ?_
  by_cases g4 : n.f1 > 7
  · rw [if_pos (by omega), decide_eq_true g4]
    exact bad
  rw [if_neg (by omega), decide_eq_false g4]
  refine Has.step (fun k => by rw [capnpref10_Valid.j1]) (Has.neg (by simp) ?_)
  by_cases h6 : n.f1 ≥ 6
  · refine Has.pos h6 ?_
    rw [if_pos h6]
    by_cases h3 : n.f3 = []
    case neg =>
      exact Has.neg (by rw [← nil_len]; exact h3) ((Has.some_ _).eq (by rw [decide_eq_false]; simp [h3]))
    refine Has.pos ((nil_len _).1 h3) ((Has.some_ _).eq ?_)
    rw [Bool.eq_iff_iff, beq_iff_eq, decide_eq_true_iff]
    simp [h3]
  refine Has.neg h6 ?_
  rw [if_neg h6]
  by_cases h4 : n.f4 = []
  case neg =>
    refine Has.neg (by rw [← nil_len]; exact h4) (Has.step (fun k => by rw [capnpref10_Valid.j2]) (Has.pos rfl ((Has.some_ _).eq ?_)))
    rw [decide_eq_false]
    simp [h4]
  refine Has.pos ((nil_len _).1 h4) ?_
  rw [rBytes_eq (by omega)]
  simp only [Option.bind_some]
  by_cases h5 : (n.f3.length : Int) = nbytes n.f1 n.f2
  case neg =>
    refine Has.step (fun k => by rw [capnpref10_Valid.j2]) (Has.pos (by simp [h5]) ((Has.some_ _).eq ?_))
    rw [decide_eq_false]
    simp [h5]
  refine Has.step (fun k => by rw [capnpref10_Valid.j2]) (Has.neg (by simp [h5]) ?_)
  refine Has.bind (rTrim_has (by omega) (by omega) ((good_eq n).1 hg).1) (Has.bind (rSame_has _ _ (by rw [trimB_length]; omega)) ((Has.some_ _).eq ?_))
  rw [decide_eq_decide]
  simp [h4, h5]
theorem Valid_has (n : Nd) : Big n → good n → Has (fun k => capnpref10_Valid.f k n.f0 n.f1 n.f2 n.f3 n.f4) (vld n) := by
  induction n using Nd.ind with
  | _ n ih =>
  intro hb hg
  have hk := hb.kids
  have key : ∀ (d i : Nat), i + d = n.f4.length → Has (fun k => capnpref10_Valid.l0 k (i : Int) n.f0 n.f1 n.f2 n.f3 n.f4) (vlds (n.f0 == 2 && n.f1 == 7) (n.f4.drop i) && vtop n) := by
    intro d
    induction d with
    | zero =>
      intro i hi
      obtain rfl : i = n.f4.length := by omega
      rw [List.drop_length, vlds, Bool.true_and]
      exact vtop_has n hb hg
    | succ d ihd =>
      intro i hi
      have hlt : i < n.f4.length := by omega
      have hm := List.getElem_mem hlt
      rw [List.drop_eq_getElem_cons hlt, vlds_cons]
      refine Has.step (fun k => by rw [capnpref10_Valid.l0]) (Has.pos (by omega) (Has.pos (by omega) ?_))
      simp only [rd_T25_at hlt]
      refine Has.bind (ih _ hm (hb.mem hm) (goods_mem ((good_eq n).1 hg).2 hm)) ?_
      rw [w64s i (by omega)]
      cases hv : vld n.f4[i]
      · exact Has.neg (by simp) ((Has.some_ _).eq (by simp))
      refine Has.pos rfl ?_
      have nx := ihd (i + 1) (by omega)
      by_cases h2 : n.f0 = 2
      · refine Has.pos h2 ?_
        by_cases h7 : n.f1 = 7
        · refine Has.pos h7 ?_
          by_cases h1 : n.f4[i].f0 = 1
          · exact Has.pos h1 (nx.eq (by simp only [h1, beq_self_eq_true, Bool.or_true, Bool.true_and]))
          · exact Has.neg h1 ((Has.some_ _).eq (by simp [h1, h2, h7]))
        · exact Has.neg h7 (nx.eq (by rw [show (n.f1 == 7) = false by simpa using h7]; simp only [Bool.and_false, Bool.not_false, Bool.true_or, Bool.true_and]))
      · exact Has.neg h2 (nx.eq (by rw [show (n.f0 == 2) = false by simpa using h2]; simp only [Bool.false_and, Bool.not_false, Bool.true_or, Bool.true_and]))
  refine Has.step (fun k => by rw [capnpref10_Valid.f]) ?_
  rw [vld_eq]
  exact (key n.f4.length 0 (by omega)).eq (by rw [List.drop_zero])
/-- Words up to the last byte that is not 0; nodes up to the last that is not null. -/
def wlen : Nat → List Int → Nat → Nat
  | _, [], a => a
  | i, x :: xs, a => wlen (i + 1) xs (if x = 0 then a else i / 8 + 1)
def plen : Nat → List Nd → Nat → Nat
  | _, [], a => a
  | i, x :: xs, a => plen (i + 1) xs (if x.f0 = 0 then a else i + 1)
theorem wlen_le : ∀ (l : List Int) (i a : Nat), a ≤ i → wlen i l a ≤ i + l.length
  | [], i, a, h => by rw [wlen]; simpa using h
  | x :: xs, i, a, h => by
    rw [wlen, List.length_cons]
    have := wlen_le xs (i + 1) (if x = 0 then a else i / 8 + 1) (by split <;> omega)
    omega
theorem plen_le : ∀ (l : List Nd) (i a : Nat), a ≤ i → plen i l a ≤ i + l.length
  | [], i, a, h => by rw [plen]; simpa using h
  | x :: xs, i, a, h => by
    rw [plen, List.length_cons]
    have := plen_le xs (i + 1) (if x.f0 = 0 then a else i + 1) (by split <;> omega)
    omega
theorem rWordsT_has (l : List Int) (hl : l.length ≤ 1048576) : Has (fun k => capnpref11_Words.f k l) (wlen 0 l 0 : Int) := by
  have key : ∀ (d i a : Nat), i + d = l.length → a ≤ i → Has (fun k => capnpref11_Words.l0 k l (a : Int) (i : Int)) (wlen i (l.drop i) a : Int) := by
    intro d
    induction d with
    | zero =>
      intro i a hi _
      obtain rfl : i = l.length := by omega
      refine Has.step (fun k => by rw [capnpref11_Words.l0]) (Has.neg (by omega) ?_)
      rw [List.drop_length, wlen]
      exact Has.some_ _
    | succ d ih =>
      intro i a hi ha
      have hlt : i < l.length := by omega
      rw [List.drop_eq_getElem_cons hlt, wlen]
      refine Has.step (fun k => by rw [capnpref11_Words.l0]) (Has.pos (by omega) (Has.pos (by omega) ?_))
      simp only [rd_at hlt]
      rw [w64s i (by omega)]
      by_cases h : l[i] = 0
      · refine Has.pos h ?_
        rw [if_pos h]
        exact ih (i + 1) a (by omega) (by omega)
      · refine Has.neg h ?_
        rw [if_neg h, Int.tdiv_eq_ediv_of_nonneg (by omega), w64 (x := (i : Int) / 8) (by omega), show (i : Int) / 8 = ((i / 8 : Nat) : Int) by push_cast; rfl, w64s (i / 8) (by omega)]
        exact ih (i + 1) (i / 8 + 1) (by omega) (by omega)
  simp only [capnpref11_Words.f]
  exact (key l.length 0 0 (by omega) (by omega)).eq (by rw [List.drop_zero])
theorem rPointersT_has (l : List Nd) (hl : l.length ≤ 1048576) : Has (fun k => capnpref11_Pointers.f k l) (plen 0 l 0 : Int) := by
  have key : ∀ (d i a : Nat), i + d = l.length → a ≤ i → Has (fun k => capnpref11_Pointers.l0 k l (a : Int) (i : Int)) (plen i (l.drop i) a : Int) := by
    intro d
    induction d with
    | zero =>
      intro i a hi _
      obtain rfl : i = l.length := by omega
      refine Has.step (fun k => by rw [capnpref11_Pointers.l0]) (Has.neg (by omega) ?_)
      rw [List.drop_length, plen]
      exact Has.some_ _
    | succ d ih =>
      intro i a hi ha
      have hlt : i < l.length := by omega
      rw [List.drop_eq_getElem_cons hlt, plen]
      refine Has.step (fun k => by rw [capnpref11_Pointers.l0]) (Has.pos (by omega) (Has.pos (by omega) ?_))
      simp only [rd_T25_at hlt]
      rw [w64s i (by omega)]
      by_cases h : l[i].f0 = 0
      · refine Has.pos h ?_
        rw [if_pos h]
        exact ih (i + 1) a (by omega) (by omega)
      · refine Has.neg h ?_
        rw [if_neg h]
        exact ih (i + 1) (i + 1) (by omega) (by omega)
  simp only [capnpref11_Pointers.f]
  exact (key l.length 0 0 (by omega) (by omega)).eq (by rw [List.drop_zero])
mutual
def trm : Nd → Bool
  | ⟨a, _, _, d, ks⟩ => (a != 1 || (8 * wlen 0 d 0 == d.length && plen 0 ks 0 == ks.length)) && trms ks
def trms : List Nd → Bool
  | [] => true
  | x :: xs => trm x && trms xs
end
theorem trm_eq (n : Nd) : trm n = ((n.f0 != 1 || (8 * wlen 0 n.f3 0 == n.f3.length && plen 0 n.f4 0 == n.f4.length)) && trms n.f4) := by cases n; rw [trm]
theorem Trimmed_has (n : Nd) : Big n → Has (fun k => capnpref11_Trimmed.f k n.f0 n.f1 n.f2 n.f3 n.f4) (trm n) := by
  induction n using Nd.ind with
  | _ n ih =>
  intro hb
  have hk := hb.kids
  have hd := hb.data
  have key : ∀ (d i : Nat), i + d = n.f4.length → Has (fun k => capnpref11_Trimmed.l0 k (i : Int) n.f0 n.f1 n.f2 n.f3 n.f4) (trms (n.f4.drop i)) := by
    intro d
    induction d with
    | zero =>
      intro i hi
      obtain rfl : i = n.f4.length := by omega
      refine Has.step (fun k => by rw [capnpref11_Trimmed.l0]) (Has.neg (by omega) ?_)
      rw [List.drop_length, trms]
      exact Has.some_ _
    | succ d ihd =>
      intro i hi
      have hlt : i < n.f4.length := by omega
      have hm := List.getElem_mem hlt
      rw [List.drop_eq_getElem_cons hlt, trms]
      refine Has.step (fun k => by rw [capnpref11_Trimmed.l0]) (Has.pos (by omega) (Has.pos (by omega) ?_))
      simp only [rd_T25_at hlt]
      refine Has.bind (ih _ hm (hb.mem hm)) ?_
      rw [w64s i (by omega)]
      cases hv : trm n.f4[i]
      · exact Has.neg (by simp) ((Has.some_ _).eq (by simp))
      exact Has.pos rfl ((ihd (i + 1) (by omega)).eq (by simp))
  have h0 := key n.f4.length 0 (by omega)
  rw [List.drop_zero] at h0
  have yes : ∀ b, b = true → Has (fun k => capnpref11_Trimmed.j0 k b n.f0 n.f1 n.f2 n.f3 n.f4) false := fun b e => by
    subst e
    exact Has.step (fun k => by rw [capnpref11_Trimmed.j0]) (Has.pos rfl (Has.some_ _))
  have no : ∀ b, b = false → Has (fun k => capnpref11_Trimmed.j0 k b n.f0 n.f1 n.f2 n.f3 n.f4) (trms n.f4) := fun b e => by
    subst e
    refine Has.step (fun k => by rw [capnpref11_Trimmed.j0]) ?_
    exact Has.neg (by simp) h0
  refine Has.step (fun k => by rw [capnpref11_Trimmed.f]) ?_
  rw [trm_eq]
  by_cases h1 : n.f0 = 1
  · refine Has.pos h1 (Has.bind (rWordsT_has _ hd) ?_)
    have hw := wlen_le n.f3 0 0 (Nat.le_refl _)
    rw [w64 (by omega)]
    by_cases h8 : 8 * wlen 0 n.f3 0 = n.f3.length
    · refine Has.pos (by omega) (Has.bind (rPointersT_has _ hk) ?_)
      by_cases hp : plen 0 n.f4 0 = n.f4.length
      · exact (no _ (by simp [hp])).eq (by simp [h1, h8, hp])
      · exact (yes _ (by simp; omega)).eq (by simp [h1, h8, hp])
    · exact Has.neg (by omega) ((yes _ rfl).eq (by simp [h1, h8]))
  · exact Has.neg h1 ((no _ rfl).eq (by simp [h1]))
def right (n : Nd) : Bool := few n && (vld n && trm n)
theorem Right_has (n : Nd) (hb : Big n) (hg : good n) : Has (fun k => capnpref13_Right.f k n.f0 n.f1 n.f2 n.f3 n.f4) (right n) := by
  simp only [capnpref13_Right.f]
  unfold right
  refine Has.bind (Few_has n hb) ?_
  cases few n
  · exact Has.neg (by simp) (Has.some_ _)
  refine Has.pos rfl (Has.bind (Valid_has n hb hg) ?_)
  cases vld n
  · exact Has.neg (by simp) (Has.some_ _)
  exact Has.pos rfl (Has.bind (Trimmed_has n hb) (Has.some_ _))
end Go.Proofs.YtkiompgbmjoflaaDoor.P

namespace Go.Proofs.YtkiompgbmjoflaaDoor.P
open Go.RowKit Go.Proofs.YtkiompgbmjoflaaDoorW.PrintWords Go.Proofs.YtkiompgbmjoflaaDoorW.PrintLast Go.Proofs.YtkiompgbmjoflaaDoorW.PrintMore
attribute [local go_sem] max2_int min2_int max_two min_two max_three min_three max_four min_four   -- for this text's walks alone
set_option linter.unusedVariables false
set_option linter.unusedSimpArgs false

variable {gb : Bool}
/-! ### trim_Uniform: function 24 -/
def trim_Uniform.l0 : Nat → Int → Int → List (S25) → Int → Int → Option (Int × Int)
  | 0, _, _, _, _, _ => none
  | k + 1, x4, x5, x9, x10, x11 => if x11 < x10 then (if 0 ≤ x11 then (if x11 < (x9.length : Int) then (trim_Uniform.l0 k (mx x4 (wrap64 ((((rd_T25 x9 x11).f3).length : Int) / 8))) (mx x5 (((rd_T25 x9 x11).f4).length : Int)) x9 x10 (wrap64 (x11 + 1))) else (none)) else (none)) else (some (x4, x5))
def trim_Uniform.f (k : Nat) (a0_0 : Int) (a0_1 : Int) (a0_2 : Int) (l0_3 : List Int) (l0_4 : List (S25)) : Option (Int × Int) := trim_Uniform.l0 k 0 0 l0_4 (l0_4.length : Int) 0
theorem trim_Uniform.mono_l : ∀ k, (∀ y0 y1 y2 y3 y4, LeO (trim_Uniform.l0 k y0 y1 y2 y3 y4) (trim_Uniform.l0 (k + 1) y0 y1 y2 y3 y4))
  | 0 => fun _ _ _ _ _ r h => by simp [trim_Uniform.l0] at h
  | k + 1 => by
    have ih0 := trim_Uniform.mono_l k
    · intro y0 y1 y2 y3 y4
      unfold trim_Uniform.l0
      repeat' first
      | (with_reducible exact ih0 _ _ _ _ _)
      | (with_reducible exact LeO.refl _)
      | (with_reducible exact LeO.none _)
      | (with_reducible refine LeO.ite ?_ ?_)
      | (with_reducible refine LeO.bind ?_ (fun _ => ?_))
      | exact ih0 _ _ _ _ _
      | exact LeO.none _
      | refine LeO.ite ?_ ?_
      | refine LeO.bind ?_ (fun _ => ?_)
theorem trim_Uniform.mono : ∀ a0 a1 a2 a3 a4 k, LeO (trim_Uniform.f k a0 a1 a2 a3 a4) (trim_Uniform.f (k + 1) a0 a1 a2 a3 a4) := by
  intro a0 a1 a2 a3 a4 k
  have ih0 := trim_Uniform.mono_l k
  unfold trim_Uniform.f
  repeat' first
      | (with_reducible exact ih0 _ _ _ _ _)
      | (with_reducible exact LeO.refl _)
      | (with_reducible exact LeO.none _)
      | (with_reducible refine LeO.ite ?_ ?_)
      | (with_reducible refine LeO.bind ?_ (fun _ => ?_))
      | exact ih0 _ _ _ _ _
      | exact LeO.none _
      | refine LeO.ite ?_ ?_
      | refine LeO.bind ?_ (fun _ => ?_)
set_option maxHeartbeats 8000000 in
set_option maxRecDepth 100000 in
theorem trim_Uniform.calls (k : Nat) (a0_0 : Int) (a0_1 : Int) (a0_2 : Int) (A0_3 : Option Addr) (c0_3 : Nat) (l0_3 : List Int) (A0_4 : Option Addr) (c0_4 : Nat) (l0_4 : List (S25)) (r1 : Int) (r2 : Int) (w : World) (hr0_3 : Kd.C (Kd.int .u8) w A0_3 l0_3.length l0_3) (hc0_3 : l0_3.length ≤ c0_3) (hr0_4 : Kd.C k25 w A0_4 l0_4.length l0_4) (hc0_4 : l0_4.length ≤ c0_4) (h : trim_Uniform.f k a0_0 a0_1 a0_2 l0_3 l0_4 = some (r1, r2)) :
    Calls Tryd.prog 24 #[.agg #[.int .i64 a0_0, .int .i64 a0_1, .int .i64 a0_2, .slice A0_3 l0_3.length c0_3, .slice A0_4 l0_4.length c0_4]] w fun e w' => e = .returned (.tuple #[.int .i64 r1, .int .i64 r2]) ∧ Below w.heap.size w w' := by
  have hu25 := Tryd.underlying25
  have HR0_3 := Aside0.mk hr0_3
  have HC0_3 := Aside0.mk hc0_3
  clear hr0_3 hc0_3
  have HR0_4 := Aside0.mk hr0_4
  have HC0_4 := Aside0.mk hc0_4
  clear hr0_4 hc0_4
  have HB := Aside0.mk (Below.refl w.heap.size w)
  have H : (trim_Uniform.l0 k 0 0 l0_4 (l0_4.length : Int) 0) = some (r1, r2) := h
  clear h
  have H' := Aside0.mk H
  clear H
  go_enter Tryd.func24, Tryd.ntmps24
  go_wp2_with (first | ((with_reducible refine gate_dst (N := 1) rfl ?_); refine box_event ?hg (N := 1) ?hd (cs := #[.int .i64 a0_0, .int .i64 a0_1, .int .i64 a0_2, .slice A0_3 l0_3.length c0_3, .slice A0_4 l0_4.length c0_4]) (t := 25) ?hr ?_; (case hd => rfl); (case hg => rfl); (case hr => first | (go_simp; done) | (go_simp; rfl)); intro gb101 hg w2 hbox hb; have n0_ := Aside0.mk (below_step (by repeat (first | (with_reducible first | exact HB.out | apply below_alloc | apply pw_below_drewN | apply below_drew1) | exact HB.out)) hb); have n1_ := Aside0.mk (hbox); have n2_ := Aside0.mk ((by rw [hg]; exact (below_size (by repeat (first | (with_reducible first | exact HB.out | apply below_alloc | apply pw_below_drewN | apply below_drew1) | exact HB.out))) : w.heap.size ≤ gb101)); have n3_ := Aside0.mk ((by rw [hg]; exact (below_size (by repeat (first | (with_reducible first | exact HB.out | apply below_alloc | apply pw_below_drewN | apply below_drew1) | exact HB.out))) : w.heap.size ≤ gb101)); clear HB; have HB := n0_; have BK101 := n1_; have GW101 := n2_; have GE101 := n3_; clear n0_ n1_ n2_ n3_; clear hb hbox hg; have hcz3_0 : w2.cell? ⟨gb101, 0, none⟩ = some (.int .i64 a0_0) := (blk_cell BK101.out 0).trans rfl; have hcz3_1 : w2.cell? ⟨gb101, 1, none⟩ = some (.int .i64 a0_1) := (blk_cell BK101.out 1).trans rfl; have hcz3_2 : w2.cell? ⟨gb101, 2, none⟩ = some (.int .i64 a0_2) := (blk_cell BK101.out 2).trans rfl; have hcz3_3 : w2.cell? ⟨gb101, 3, none⟩ = some (.slice A0_3 l0_3.length c0_3) := (blk_cell BK101.out 3).trans rfl; have hcz3_4 : w2.cell? ⟨gb101, 4, none⟩ = some (.slice A0_4 l0_4.length c0_4) := (blk_cell BK101.out 4).trans rfl; have hfz3_0 := blk_frozen BK101.out 0; have hfz3_1 := blk_frozen BK101.out 1; have hfz3_2 := blk_frozen BK101.out 2; have hfz3_3 := blk_frozen BK101.out 3; have hfz3_4 := blk_frozen BK101.out 4))
  repeat (go_quiet (first | ((with_reducible refine gate_dst (N := 1) rfl ?_); refine box_event ?hg (N := 1) ?hd (cs := #[.int .i64 a0_0, .int .i64 a0_1, .int .i64 a0_2, .slice A0_3 l0_3.length c0_3, .slice A0_4 l0_4.length c0_4]) (t := 25) ?hr ?_; (case hd => rfl); (case hg => rfl); (case hr => first | (go_simp; done) | (go_simp; rfl)); intro gb101 hg w2 hbox hb; have n0_ := Aside0.mk (below_step (by repeat (first | (with_reducible first | exact HB.out | apply below_alloc | apply pw_below_drewN | apply below_drew1) | exact HB.out)) hb); have n1_ := Aside0.mk (hbox); have n2_ := Aside0.mk ((by rw [hg]; exact (below_size (by repeat (first | (with_reducible first | exact HB.out | apply below_alloc | apply pw_below_drewN | apply below_drew1) | exact HB.out))) : w.heap.size ≤ gb101)); have n3_ := Aside0.mk ((by rw [hg]; exact (below_size (by repeat (first | (with_reducible first | exact HB.out | apply below_alloc | apply pw_below_drewN | apply below_drew1) | exact HB.out))) : w.heap.size ≤ gb101)); clear HB; have HB := n0_; have BK101 := n1_; have GW101 := n2_; have GE101 := n3_; clear n0_ n1_ n2_ n3_; clear hb hbox hg; have hcz3_0 : w2.cell? ⟨gb101, 0, none⟩ = some (.int .i64 a0_0) := (blk_cell BK101.out 0).trans rfl; have hcz3_1 : w2.cell? ⟨gb101, 1, none⟩ = some (.int .i64 a0_1) := (blk_cell BK101.out 1).trans rfl; have hcz3_2 : w2.cell? ⟨gb101, 2, none⟩ = some (.int .i64 a0_2) := (blk_cell BK101.out 2).trans rfl; have hcz3_3 : w2.cell? ⟨gb101, 3, none⟩ = some (.slice A0_3 l0_3.length c0_3) := (blk_cell BK101.out 3).trans rfl; have hcz3_4 : w2.cell? ⟨gb101, 4, none⟩ = some (.slice A0_4 l0_4.length c0_4) := (blk_cell BK101.out 4).trans rfl; have hfz3_0 := blk_frozen BK101.out 0; have hfz3_1 := blk_frozen BK101.out 1; have hfz3_2 := blk_frozen BK101.out 2; have hfz3_3 := blk_frozen BK101.out 3; have hfz3_4 := blk_frozen BK101.out 4)); try go_wp2_with (first | ((with_reducible refine gate_dst (N := 1) rfl ?_); refine box_event ?hg (N := 1) ?hd (cs := #[.int .i64 a0_0, .int .i64 a0_1, .int .i64 a0_2, .slice A0_3 l0_3.length c0_3, .slice A0_4 l0_4.length c0_4]) (t := 25) ?hr ?_; (case hd => rfl); (case hg => rfl); (case hr => first | (go_simp; done) | (go_simp; rfl)); intro gb101 hg w2 hbox hb; have n0_ := Aside0.mk (below_step (by repeat (first | (with_reducible first | exact HB.out | apply below_alloc | apply pw_below_drewN | apply below_drew1) | exact HB.out)) hb); have n1_ := Aside0.mk (hbox); have n2_ := Aside0.mk ((by rw [hg]; exact (below_size (by repeat (first | (with_reducible first | exact HB.out | apply below_alloc | apply pw_below_drewN | apply below_drew1) | exact HB.out))) : w.heap.size ≤ gb101)); have n3_ := Aside0.mk ((by rw [hg]; exact (below_size (by repeat (first | (with_reducible first | exact HB.out | apply below_alloc | apply pw_below_drewN | apply below_drew1) | exact HB.out))) : w.heap.size ≤ gb101)); clear HB; have HB := n0_; have BK101 := n1_; have GW101 := n2_; have GE101 := n3_; clear n0_ n1_ n2_ n3_; clear hb hbox hg; have hcz3_0 : w2.cell? ⟨gb101, 0, none⟩ = some (.int .i64 a0_0) := (blk_cell BK101.out 0).trans rfl; have hcz3_1 : w2.cell? ⟨gb101, 1, none⟩ = some (.int .i64 a0_1) := (blk_cell BK101.out 1).trans rfl; have hcz3_2 : w2.cell? ⟨gb101, 2, none⟩ = some (.int .i64 a0_2) := (blk_cell BK101.out 2).trans rfl; have hcz3_3 : w2.cell? ⟨gb101, 3, none⟩ = some (.slice A0_3 l0_3.length c0_3) := (blk_cell BK101.out 3).trans rfl; have hcz3_4 : w2.cell? ⟨gb101, 4, none⟩ = some (.slice A0_4 l0_4.length c0_4) := (blk_cell BK101.out 4).trans rfl; have hfz3_0 := blk_frozen BK101.out 0; have hfz3_1 := blk_frozen BK101.out 1; have hfz3_2 := blk_frozen BK101.out 2; have hfz3_3 := blk_frozen BK101.out 3; have hfz3_4 := blk_frozen BK101.out 4)))
  go_loopg [4, 5, 11] k (fun kq v4 v5 v11 w' => ∃ (x4_1 : Int) (x5_1 : Int) (x11_1 : Int), v4 = .int .i64 x4_1 ∧ v5 = .int .i64 x5_1 ∧ v11 = .int .i64 x11_1 ∧ Aside0 (trim_Uniform.l0 kq x4_1 x5_1 l0_4 (l0_4.length : Int) x11_1 = some (r1, r2)) ∧ Aside0 (kq ≤ k) ∧ Aside0 (w'.heap[gb101]? = some (.cells #[.int .i64 a0_0, .int .i64 a0_1, .int .i64 a0_2, (.slice A0_3 l0_3.length c0_3), (.slice A0_4 l0_4.length c0_4)] 25 (0, 0))) ∧ Aside0 (Below w.heap.size w w'))
  case atStart => exact ⟨(0), (0), (0), (by first | rfl | (simp; done) | (simp [*]; done)), (by first | rfl | (simp; done) | (simp [*]; done)), (by first | rfl | (simp; done) | (simp [*]; done)), H', ⟨Nat.le_refl _⟩, ⟨by (with_reducible repeat (first | refine blk_drewN ?_ _ | refine blk_drew ?_ | refine blk_alloc ?_ _)); exact BK101.out⟩, ⟨by repeat (first | (with_reducible first | exact HB.out | apply below_alloc | apply pw_below_drewN | apply below_drew1 | refine below_set ?_ GE101.out) | exact HB.out)⟩⟩
  case round =>
    clear H'
    try clear c2
    try clear p2
    try clear hcz3_0
    try clear hcz3_1
    try clear hcz3_2
    try clear hcz3_3
    try clear hcz3_4
    try clear hfz3_0
    try clear hfz3_1
    try clear hfz3_2
    try clear hfz3_3
    try clear hfz3_4
    obtain ⟨x4_1, x5_1, x11_1, rfl, rfl, rfl, HA, HK1, BK101, HB⟩ := hrel
    cases gk with
    | zero => exact absurd HA.out (by simp [trim_Uniform.l0])
    | succ k1 =>
      have H := HA.out
      clear HA
      simp only [trim_Uniform.l0] at H
      by_cases c4 : x11_1 < (l0_4.length : Int)
      · rw [if_pos c4] at H
        have c4b0 : decide (x11_1 < (l0_4.length : Int)) = true := decide_eq_true c4
        clear c4
        by_cases c5 : 0 ≤ x11_1
        · rw [if_pos c5] at H
          have c5b0 : decide (0 ≤ x11_1) = true := decide_eq_true c5
          clear c5
          by_cases c6 : x11_1 < (l0_4.length : Int)
          · rw [if_pos c6] at H
            have c6b0 : decide (x11_1 < (l0_4.length : Int)) = true := decide_eq_true c6
            clear c6
            obtain ⟨ji7, hji7⟩ : ∃ j_ : Int, (mx x4_1 (wrap64 ((((rd_T25 l0_4 x11_1).f3).length : Int) / 8))) = j_ := ⟨_, rfl⟩
            replace H : (trim_Uniform.l0 k1 ji7 (mx x5_1 (((rd_T25 l0_4 x11_1).f4).length : Int)) l0_4 (l0_4.length : Int) (wrap64 (x11_1 + 1))) = some (r1, r2) := by first | (rw [hji7] at H; exact H) | (simp only [hji7] at H ⊢; exact H)
            have hji7_ : (if x4_1 < (wrap64 ((((rd_T25 l0_4 x11_1).f3).length : Int) / 8)) then (wrap64 ((((rd_T25 l0_4 x11_1).f3).length : Int) / 8)) else x4_1) = ji7 := hji7
            obtain ⟨ji8, hji8⟩ : ∃ j_ : Int, (mx x5_1 (((rd_T25 l0_4 x11_1).f4).length : Int)) = j_ := ⟨_, rfl⟩
            replace H : (trim_Uniform.l0 k1 ji7 ji8 l0_4 (l0_4.length : Int) (wrap64 (x11_1 + 1))) = some (r1, r2) := by first | (rw [hji8] at H; exact H) | (simp only [hji8] at H ⊢; exact H)
            have hji8_ : (if x5_1 < (((rd_T25 l0_4 x11_1).f4).length : Int) then (((rd_T25 l0_4 x11_1).f4).length : Int) else x5_1) = ji8 := hji8
            have H' := Aside0.mk H
            clear H
            have p102 : 0 ≤ (x11_1 : Int) := of_decide_eq_true (by first | (with_reducible assumption) | assumption)
            have q102 : x11_1 < (l0_4.length : Int) := of_decide_eq_true (by first | (with_reducible assumption) | assumption)
            obtain ⟨ad102, A102_3, c102_3, A102_4, c102_4, e102, hx102_0, hx102_1, hx102_2, hx102_3, hx102_4, hl102_3, hi102_3, hl102_4, hi102_4⟩ := at_T25 HR0_4.out x11_1 p102 q102
            cases e102
            replace hx102_0 := (HB.out.cell (World.block_lt_of_cell? w _ hx102_0)).trans hx102_0
            replace hx102_1 := (HB.out.cell (World.block_lt_of_cell? w _ hx102_1)).trans hx102_1
            replace hx102_2 := (HB.out.cell (World.block_lt_of_cell? w _ hx102_2)).trans hx102_2
            replace hx102_3 := (HB.out.cell (World.block_lt_of_cell? w _ hx102_3)).trans hx102_3
            replace hx102_4 := (HB.out.cell (World.block_lt_of_cell? w _ hx102_4)).trans hx102_4
            have HR102_3 := Aside0.mk hi102_3
            have HC102_3 := Aside0.mk hl102_3
            clear hi102_3 hl102_3
            have HR102_4 := Aside0.mk hi102_4
            have HC102_4 := Aside0.mk hl102_4
            clear hi102_4 hl102_4
            replace p102 := eq_true p102
            replace q102 := eq_true q102
            go_wp2_with (first | ((with_reducible refine gate_dst (N := 7) rfl ?_); refine box_event ?hg (N := 7) ?hd (cs := #[.int .i64 0, .int .i64 0, .int .i64 0, .slice none 0 0, .slice none 0 0]) (t := 25) ?hr ?_; (case hd => rfl); (case hg => rfl); (case hr => first | (go_simp; done) | (go_simp; rfl)); intro gb103 hg w9 hbox hb; have n0_ := Aside0.mk (blk_below (g := gb101) (o := .cells #[.int .i64 a0_0, .int .i64 a0_1, .int .i64 a0_2, .slice A0_3 l0_3.length c0_3, .slice (some ad102) l0_4.length c0_4] 25 (0, 0)) (by (with_reducible repeat (first | refine blk_drewN ?_ _ | refine blk_drew ?_ | refine blk_alloc ?_ _)); exact BK101.out) hb); have n1_ := Aside0.mk (below_step (by repeat (first | (with_reducible first | exact HB.out | apply below_alloc | apply pw_below_drewN | apply below_drew1 | refine below_set ?_ GE101.out) | exact HB.out)) hb); have n2_ := Aside0.mk (hbox); have n3_ := Aside0.mk ((by rw [hg]; exact (below_size (by repeat (first | (with_reducible first | exact HB.out | apply below_alloc | apply pw_below_drewN | apply below_drew1 | refine below_set ?_ GE101.out) | exact HB.out))) : w.heap.size ≤ gb103)); have n4_ := Aside0.mk ((by rw [hg]; exact (below_size (by repeat (first | (with_reducible first | exact HB.out | apply below_alloc | apply pw_below_drewN | apply below_drew1 | refine below_set ?_ GE101.out) | exact HB.out))) : w.heap.size ≤ gb103)); have n5_ := Aside0.mk ((by rw [hg]; exact Nat.ne_of_lt (blk_lt (g := gb101) (o := .cells #[.int .i64 a0_0, .int .i64 a0_1, .int .i64 a0_2, .slice A0_3 l0_3.length c0_3, .slice (some ad102) l0_4.length c0_4] 25 (0, 0)) (by (with_reducible repeat (first | refine blk_drewN ?_ _ | refine blk_drew ?_ | refine blk_alloc ?_ _)); exact BK101.out)) : gb101 ≠ gb103)); have n6_ := Aside0.mk ((by rw [hg]; exact Nat.ne_of_gt (blk_lt (g := gb101) (o := .cells #[.int .i64 a0_0, .int .i64 a0_1, .int .i64 a0_2, .slice A0_3 l0_3.length c0_3, .slice (some ad102) l0_4.length c0_4] 25 (0, 0)) (by (with_reducible repeat (first | refine blk_drewN ?_ _ | refine blk_drew ?_ | refine blk_alloc ?_ _)); exact BK101.out)) : gb103 ≠ gb101)); clear BK101; clear HB; have BK101 := n0_; have HB := n1_; have BK103 := n2_; have GW103 := n3_; have GE103 := n4_; have NB101_103 := n5_; have NB103_101 := n6_; clear n0_ n1_ n2_ n3_ n4_ n5_ n6_; clear hb hbox hg; have hnb10 := NB103_101.out; have hnc10 := NB101_103.out; have hcz11_0 : w9.cell? ⟨gb103, 0, none⟩ = some (.int .i64 0) := (blk_cell BK103.out 0).trans rfl; have hcz11_1 : w9.cell? ⟨gb103, 1, none⟩ = some (.int .i64 0) := (blk_cell BK103.out 1).trans rfl; have hcz11_2 : w9.cell? ⟨gb103, 2, none⟩ = some (.int .i64 0) := (blk_cell BK103.out 2).trans rfl; have hcz11_3 : w9.cell? ⟨gb103, 3, none⟩ = some (.slice none 0 0) := (blk_cell BK103.out 3).trans rfl; have hcz11_4 : w9.cell? ⟨gb103, 4, none⟩ = some (.slice none 0 0) := (blk_cell BK103.out 4).trans rfl; have hfz11_0 := blk_frozen BK103.out 0; have hfz11_1 := blk_frozen BK103.out 1; have hfz11_2 := blk_frozen BK103.out 2; have hfz11_3 := blk_frozen BK103.out 3; have hfz11_4 := blk_frozen BK103.out 4))
            repeat (go_quiet (first | ((with_reducible refine gate_dst (N := 7) rfl ?_); refine box_event ?hg (N := 7) ?hd (cs := #[.int .i64 0, .int .i64 0, .int .i64 0, .slice none 0 0, .slice none 0 0]) (t := 25) ?hr ?_; (case hd => rfl); (case hg => rfl); (case hr => first | (go_simp; done) | (go_simp; rfl)); intro gb103 hg w9 hbox hb; have n0_ := Aside0.mk (blk_below (g := gb101) (o := .cells #[.int .i64 a0_0, .int .i64 a0_1, .int .i64 a0_2, .slice A0_3 l0_3.length c0_3, .slice (some ad102) l0_4.length c0_4] 25 (0, 0)) (by (with_reducible repeat (first | refine blk_drewN ?_ _ | refine blk_drew ?_ | refine blk_alloc ?_ _)); exact BK101.out) hb); have n1_ := Aside0.mk (below_step (by repeat (first | (with_reducible first | exact HB.out | apply below_alloc | apply pw_below_drewN | apply below_drew1 | refine below_set ?_ GE101.out) | exact HB.out)) hb); have n2_ := Aside0.mk (hbox); have n3_ := Aside0.mk ((by rw [hg]; exact (below_size (by repeat (first | (with_reducible first | exact HB.out | apply below_alloc | apply pw_below_drewN | apply below_drew1 | refine below_set ?_ GE101.out) | exact HB.out))) : w.heap.size ≤ gb103)); have n4_ := Aside0.mk ((by rw [hg]; exact (below_size (by repeat (first | (with_reducible first | exact HB.out | apply below_alloc | apply pw_below_drewN | apply below_drew1 | refine below_set ?_ GE101.out) | exact HB.out))) : w.heap.size ≤ gb103)); have n5_ := Aside0.mk ((by rw [hg]; exact Nat.ne_of_lt (blk_lt (g := gb101) (o := .cells #[.int .i64 a0_0, .int .i64 a0_1, .int .i64 a0_2, .slice A0_3 l0_3.length c0_3, .slice (some ad102) l0_4.length c0_4] 25 (0, 0)) (by (with_reducible repeat (first | refine blk_drewN ?_ _ | refine blk_drew ?_ | refine blk_alloc ?_ _)); exact BK101.out)) : gb101 ≠ gb103)); have n6_ := Aside0.mk ((by rw [hg]; exact Nat.ne_of_gt (blk_lt (g := gb101) (o := .cells #[.int .i64 a0_0, .int .i64 a0_1, .int .i64 a0_2, .slice A0_3 l0_3.length c0_3, .slice (some ad102) l0_4.length c0_4] 25 (0, 0)) (by (with_reducible repeat (first | refine blk_drewN ?_ _ | refine blk_drew ?_ | refine blk_alloc ?_ _)); exact BK101.out)) : gb103 ≠ gb101)); clear BK101; clear HB; have BK101 := n0_; have HB := n1_; have BK103 := n2_; have GW103 := n3_; have GE103 := n4_; have NB101_103 := n5_; have NB103_101 := n6_; clear n0_ n1_ n2_ n3_ n4_ n5_ n6_; clear hb hbox hg; have hnb10 := NB103_101.out; have hnc10 := NB101_103.out; have hcz11_0 : w9.cell? ⟨gb103, 0, none⟩ = some (.int .i64 0) := (blk_cell BK103.out 0).trans rfl; have hcz11_1 : w9.cell? ⟨gb103, 1, none⟩ = some (.int .i64 0) := (blk_cell BK103.out 1).trans rfl; have hcz11_2 : w9.cell? ⟨gb103, 2, none⟩ = some (.int .i64 0) := (blk_cell BK103.out 2).trans rfl; have hcz11_3 : w9.cell? ⟨gb103, 3, none⟩ = some (.slice none 0 0) := (blk_cell BK103.out 3).trans rfl; have hcz11_4 : w9.cell? ⟨gb103, 4, none⟩ = some (.slice none 0 0) := (blk_cell BK103.out 4).trans rfl; have hfz11_0 := blk_frozen BK103.out 0; have hfz11_1 := blk_frozen BK103.out 1; have hfz11_2 := blk_frozen BK103.out 2; have hfz11_3 := blk_frozen BK103.out 3; have hfz11_4 := blk_frozen BK103.out 4)); try go_wp2_with (first | ((with_reducible refine gate_dst (N := 7) rfl ?_); refine box_event ?hg (N := 7) ?hd (cs := #[.int .i64 0, .int .i64 0, .int .i64 0, .slice none 0 0, .slice none 0 0]) (t := 25) ?hr ?_; (case hd => rfl); (case hg => rfl); (case hr => first | (go_simp; done) | (go_simp; rfl)); intro gb103 hg w9 hbox hb; have n0_ := Aside0.mk (blk_below (g := gb101) (o := .cells #[.int .i64 a0_0, .int .i64 a0_1, .int .i64 a0_2, .slice A0_3 l0_3.length c0_3, .slice (some ad102) l0_4.length c0_4] 25 (0, 0)) (by (with_reducible repeat (first | refine blk_drewN ?_ _ | refine blk_drew ?_ | refine blk_alloc ?_ _)); exact BK101.out) hb); have n1_ := Aside0.mk (below_step (by repeat (first | (with_reducible first | exact HB.out | apply below_alloc | apply pw_below_drewN | apply below_drew1 | refine below_set ?_ GE101.out) | exact HB.out)) hb); have n2_ := Aside0.mk (hbox); have n3_ := Aside0.mk ((by rw [hg]; exact (below_size (by repeat (first | (with_reducible first | exact HB.out | apply below_alloc | apply pw_below_drewN | apply below_drew1 | refine below_set ?_ GE101.out) | exact HB.out))) : w.heap.size ≤ gb103)); have n4_ := Aside0.mk ((by rw [hg]; exact (below_size (by repeat (first | (with_reducible first | exact HB.out | apply below_alloc | apply pw_below_drewN | apply below_drew1 | refine below_set ?_ GE101.out) | exact HB.out))) : w.heap.size ≤ gb103)); have n5_ := Aside0.mk ((by rw [hg]; exact Nat.ne_of_lt (blk_lt (g := gb101) (o := .cells #[.int .i64 a0_0, .int .i64 a0_1, .int .i64 a0_2, .slice A0_3 l0_3.length c0_3, .slice (some ad102) l0_4.length c0_4] 25 (0, 0)) (by (with_reducible repeat (first | refine blk_drewN ?_ _ | refine blk_drew ?_ | refine blk_alloc ?_ _)); exact BK101.out)) : gb101 ≠ gb103)); have n6_ := Aside0.mk ((by rw [hg]; exact Nat.ne_of_gt (blk_lt (g := gb101) (o := .cells #[.int .i64 a0_0, .int .i64 a0_1, .int .i64 a0_2, .slice A0_3 l0_3.length c0_3, .slice (some ad102) l0_4.length c0_4] 25 (0, 0)) (by (with_reducible repeat (first | refine blk_drewN ?_ _ | refine blk_drew ?_ | refine blk_alloc ?_ _)); exact BK101.out)) : gb103 ≠ gb101)); clear BK101; clear HB; have BK101 := n0_; have HB := n1_; have BK103 := n2_; have GW103 := n3_; have GE103 := n4_; have NB101_103 := n5_; have NB103_101 := n6_; clear n0_ n1_ n2_ n3_ n4_ n5_ n6_; clear hb hbox hg; have hnb10 := NB103_101.out; have hnc10 := NB101_103.out; have hcz11_0 : w9.cell? ⟨gb103, 0, none⟩ = some (.int .i64 0) := (blk_cell BK103.out 0).trans rfl; have hcz11_1 : w9.cell? ⟨gb103, 1, none⟩ = some (.int .i64 0) := (blk_cell BK103.out 1).trans rfl; have hcz11_2 : w9.cell? ⟨gb103, 2, none⟩ = some (.int .i64 0) := (blk_cell BK103.out 2).trans rfl; have hcz11_3 : w9.cell? ⟨gb103, 3, none⟩ = some (.slice none 0 0) := (blk_cell BK103.out 3).trans rfl; have hcz11_4 : w9.cell? ⟨gb103, 4, none⟩ = some (.slice none 0 0) := (blk_cell BK103.out 4).trans rfl; have hfz11_0 := blk_frozen BK103.out 0; have hfz11_1 := blk_frozen BK103.out 1; have hfz11_2 := blk_frozen BK103.out 2; have hfz11_3 := blk_frozen BK103.out 3; have hfz11_4 := blk_frozen BK103.out 4)))
            go_roundg k1
            case measure => have := HK1.out; omega
            case rel => exact ⟨(ji7), (ji8), (wrap64 (x11_1 + 1)), (by first | rfl | (simp; done) | (simp only [← hji7] <;> (first | rfl | simp)) | (simp [*]; done)), (by first | rfl | (simp; done) | (simp only [← hji8] <;> (first | rfl | simp)) | (simp [*]; done)), (by first | rfl | (simp; done) | (simp [*]; done)), H', ⟨by have := HK1.out; omega⟩, ⟨by (with_reducible repeat (first | refine blk_drewN ?_ _ | refine blk_drew ?_ | refine blk_alloc ?_ _)); refine blk_far ?_ NB101_103.out _; (with_reducible repeat (first | refine blk_drewN ?_ _ | refine blk_drew ?_ | refine blk_alloc ?_ _)); refine blk_far ?_ NB101_103.out _; (with_reducible repeat (first | refine blk_drewN ?_ _ | refine blk_drew ?_ | refine blk_alloc ?_ _)); refine blk_far ?_ NB101_103.out _; (with_reducible repeat (first | refine blk_drewN ?_ _ | refine blk_drew ?_ | refine blk_alloc ?_ _)); refine blk_far ?_ NB101_103.out _; (with_reducible repeat (first | refine blk_drewN ?_ _ | refine blk_drew ?_ | refine blk_alloc ?_ _)); refine blk_far ?_ NB101_103.out _; (with_reducible repeat (first | refine blk_drewN ?_ _ | refine blk_drew ?_ | refine blk_alloc ?_ _)); exact BK101.out⟩, ⟨by repeat (first | (with_reducible first | exact HB.out | apply below_alloc | apply pw_below_drewN | apply below_drew1 | refine below_set ?_ GE101.out | refine below_set ?_ GE103.out) | exact HB.out)⟩⟩
          · rw [if_neg c6] at H
            exact absurd H (by simp)
        · rw [if_neg c5] at H
          exact absurd H (by simp)
      · rw [if_neg c4] at H
        have c4b0 : decide (x11_1 < (l0_4.length : Int)) = false := decide_eq_false c4
        clear c4
        simp only [Option.some.injEq, Prod.mk.injEq] at H
        obtain ⟨rfl, rfl⟩ := H
        go_wp2
        repeat (go_quiet (fail); try go_wp2)
        go_ret2
        exact ⟨by first | rfl | (simp [errW_none, errW_some] <;> rfl) | (simp [*, errW_none, errW_some] <;> rfl), by repeat (first | (with_reducible first | exact HB.out | apply below_alloc | apply pw_below_drewN | apply below_drew1 | refine below_set ?_ GE101.out) | exact HB.out)⟩

end Go.Proofs.YtkiompgbmjoflaaDoor.P

namespace Go.Proofs.YtkiompgbmjoflaaDoor.P
open Go.RowKit Go.Proofs.YtkiompgbmjoflaaDoorW.PrintWords Go.Proofs.YtkiompgbmjoflaaDoorW.PrintLast Go.Proofs.YtkiompgbmjoflaaDoorW.PrintMore
attribute [local go_sem] max2_int min2_int max_two min_two max_three min_three max_four min_four   -- for this text's walks alone
set_option linter.unusedVariables false
set_option linter.unusedSimpArgs false

variable {gb : Bool}
/-! ### listsize_up: function 40 -/
def listsize_up.f (a0 : Int) (a1 : Int) : Option (Int) := if a1 = 0 then (none) else (some (wrap64 (Int.tdiv (wrap64 ((wrap64 (a0 + a1)) - 1)) a1)))
set_option maxHeartbeats 8000000 in
set_option maxRecDepth 100000 in
theorem listsize_up.calls (a0 : Int) (a1 : Int) (r : Int) (w : World) (h : listsize_up.f a0 a1 = some r) :
    Calls Tryd.prog 40 #[.int .i64 a0, .int .i64 a1] w fun e w' => e = .returned (.int .i64 r) ∧ Drawn0 w w' := by
  have H : (if a1 = 0 then (none) else (some (wrap64 (Int.tdiv (wrap64 ((wrap64 (a0 + a1)) - 1)) a1)))) = some r := h
  clear h
  by_cases c3 : a1 = 0
  · rw [if_pos c3] at H
    exact absurd H (by simp)
  · rw [if_neg c3] at H
    have c3b0 : (a1 == 0) = false := beq_eq_false_iff_ne.mpr c3
    have c3b1 : (a1 != 0) = true := bne_iff_ne.mpr c3
    obtain rfl := Option.some.inj H
    go_enter Tryd.func40, Tryd.ntmps40
    go_wp2
    go_ret
    exact ⟨by first | rfl | (simp; done) | (simp [*]; done), by repeat (first | exact Drawn0.refl _ | apply Drawn0.step)⟩

end Go.Proofs.YtkiompgbmjoflaaDoor.P

namespace Go.Proofs.YtkiompgbmjoflaaDoor.P
open Go.RowKit Go.Proofs.YtkiompgbmjoflaaDoorW.PrintWords Go.Proofs.YtkiompgbmjoflaaDoorW.PrintLast Go.Proofs.YtkiompgbmjoflaaDoorW.PrintMore
attribute [local go_sem] max2_int min2_int max_two min_two max_three min_three max_four min_four   -- for this text's walks alone
set_option linter.unusedVariables false
set_option linter.unusedSimpArgs false

variable {gb : Bool}
/-! ### listsize_Words: function 25 -/
def listsize_Words.f (a0 : Int) (a1 : Int) : Option (Int) := if a0 = 7 then some (wrap64 (a1 + 1)) else (if 0 ≤ a0 ∧ a0 < 8 then listsize_up.f (wrap64 (bitsOf a0.toNat * a1)) 64 else none)
set_option maxHeartbeats 1600000 in
set_option maxRecDepth 100000 in
theorem listsize_Words.calls (a0 : Int) (a1 : Int) (r : Int) (w : World) (hG : Glob true w) (h : listsize_Words.f a0 a1 = some r) :
    Calls Tryd.prog 25 #[.int .i64 a0, .int .i64 a1] w fun e w' => e = .returned (.int .i64 r) ∧ Drawn0 w w' := by
  unfold listsize_Words.f at h
  by_cases c : a0 = 7
  · rw [if_pos c] at h
    subst c
    obtain rfl := Option.some.inj h
    go_enter Tryd.func25, Tryd.ntmps25
    go_wp2
    go_ret
    exact ⟨by first | rfl | (simp; done), Drawn0.refl _⟩
  · rw [if_neg c] at h
    split at h
    · rename_i hc
      obtain ⟨i, rfl⟩ := Int.eq_ofNat_of_zero_le hc.1
      have hb := hG.bits rfl i (by omega)
      have H := Aside0.mk h
      clear h hG
      rw [Int.toNat_natCast] at H
      have h8 : (i : Int) < 8 := hc.2
      have c7 : ¬ (i : Int) = 7 := c
      clear hc c
      go_enter Tryd.func25, Tryd.ntmps25
      go_wp2_with fail
      refine (listsize_up.calls _ _ _ _ H.out).mono ?_
      rintro e w1 ⟨rfl, hd⟩
      have HD := Aside0.mk hd
      clear hd
      go_wp2
      go_ret
      exact ⟨by first | rfl | (simp; done), HD.out⟩
    · exact absurd h (by simp)

end Go.Proofs.YtkiompgbmjoflaaDoor.P

namespace Go.Proofs.YtkiompgbmjoflaaDoor.P
open Go.RowKit Go.Proofs.YtkiompgbmjoflaaDoorW.PrintWords Go.Proofs.YtkiompgbmjoflaaDoorW.PrintLast Go.Proofs.YtkiompgbmjoflaaDoorW.PrintMore
attribute [local go_sem] max2_int min2_int max_two min_two max_three min_three max_four min_four   -- for this text's walks alone
set_option linter.unusedVariables false
set_option linter.unusedSimpArgs false

variable {gb : Bool}
/-! ### canonsize_Object: function 10 -/
def canonsize_Object.f (k : Nat) (a0_0 : Int) (a0_1 : Int) (a0_2 : Int) (l0_3 : List Int) (l0_4 : List (S25)) : Option (Int) := if a0_0 = 0 then (some 0) else (if a0_0 = 1 then (some (wrap64 ((wrap64 ((l0_3.length : Int) / 8)) + (l0_4.length : Int)))) else (if a0_1 = 7 then ((trim_Uniform.f k a0_0 a0_1 a0_2 l0_3 l0_4).bind fun bt105 => (some (wrap64 (1 + (wrap64 (a0_2 * (wrap64 (bt105.1 + bt105.2)))))))) else ((listsize_Words.f a0_1 a0_2).bind fun t107 => (some t107))))
theorem canonsize_Object.mono : ∀ a0 a1 a2 a3 a4 k, LeO (canonsize_Object.f k a0 a1 a2 a3 a4) (canonsize_Object.f (k + 1) a0 a1 a2 a3 a4) := by
  intro a0 a1 a2 a3 a4 k
  unfold canonsize_Object.f
  repeat' first
      | (with_reducible exact trim_Uniform.mono _ _ _ _ _ _)
      | (with_reducible exact LeO.refl _)
      | (with_reducible exact LeO.none _)
      | (with_reducible refine LeO.ite ?_ ?_)
      | (with_reducible refine LeO.bind ?_ (fun _ => ?_))
      | exact trim_Uniform.mono _ _ _ _ _ _
      | exact LeO.none _
      | refine LeO.ite ?_ ?_
      | refine LeO.bind ?_ (fun _ => ?_)
set_option maxHeartbeats 8000000 in
set_option maxRecDepth 100000 in
theorem canonsize_Object.calls (k : Nat) (a0_0 : Int) (a0_1 : Int) (a0_2 : Int) (A0_3 : Option Addr) (c0_3 : Nat) (l0_3 : List Int) (A0_4 : Option Addr) (c0_4 : Nat) (l0_4 : List (S25)) (r : Int) (w : World) (hG : Glob true w) (hr0_3 : Kd.C (Kd.int .u8) w A0_3 l0_3.length l0_3) (hc0_3 : l0_3.length ≤ c0_3) (hr0_4 : Kd.C k25 w A0_4 l0_4.length l0_4) (hc0_4 : l0_4.length ≤ c0_4) (h : canonsize_Object.f k a0_0 a0_1 a0_2 l0_3 l0_4 = some r) :
    Calls Tryd.prog 10 #[.agg #[.int .i64 a0_0, .int .i64 a0_1, .int .i64 a0_2, .slice A0_3 l0_3.length c0_3, .slice A0_4 l0_4.length c0_4]] w fun e w' => e = .returned (.int .i64 r) ∧ Below w.heap.size w w' := by
  have hu25 := Tryd.underlying25
  have HG := Aside0.mk hG
  clear hG
  have HR0_3 := Aside0.mk hr0_3
  have HC0_3 := Aside0.mk hc0_3
  clear hr0_3 hc0_3
  have HR0_4 := Aside0.mk hr0_4
  have HC0_4 := Aside0.mk hc0_4
  clear hr0_4 hc0_4
  have HB := Aside0.mk (Below.refl w.heap.size w)
  have H : (if a0_0 = 0 then (some 0) else (if a0_0 = 1 then (some (wrap64 ((wrap64 ((l0_3.length : Int) / 8)) + (l0_4.length : Int)))) else (if a0_1 = 7 then ((trim_Uniform.f k a0_0 a0_1 a0_2 l0_3 l0_4).bind fun bt105 => (some (wrap64 (1 + (wrap64 (a0_2 * (wrap64 (bt105.1 + bt105.2)))))))) else ((listsize_Words.f a0_1 a0_2).bind fun t107 => (some t107))))) = some r := h
  clear h
  by_cases c2 : a0_0 = 0
  · rw [if_pos c2] at H
    have c2b0 : (a0_0 == 0) = true := beq_iff_eq.mpr c2
    have c2b1 : (a0_0 != 0) = false := bne_eq_false_iff_eq.mpr c2
    clear c2
    obtain rfl := Option.some.inj H
    go_enter Tryd.func10, Tryd.ntmps10
    go_wp2_with (first | ((with_reducible refine gate_dst (N := 1) rfl ?_); refine box_event ?hg (N := 1) ?hd (cs := #[.int .i64 a0_0, .int .i64 a0_1, .int .i64 a0_2, .slice A0_3 l0_3.length c0_3, .slice A0_4 l0_4.length c0_4]) (t := 25) ?hr ?_; (case hd => rfl); (case hg => rfl); (case hr => first | (go_simp; done) | (go_simp; rfl)); intro gb104 hg w3 hbox hb; have n0_ := Aside0.mk (below_step (by repeat (first | (with_reducible first | exact HB.out | apply below_alloc | apply pw_below_drewN | apply below_drew1) | exact HB.out)) hb); have n1_ := Aside0.mk (hbox); have n2_ := Aside0.mk ((by rw [hg]; exact (below_size (by repeat (first | (with_reducible first | exact HB.out | apply below_alloc | apply pw_below_drewN | apply below_drew1) | exact HB.out))) : w.heap.size ≤ gb104)); have n3_ := Aside0.mk ((by rw [hg]; exact (below_size (by repeat (first | (with_reducible first | exact HB.out | apply below_alloc | apply pw_below_drewN | apply below_drew1) | exact HB.out))) : w.heap.size ≤ gb104)); clear HB; have HB := n0_; have BK104 := n1_; have GW104 := n2_; have GE104 := n3_; clear n0_ n1_ n2_ n3_; clear hb hbox hg; have hcz4_0 : w3.cell? ⟨gb104, 0, none⟩ = some (.int .i64 a0_0) := (blk_cell BK104.out 0).trans rfl; have hcz4_1 : w3.cell? ⟨gb104, 1, none⟩ = some (.int .i64 a0_1) := (blk_cell BK104.out 1).trans rfl; have hcz4_2 : w3.cell? ⟨gb104, 2, none⟩ = some (.int .i64 a0_2) := (blk_cell BK104.out 2).trans rfl; have hcz4_3 : w3.cell? ⟨gb104, 3, none⟩ = some (.slice A0_3 l0_3.length c0_3) := (blk_cell BK104.out 3).trans rfl; have hcz4_4 : w3.cell? ⟨gb104, 4, none⟩ = some (.slice A0_4 l0_4.length c0_4) := (blk_cell BK104.out 4).trans rfl; have hfz4_0 := blk_frozen BK104.out 0; have hfz4_1 := blk_frozen BK104.out 1; have hfz4_2 := blk_frozen BK104.out 2; have hfz4_3 := blk_frozen BK104.out 3; have hfz4_4 := blk_frozen BK104.out 4))
    go_ret
    exact ⟨by first | rfl | (simp [errW_none, errW_some] <;> rfl) | (simp [*, errW_none, errW_some] <;> rfl), by repeat (first | (with_reducible first | exact HB.out | apply below_alloc | apply pw_below_drewN | apply below_drew1 | refine below_set ?_ GE104.out) | exact HB.out)⟩
  · rw [if_neg c2] at H
    have c2b0 : (a0_0 == 0) = false := beq_eq_false_iff_ne.mpr c2
    have c2b1 : (a0_0 != 0) = true := bne_iff_ne.mpr c2
    by_cases c5 : a0_0 = 1
    · rw [if_pos c5] at H
      have c5b0 : (a0_0 == 1) = true := beq_iff_eq.mpr c5
      have c5b1 : (a0_0 != 1) = false := bne_eq_false_iff_eq.mpr c5
      clear c5
      obtain rfl := Option.some.inj H
      go_enter Tryd.func10, Tryd.ntmps10
      go_wp2_with (first | ((with_reducible refine gate_dst (N := 1) rfl ?_); refine box_event ?hg (N := 1) ?hd (cs := #[.int .i64 a0_0, .int .i64 a0_1, .int .i64 a0_2, .slice A0_3 l0_3.length c0_3, .slice A0_4 l0_4.length c0_4]) (t := 25) ?hr ?_; (case hd => rfl); (case hg => rfl); (case hr => first | (go_simp; done) | (go_simp; rfl)); intro gb104 hg w6 hbox hb; have n0_ := Aside0.mk (below_step (by repeat (first | (with_reducible first | exact HB.out | apply below_alloc | apply pw_below_drewN | apply below_drew1) | exact HB.out)) hb); have n1_ := Aside0.mk (hbox); have n2_ := Aside0.mk ((by rw [hg]; exact (below_size (by repeat (first | (with_reducible first | exact HB.out | apply below_alloc | apply pw_below_drewN | apply below_drew1) | exact HB.out))) : w.heap.size ≤ gb104)); have n3_ := Aside0.mk ((by rw [hg]; exact (below_size (by repeat (first | (with_reducible first | exact HB.out | apply below_alloc | apply pw_below_drewN | apply below_drew1) | exact HB.out))) : w.heap.size ≤ gb104)); clear HB; have HB := n0_; have BK104 := n1_; have GW104 := n2_; have GE104 := n3_; clear n0_ n1_ n2_ n3_; clear hb hbox hg; have hcz7_0 : w6.cell? ⟨gb104, 0, none⟩ = some (.int .i64 a0_0) := (blk_cell BK104.out 0).trans rfl; have hcz7_1 : w6.cell? ⟨gb104, 1, none⟩ = some (.int .i64 a0_1) := (blk_cell BK104.out 1).trans rfl; have hcz7_2 : w6.cell? ⟨gb104, 2, none⟩ = some (.int .i64 a0_2) := (blk_cell BK104.out 2).trans rfl; have hcz7_3 : w6.cell? ⟨gb104, 3, none⟩ = some (.slice A0_3 l0_3.length c0_3) := (blk_cell BK104.out 3).trans rfl; have hcz7_4 : w6.cell? ⟨gb104, 4, none⟩ = some (.slice A0_4 l0_4.length c0_4) := (blk_cell BK104.out 4).trans rfl; have hfz7_0 := blk_frozen BK104.out 0; have hfz7_1 := blk_frozen BK104.out 1; have hfz7_2 := blk_frozen BK104.out 2; have hfz7_3 := blk_frozen BK104.out 3; have hfz7_4 := blk_frozen BK104.out 4))
      go_ret
      exact ⟨by first | rfl | (simp [errW_none, errW_some] <;> rfl) | (simp [*, errW_none, errW_some] <;> rfl), by repeat (first | (with_reducible first | exact HB.out | apply below_alloc | apply pw_below_drewN | apply below_drew1 | refine below_set ?_ GE104.out) | exact HB.out)⟩
    · rw [if_neg c5] at H
      have c5b0 : (a0_0 == 1) = false := beq_eq_false_iff_ne.mpr c5
      have c5b1 : (a0_0 != 1) = true := bne_iff_ne.mpr c5
      by_cases c8 : a0_1 = 7
      · rw [if_pos c8] at H
        have c8b0 : (a0_1 == 7) = true := beq_iff_eq.mpr c8
        have c8b1 : (a0_1 != 7) = false := bne_eq_false_iff_eq.mpr c8
        clear c8
        replace H := Option.bind_eq_some_iff.mp H
        obtain ⟨⟨t105, t106⟩, A90, H⟩ := H
        replace H : (some (wrap64 (1 + (wrap64 (a0_2 * (wrap64 (t105 + t106))))))) = some r := H
        have A9 := Aside0.mk A90
        clear A90
        obtain rfl := Option.some.inj H
        go_enter Tryd.func10, Tryd.ntmps10
        go_wp2_with (first | ((with_reducible refine gate_dst (N := 1) rfl ?_); refine box_event ?hg (N := 1) ?hd (cs := #[.int .i64 a0_0, .int .i64 a0_1, .int .i64 a0_2, .slice A0_3 l0_3.length c0_3, .slice A0_4 l0_4.length c0_4]) (t := 25) ?hr ?_; (case hd => rfl); (case hg => rfl); (case hr => first | (go_simp; done) | (go_simp; rfl)); intro gb104 hg w10 hbox hb; have n0_ := Aside0.mk (below_step (by repeat (first | (with_reducible first | exact HB.out | apply below_alloc | apply pw_below_drewN | apply below_drew1) | exact HB.out)) hb); have n1_ := Aside0.mk (hbox); have n2_ := Aside0.mk ((by rw [hg]; exact (below_size (by repeat (first | (with_reducible first | exact HB.out | apply below_alloc | apply pw_below_drewN | apply below_drew1) | exact HB.out))) : w.heap.size ≤ gb104)); have n3_ := Aside0.mk ((by rw [hg]; exact (below_size (by repeat (first | (with_reducible first | exact HB.out | apply below_alloc | apply pw_below_drewN | apply below_drew1) | exact HB.out))) : w.heap.size ≤ gb104)); clear HB; have HB := n0_; have BK104 := n1_; have GW104 := n2_; have GE104 := n3_; clear n0_ n1_ n2_ n3_; clear hb hbox hg; have hcz11_0 : w10.cell? ⟨gb104, 0, none⟩ = some (.int .i64 a0_0) := (blk_cell BK104.out 0).trans rfl; have hcz11_1 : w10.cell? ⟨gb104, 1, none⟩ = some (.int .i64 a0_1) := (blk_cell BK104.out 1).trans rfl; have hcz11_2 : w10.cell? ⟨gb104, 2, none⟩ = some (.int .i64 a0_2) := (blk_cell BK104.out 2).trans rfl; have hcz11_3 : w10.cell? ⟨gb104, 3, none⟩ = some (.slice A0_3 l0_3.length c0_3) := (blk_cell BK104.out 3).trans rfl; have hcz11_4 : w10.cell? ⟨gb104, 4, none⟩ = some (.slice A0_4 l0_4.length c0_4) := (blk_cell BK104.out 4).trans rfl; have hfz11_0 := blk_frozen BK104.out 0; have hfz11_1 := blk_frozen BK104.out 1; have hfz11_2 := blk_frozen BK104.out 2; have hfz11_3 := blk_frozen BK104.out 3; have hfz11_4 := blk_frozen BK104.out 4) | ((with_reducible refine gate_callee (f := 24) rfl ?_); refine goesL_ (some 27) rfl rfl Tryd.func24 (by kernel_rfl) rfl #[.agg #[.int .i64 a0_0, .int .i64 a0_1, .int .i64 a0_2, .slice A0_3 l0_3.length c0_3, .slice A0_4 l0_4.length c0_4]] rfl (by (try simp only [List.map_toArray, List.map_cons, List.map_nil]); first | done | rfl | (simp only [List.length_drop, List.length_take]; rfl)) ?_; (with_reducible refine (trim_Uniform.calls k a0_0 a0_1 a0_2 _ _ l0_3 _ _ l0_4 t105 t106 _ ?side1 ?side2 ?side3 ?side4 A9.out).mono ?_); (case side1 => repeat (first | exact (Kd.C_below HR0_3.out HB.out) | (with_reducible refine Kd.C_alloc ?_ _) | (with_reducible refine Kd.C_drewN ?_ _) | (with_reducible refine Kd.C_drew ?_))); (case side2 => exact HC0_3.out); (case side3 => repeat (first | exact (Kd.C_below HR0_4.out HB.out) | (with_reducible refine Kd.C_alloc ?_ _) | (with_reducible refine Kd.C_drewN ?_ _) | (with_reducible refine Kd.C_drew ?_))); (case side4 => exact HC0_4.out); rintro e w12 ⟨rfl, hb⟩; refine ⟨_, rfl, ?_⟩; have n0_ := Aside0.mk (blk_below (g := gb104) (o := .cells #[.int .i64 a0_0, .int .i64 a0_1, .int .i64 a0_2, .slice A0_3 l0_3.length c0_3, .slice A0_4 l0_4.length c0_4] 25 (0, 0)) (by (with_reducible repeat (first | refine blk_drewN ?_ _ | refine blk_drew ?_ | refine blk_alloc ?_ _)); exact BK104.out) hb); have n1_ := Aside0.mk (below_step (by repeat (first | (with_reducible first | exact HB.out | apply below_alloc | apply pw_below_drewN | apply below_drew1 | refine below_set ?_ GE104.out) | exact HB.out)) hb); clear BK104; clear HB; have BK104 := n0_; have HB := n1_; clear n0_ n1_; (try clear hb); (try clear hb2); (try clear hk); (try clear hi); have hcz13_0 : w12.cell? ⟨gb104, 0, none⟩ = some (.int .i64 a0_0) := (blk_cell BK104.out 0).trans rfl; have hcz13_1 : w12.cell? ⟨gb104, 1, none⟩ = some (.int .i64 a0_1) := (blk_cell BK104.out 1).trans rfl; have hcz13_2 : w12.cell? ⟨gb104, 2, none⟩ = some (.int .i64 a0_2) := (blk_cell BK104.out 2).trans rfl; have hcz13_3 : w12.cell? ⟨gb104, 3, none⟩ = some (.slice A0_3 l0_3.length c0_3) := (blk_cell BK104.out 3).trans rfl; have hcz13_4 : w12.cell? ⟨gb104, 4, none⟩ = some (.slice A0_4 l0_4.length c0_4) := (blk_cell BK104.out 4).trans rfl; have hfz13_0 := blk_frozen BK104.out 0; have hfz13_1 := blk_frozen BK104.out 1; have hfz13_2 := blk_frozen BK104.out 2; have hfz13_3 := blk_frozen BK104.out 3; have hfz13_4 := blk_frozen BK104.out 4))
        go_ret
        exact ⟨by first | rfl | (simp [errW_none, errW_some] <;> rfl) | (simp [*, errW_none, errW_some] <;> rfl), by repeat (first | (with_reducible first | exact HB.out | apply below_alloc | apply pw_below_drewN | apply below_drew1 | refine below_set ?_ GE104.out) | exact HB.out)⟩
      · rw [if_neg c8] at H
        have c8b0 : (a0_1 == 7) = false := beq_eq_false_iff_ne.mpr c8
        have c8b1 : (a0_1 != 7) = true := bne_iff_ne.mpr c8
        replace H := Option.bind_eq_some_iff.mp H
        obtain ⟨t107, A140, H⟩ := H
        replace H : (some t107) = some r := H
        have A14 := Aside0.mk A140
        clear A140
        obtain rfl := Option.some.inj H
        go_enter Tryd.func10, Tryd.ntmps10
        go_wp2_with (first | ((with_reducible refine gate_dst (N := 1) rfl ?_); refine box_event ?hg (N := 1) ?hd (cs := #[.int .i64 a0_0, .int .i64 a0_1, .int .i64 a0_2, .slice A0_3 l0_3.length c0_3, .slice A0_4 l0_4.length c0_4]) (t := 25) ?hr ?_; (case hd => rfl); (case hg => rfl); (case hr => first | (go_simp; done) | (go_simp; rfl)); intro gb104 hg w15 hbox hb; have n0_ := Aside0.mk (below_step (by repeat (first | (with_reducible first | exact HB.out | apply below_alloc | apply pw_below_drewN | apply below_drew1) | exact HB.out)) hb); have n1_ := Aside0.mk (hbox); have n2_ := Aside0.mk ((by rw [hg]; exact (below_size (by repeat (first | (with_reducible first | exact HB.out | apply below_alloc | apply pw_below_drewN | apply below_drew1) | exact HB.out))) : w.heap.size ≤ gb104)); have n3_ := Aside0.mk ((by rw [hg]; exact (below_size (by repeat (first | (with_reducible first | exact HB.out | apply below_alloc | apply pw_below_drewN | apply below_drew1) | exact HB.out))) : w.heap.size ≤ gb104)); clear HB; have HB := n0_; have BK104 := n1_; have GW104 := n2_; have GE104 := n3_; clear n0_ n1_ n2_ n3_; clear hb hbox hg; have hcz16_0 : w15.cell? ⟨gb104, 0, none⟩ = some (.int .i64 a0_0) := (blk_cell BK104.out 0).trans rfl; have hcz16_1 : w15.cell? ⟨gb104, 1, none⟩ = some (.int .i64 a0_1) := (blk_cell BK104.out 1).trans rfl; have hcz16_2 : w15.cell? ⟨gb104, 2, none⟩ = some (.int .i64 a0_2) := (blk_cell BK104.out 2).trans rfl; have hcz16_3 : w15.cell? ⟨gb104, 3, none⟩ = some (.slice A0_3 l0_3.length c0_3) := (blk_cell BK104.out 3).trans rfl; have hcz16_4 : w15.cell? ⟨gb104, 4, none⟩ = some (.slice A0_4 l0_4.length c0_4) := (blk_cell BK104.out 4).trans rfl; have hfz16_0 := blk_frozen BK104.out 0; have hfz16_1 := blk_frozen BK104.out 1; have hfz16_2 := blk_frozen BK104.out 2; have hfz16_3 := blk_frozen BK104.out 3; have hfz16_4 := blk_frozen BK104.out 4) | ((with_reducible refine gate_callee (f := 25) rfl ?_); refine goesL_ (some 41) rfl rfl Tryd.func25 (by kernel_rfl) rfl #[.int .i64 a0_1, .int .i64 a0_2] rfl (by (try simp only [List.map_toArray, List.map_cons, List.map_nil]); first | done | rfl | (simp only [List.length_drop, List.length_take]; rfl)) ?_; (with_reducible refine (listsize_Words.calls a0_1 a0_2 t107 _ ?side1 A14.out).mono ?_); (case side1 => exact Glob.below HG.out (by repeat (first | (with_reducible first | exact HB.out | apply below_alloc | apply pw_below_drewN | apply below_drew1 | refine below_set ?_ GE104.out) | exact HB.out))); rintro e w' ⟨rfl, ⟨nd, rfl⟩⟩; refine ⟨_, rfl, ?_⟩))
        go_ret
        exact ⟨by first | rfl | (simp [errW_none, errW_some] <;> rfl) | (simp [*, errW_none, errW_some] <;> rfl), by repeat (first | (with_reducible first | exact HB.out | apply below_alloc | apply pw_below_drewN | apply below_drew1 | refine below_set ?_ GE104.out) | exact HB.out)⟩

end Go.Proofs.YtkiompgbmjoflaaDoor.P

namespace Go.Proofs.YtkiompgbmjoflaaDoor.P
open Go.RowKit Go.Proofs.YtkiompgbmjoflaaDoorW.PrintWords Go.Proofs.YtkiompgbmjoflaaDoorW.PrintLast Go.Proofs.YtkiompgbmjoflaaDoorW.PrintMore
attribute [local go_sem] max2_int min2_int max_two min_two max_three min_three max_four min_four   -- for this text's walks alone
set_option linter.unusedVariables false
set_option linter.unusedSimpArgs false

variable {gb : Bool}
/-! ### canonsize_Node: function 12 -/
/-- One walk after another over a list, the sum handed on. -/
def visits (g : S25 → Int → Option Int) : List S25 → Int → Option Int
  | [], s => some s
  | x :: xs, s => (g x s).bind (visits g xs)
def canonsize_visit.f : Nat → S25 → Int → Option Int
  | 0, _, _ => none
  | k + 1, n, s => (canonsize_Object.f k n.f0 n.f1 n.f2 n.f3 n.f4).bind fun t => visits (if n.f1 = 7 then (fun x => visits (canonsize_visit.f k) x.f4) else canonsize_visit.f k) n.f4 (wrap64 (s + t))
/-- All blocks but one stay. -/
def Kept (w w' : World) (b : Nat) : Prop := w'.os = w.os ∧ w'.tape = w.tape ∧ w'.output = w.output ∧ w.heap.size ≤ w'.heap.size ∧ ∀ j, j < w.heap.size → j ≠ b → w'.heap[j]? = w.heap[j]?
theorem Kept.trans {a b c : World} {g : Nat} (h : Kept a b g) (h' : Kept b c g) : Kept a c g :=
  ⟨h'.1.trans h.1, h'.2.1.trans h.2.1, h'.2.2.1.trans h.2.2.1, Nat.le_trans h.2.2.2.1 h'.2.2.2.1, fun j hj hn => (h'.2.2.2.2 j (Nat.lt_of_lt_of_le hj h.2.2.2.1) hn).trans (h.2.2.2.2 j hj hn)⟩
theorem Kept.of_below {a b : World} (h : Below a.heap.size a b) (g : Nat) : Kept a b g := ⟨h.os, h.tape, h.output, h.size, fun j hj _ => h.block j hj⟩
theorem Kept.below {w a b : World} {g : Nat} (hb : Below w.heap.size w a) (h : Kept a b g) (hg : w.heap.size ≤ g) : Below w.heap.size w b :=
  ⟨h.1.trans hb.os, h.2.1.trans hb.tape, h.2.2.1.trans hb.output, Nat.le_trans hb.size h.2.2.2.1, fun j hj => (h.2.2.2.2 j (Nat.lt_of_lt_of_le hj hb.size) (by omega)).trans (hb.block j hj)⟩
theorem Kept.blk {a b : World} {g j : Nat} {o : Obj} (h : Kept a b g) (hj : a.heap[j]? = some o) (hn : j ≠ g) : b.heap[j]? = some o := (h.2.2.2.2 j (blk_lt hj) hn).trans hj
theorem visits_nil (g : S25 → Int → Option Int) (s : Int) : visits g [] s = some s := rfl
theorem visits_cons (g : S25 → Int → Option Int) (x : S25) (xs : List S25) (s : Int) : visits g (x :: xs) s = (g x s).bind (visits g xs) := rfl
theorem rd_T25_nat {l : List S25} {j : Nat} (h : j < l.length) : rd_T25 l (j : Int) = l[j] := by
  unfold rd_T25
  rw [Int.toNat_natCast, List.getD_eq_getElem?_getD, List.getElem?_eq_getElem h]
  rfl
set_option maxHeartbeats 1600000 in
set_option maxRecDepth 100000 in
theorem visit_calls (w : World) (hG : Glob true w) (bs bv : Nat) (hbs : w.heap.size ≤ bs) (hbv : w.heap.size ≤ bv) (hne : bs ≠ bv) (k : Nat) : ∀ (n : S25) (A3 : Option Addr) (c3 : Nat) (A4 : Option Addr) (c4 : Nat) (s r : Int) (W : World) (hB : Below w.heap.size w W)
    (hS : W.heap[bs]? = some (.cells #[.int .i64 s] 3 (0, 0))) (hV : W.heap[bv]? = some (.cells #[.func (.func 28) #[] #[.pointer (some ⟨bs, 0, none⟩), .pointer (some ⟨bv, 0, none⟩)]] 43 (0, 0)))
    (hr3 : Kd.C (Kd.int .u8) w A3 n.f3.length n.f3) (hc3 : n.f3.length ≤ c3) (hr4 : Kd.C k25 w A4 n.f4.length n.f4) (hc4 : n.f4.length ≤ c4) (h : canonsize_visit.f k n s = some r),
    Calls Tryd.prog 28 #[.agg #[.int .i64 n.f0, .int .i64 n.f1, .int .i64 n.f2, .slice A3 n.f3.length c3, .slice A4 n.f4.length c4], .pointer (some ⟨bs, 0, none⟩), .pointer (some ⟨bv, 0, none⟩)] W fun e w' => e = .returned (.tuple #[]) ∧ w'.heap[bs]? = some (.cells #[.int .i64 r] 3 (0, 0)) ∧ Kept W w' bs := by
  induction k with
  | zero => intro n A3 c3 A4 c4 s r W hB hS hV hr3 hc3 hr4 hc4 h; exact absurd h (by simp [canonsize_visit.f])
  | succ k ih =>
    intro n A3 c3 A4 c4 s r W hB hS hV hr3 hc3 hr4 hc4 h
    rw [canonsize_visit.f] at h
    obtain ⟨t, ht, h⟩ := Option.bind_eq_some_iff.mp h
    have H := Aside0.mk h
    have HT := Aside0.mk ht
    have HR3 := Aside0.mk hr3
    have HR4 := Aside0.mk hr4
    have HC3 := Aside0.mk hc3
    have HC4 := Aside0.mk hc4
    have HB := Aside0.mk hB
    have HG := Aside0.mk hG
    clear h ht hr3 hr4 hc3 hc4 hB
    have sC : W.cell? ⟨bs, 0, none⟩ = some (.int .i64 s) := (blk_cell hS 0).trans rfl
    have vC : W.cell? ⟨bv, 0, none⟩ = some (.func (.func 28) #[] #[.pointer (some ⟨bs, 0, none⟩), .pointer (some ⟨bv, 0, none⟩)]) := (blk_cell hV 0).trans rfl
    have sF : W.frozen? ⟨bs, 0, none⟩ = false := blk_frozen hS 0
    have sL : bs < W.heap.size := lt_of_block hS
    have vL : bv < W.heap.size := lt_of_block hV
    go_enter Tryd.func28, Tryd.ntmps28
    go_wp2_with fail
    generalize hW1 : W.alloc (.cells #[.int .i64 n.f0, .int .i64 n.f1, .int .i64 n.f2, .slice A3 n.f3.length c3, .slice A4 n.f4.length c4] 25) = W1
    have hb1 : Below W.heap.size W W1 := hW1 ▸ below_alloc (Below.refl _ _) _
    have HX1 := Aside0.mk (show W1.heap[W.heap.size]? = some (.cells #[.int .i64 n.f0, .int .i64 n.f1, .int .i64 n.f2, .slice A3 n.f3.length c3, .slice A4 n.f4.length c4] 25 (0, 0)) from hW1 ▸ blk_new W _)
    have HS1 := Aside0.mk (blk_below hS hb1)
    have HV1 := Aside0.mk (blk_below hV hb1)
    have HB1 := Aside0.mk (below_step HB.out hb1)
    clear hW1
    have sC1 : W1.cell? ⟨bs, 0, none⟩ = some (.int .i64 s) := (blk_cell HS1.out 0).trans rfl
    have sF1 : W1.frozen? ⟨bs, 0, none⟩ = false := blk_frozen HS1.out 0
    have xC1 : ∀ i, W1.cell? ⟨W.heap.size, i, none⟩ = _ := fun i => blk_cell HX1.out i
    have xL1 := lt_of_block HX1.out
    have sL1 := lt_of_block HS1.out
    clear sC vC sF
    refine Code.wp_mono (Q := fun e a' w' => match e with | .normal => a' = { tmps := #[.agg #[.int .i64 n.f0, .int .i64 n.f1, .int .i64 n.f2, .slice A3 n.f3.length c3, .slice A4 n.f4.length c4], .pointer (some ⟨bs, 0, none⟩), .pointer (some ⟨bv, 0, none⟩), .pointer (some ⟨W.heap.size, 0, none⟩), undef, undef, undef, undef, .int .i64 s, .agg #[.int .i64 n.f0, .int .i64 n.f1, .int .i64 n.f2, .slice A3 n.f3.length c3, .slice A4 n.f4.length c4], .int .i64 t, .int .i64 (IntKind.i64.wrap (s + t)), undef, undef, undef, undef, undef, undef, undef, undef, undef, undef, undef, undef, undef, undef, undef, undef, undef, undef, undef, undef, undef, undef, undef, undef, undef], defers := [] } ∧ ∃ w9 : World, Below W1.heap.size W1 w9 ∧ w' = w9.setCell ⟨bs, 0, none⟩ (.int .i64 (IntKind.i64.wrap (s + t))) | _ => False) ?_ ?_
    rotate_left
    · go_region_with (go_at_call 10; refine (canonsize_Object.calls k _ _ _ _ _ _ _ _ _ t _ (HG.out.below HB1.out.drew) (Kd.C_below HR3.out HB1.out.drew) HC3.out (Kd.C_below HR4.out HB1.out.drew) HC4.out HT.out).mono ?_; rintro e w9 ⟨rfl, hb⟩; have sC9 : w9.cell? ⟨bs, 0, none⟩ = some (.int .i64 s) := (blk_cell (blk_below (blk_drew HS1.out) hb) 0).trans rfl; have sF9 : w9.frozen? ⟨bs, 0, none⟩ = false := blk_frozen (blk_below (blk_drew HS1.out) hb) 0; have sL9 := lt_of_block (blk_below (blk_drew HS1.out) hb))
      all_goals exact ⟨rfl, w9, below_step (Below.refl _ _).drew hb, rfl⟩
    intro e a' w' hq
    cases e <;> first | exact hq.elim | skip
    obtain ⟨rfl, w9, hb9, rfl⟩ := hq
    dsimp only
    clear xC1 xL1 sC1 sF1
    have HS := Aside0.mk (one_setCell (u := .int .i64 (IntKind.i64.wrap (s + t))) (blk_below HS1.out hb9))
    have HX := Aside0.mk (blk_far (blk_below HX1.out hb9) (p := ⟨bs, 0, none⟩) (by have := sL; simp; omega) (.int .i64 (IntKind.i64.wrap (s + t))))
    have HV := Aside0.mk (blk_far (blk_below HV1.out hb9) (p := ⟨bs, 0, none⟩) (by simpa using hne.symm) (.int .i64 (IntKind.i64.wrap (s + t))))
    have HBW := Aside0.mk (below_step hb1 hb9)
    have HB10 := Aside0.mk ((below_step HB1.out hb9).setCell (p := ⟨bs, 0, none⟩) hbs (.int .i64 (IntKind.i64.wrap (s + t))))
    have HK := Aside0.mk (show Kept W (w9.setCell ⟨bs, 0, none⟩ (.int .i64 (IntKind.i64.wrap (s + t)))) bs from ⟨HBW.out.os, HBW.out.tape, HBW.out.output, by have := HBW.out.size; simpa using this, fun j hj hj2 => (Below.heap_setCell _ _ _ _ hj2).trans (HBW.out.block j hj)⟩)
    generalize w9.setCell ⟨bs, 0, none⟩ (.int .i64 (IntKind.i64.wrap (s + t))) = w10 at HS HX HV HB10 HK
    clear HS1 HX1 HV1 HBW HB1 hb9 hb1 sL1 HT
    have xC : ∀ i, w10.cell? ⟨W.heap.size, i, none⟩ = _ := fun i => blk_cell HX.out i
    have xL := lt_of_block HX.out
    rw [show IntKind.i64.wrap (s + t) = wrap64 (s + t) by rw [IntKind.wrap_i64, wrap64]] at HS
    go_wp2_with fail
    by_cases c7 : n.f1 = 7
    · rw [if_pos c7] at H
      go_loopw [15] (fun i wr => ∃ (j : Nat) (s1 : Int), j ≤ n.f4.length ∧ i = .int .i64 j ∧ Aside0 (visits (fun x => visits (canonsize_visit.f k) x.f4) (n.f4.drop j) s1 = some r) ∧ Aside0 (wr.heap[bs]? = some (.cells #[.int .i64 s1] 3 (0, 0))) ∧ Aside0 (wr.heap[W.heap.size]? = some (.cells #[.int .i64 n.f0, .int .i64 n.f1, .int .i64 n.f2, .slice A3 n.f3.length c3, .slice A4 n.f4.length c4] 25 (0, 0))) ∧ Aside0 (wr.heap[bv]? = some (.cells #[.func (.func 28) #[] #[.pointer (some ⟨bs, 0, none⟩), .pointer (some ⟨bv, 0, none⟩)]] 43 (0, 0))) ∧ Aside0 (Below w.heap.size w wr) ∧ Aside0 (Kept W wr bs)) (fun i _ => n.f4.length - (intOf i).toNat)
      case atStart => exact ⟨0, wrap64 (s + t), by omega, rfl, by rw [List.drop_zero]; exact H, HS, HX, HV, HB10, HK⟩
      case round =>
        clear xC xL HS HX HV HB10 HK H
        obtain ⟨j, s1, hj, rfl, H, HS, HX, HV, HBr, HK⟩ := hrel
        have xC : ∀ i, wr.cell? ⟨W.heap.size, i, none⟩ = _ := fun i => blk_cell HX.out i
        have vC := cell_of_one HV.out
        have xL := lt_of_block HX.out
        have vL1 := lt_of_block HV.out
        by_cases hlt : j < n.f4.length
        · have h := H.out
          rw [List.drop_eq_getElem_cons hlt, visits_cons] at h
          obtain ⟨s2, h2, h3⟩ := Option.bind_eq_some_iff.mp h
          have H2 := Aside0.mk h2
          have H3 := Aside0.mk h3
          clear h h2 h3 H
          obtain ⟨ad, B3, d3, B4, d4, rfl, x0, x1, x2, x3, x4, hl3, hi3, hl4, hi4⟩ := at_T25 HR4.out j (by omega) (by omega)
          rw [Int.toNat_natCast] at x0 x1 x2 x3 x4
          rw [rd_T25_nat hlt] at x0 x1 x2 x3 x4 hl3 hi3 hl4 hi4
          replace x0 := (HBr.out.cell (World.block_lt_of_cell? w _ x0)).trans x0
          replace x1 := (HBr.out.cell (World.block_lt_of_cell? w _ x1)).trans x1
          replace x2 := (HBr.out.cell (World.block_lt_of_cell? w _ x2)).trans x2
          replace x3 := (HBr.out.cell (World.block_lt_of_cell? w _ x3)).trans x3
          replace x4 := (HBr.out.cell (World.block_lt_of_cell? w _ x4)).trans x4
          have HI3 := Aside0.mk hi3
          have HL3 := Aside0.mk hl3
          have HI4 := Aside0.mk hi4
          have HL4 := Aside0.mk hl4
          clear hi3 hl3 hi4 hl4
          go_wp2_with fail
          have hl63 := HR4.out.2.1
          have hx63 := HI4.out.2.1
          have HKa := Aside0.mk (HK.out.trans (Kept.of_below (below_alloc (Below.refl _ _) (.cells #[.int .i64 n.f4[j].f0, .int .i64 n.f4[j].f1, .int .i64 n.f4[j].f2, .slice B3 n.f4[j].f3.length d3, .slice B4 n.f4[j].f4.length d4] 25)) bs))
          have HSa := Aside0.mk (blk_alloc HS.out (.cells #[.int .i64 n.f4[j].f0, .int .i64 n.f4[j].f1, .int .i64 n.f4[j].f2, .slice B3 n.f4[j].f3.length d3, .slice B4 n.f4[j].f4.length d4] 25))
          have HXa := Aside0.mk (blk_alloc HX.out (.cells #[.int .i64 n.f4[j].f0, .int .i64 n.f4[j].f1, .int .i64 n.f4[j].f2, .slice B3 n.f4[j].f3.length d3, .slice B4 n.f4[j].f4.length d4] 25))
          have HVa := Aside0.mk (blk_alloc HV.out (.cells #[.int .i64 n.f4[j].f0, .int .i64 n.f4[j].f1, .int .i64 n.f4[j].f2, .slice B3 n.f4[j].f3.length d3, .slice B4 n.f4[j].f4.length d4] 25))
          have HBa := Aside0.mk (below_alloc HBr.out (.cells #[.int .i64 n.f4[j].f0, .int .i64 n.f4[j].f1, .int .i64 n.f4[j].f2, .slice B3 n.f4[j].f3.length d3, .slice B4 n.f4[j].f4.length d4] 25))
          go_wp2_with fail
          generalize wr.alloc (.cells #[.int .i64 n.f4[j].f0, .int .i64 n.f4[j].f1, .int .i64 n.f4[j].f2, .slice B3 n.f4[j].f3.length d3, .slice B4 n.f4[j].f4.length d4] 25) = wq at HKa HSa HXa HVa HBa ⊢
          clear HS HX HV HBr HK xC vC xL vL1 x0 x1 x2 x3 x4
          clear c7
          go_loopw [28] (fun i wr => ∃ (q : Nat) (s3 : Int), q ≤ n.f4[j].f4.length ∧ i = .int .i64 q ∧ Aside0 (visits (canonsize_visit.f k) (n.f4[j].f4.drop q) s3 = some s2) ∧ Aside0 (wr.heap[bs]? = some (.cells #[.int .i64 s3] 3 (0, 0))) ∧ Aside0 (wr.heap[W.heap.size]? = some (.cells #[.int .i64 n.f0, .int .i64 n.f1, .int .i64 n.f2, .slice A3 n.f3.length c3, .slice (some ad) n.f4.length c4] 25 (0, 0))) ∧ Aside0 (wr.heap[bv]? = some (.cells #[.func (.func 28) #[] #[.pointer (some ⟨bs, 0, none⟩), .pointer (some ⟨bv, 0, none⟩)]] 43 (0, 0))) ∧ Aside0 (Below w.heap.size w wr) ∧ Aside0 (Kept W wr bs)) (fun i _ => n.f4[j].f4.length - (intOf i).toNat)
          case atStart => exact ⟨0, s1, by omega, rfl, by rw [List.drop_zero]; exact H2, HSa, HXa, HVa, HBa, HKa⟩
          case round =>
            clear H2 HSa HXa HVa HBa HKa
            obtain ⟨q, s3, hq, rfl, HQ, HS, HX, HV, HBr, HK⟩ := hrel
            by_cases hqt : q < n.f4[j].f4.length
            · have h := HQ.out
              rw [List.drop_eq_getElem_cons hqt, visits_cons] at h
              obtain ⟨s4, h2, h3⟩ := Option.bind_eq_some_iff.mp h
              have H4 := Aside0.mk h2
              have H5 := Aside0.mk h3
              clear h h2 h3 HQ
              obtain ⟨ae, E3, e3, E4, e4, rfl, x0, x1, x2, x3, x4, hl3, hi3, hl4, hi4⟩ := at_T25 HI4.out q (by omega) (by omega)
              rw [Int.toNat_natCast] at x0 x1 x2 x3 x4
              rw [rd_T25_nat hqt] at x0 x1 x2 x3 x4 hl3 hi3 hl4 hi4
              replace x0 := (HBr.out.cell (World.block_lt_of_cell? w _ x0)).trans x0
              replace x1 := (HBr.out.cell (World.block_lt_of_cell? w _ x1)).trans x1
              replace x2 := (HBr.out.cell (World.block_lt_of_cell? w _ x2)).trans x2
              replace x3 := (HBr.out.cell (World.block_lt_of_cell? w _ x3)).trans x3
              replace x4 := (HBr.out.cell (World.block_lt_of_cell? w _ x4)).trans x4
              have J3 := Aside0.mk hi3
              have J5 := Aside0.mk hl3
              have J4 := Aside0.mk hi4
              have J6 := Aside0.mk hl4
              clear hi3 hl3 hi4 hl4
              have vC := cell_of_one HV.out
              have vL1 := lt_of_block HV.out
              go_wp2_with fail
              refine (ih n.f4[j].f4[q] E3 e3 E4 e4 s3 s4 _ (below_alloc HBr.out _) (blk_alloc HS.out _) (blk_alloc HV.out _) J3.out J5.out J4.out J6.out H4.out).mono ?_
              rintro e w11 ⟨rfl, hS', hK'⟩
              have hKK : Kept wr w11 bs := (Kept.of_below (below_alloc (Below.refl _ _) _) bs).trans hK'
              have HS' := Aside0.mk hS'
              have HX' := Aside0.mk (hKK.blk HX.out (by have := sL; omega))
              have HV' := Aside0.mk (hKK.blk HV.out hne.symm)
              have HB' := Aside0.mk (hKK.below HBr.out hbs)
              have HK' := Aside0.mk (HK.out.trans hKK)
              clear hS' hK' hKK HS HX HV HBr HK vC vL1 x0 x1 x2 x3 x4
              go_wp2_with fail
              go_roundw
              case rel => exact ⟨q + 1, s4, by omega, rfl, H5, HS', HX', HV', HB', HK'⟩
              case measure => simp [intOf]; omega
            · obtain rfl : q = n.f4[j].f4.length := by omega
              have h := HQ.out
              rw [List.drop_length, visits_nil] at h
              obtain rfl := Option.some.inj h
              go_wp2_with fail
              exact ⟨⟨j + 1, s3, by omega, rfl, H3, HS, HX, HV, HBr, HK⟩, by simp [intOf]; omega⟩
        · obtain rfl : j = n.f4.length := by omega
          have h := H.out
          rw [List.drop_length, visits_nil] at h
          obtain rfl := Option.some.inj h
          go_wp2_with fail
          go_end0
          exact ⟨rfl, HS.out, HK.out⟩
    · rw [if_neg c7] at H
      go_loopw [15] (fun i wr => ∃ (j : Nat) (s1 : Int), j ≤ n.f4.length ∧ i = .int .i64 j ∧ Aside0 (visits (canonsize_visit.f k) (n.f4.drop j) s1 = some r) ∧ Aside0 (wr.heap[bs]? = some (.cells #[.int .i64 s1] 3 (0, 0))) ∧ Aside0 (wr.heap[W.heap.size]? = some (.cells #[.int .i64 n.f0, .int .i64 n.f1, .int .i64 n.f2, .slice A3 n.f3.length c3, .slice A4 n.f4.length c4] 25 (0, 0))) ∧ Aside0 (wr.heap[bv]? = some (.cells #[.func (.func 28) #[] #[.pointer (some ⟨bs, 0, none⟩), .pointer (some ⟨bv, 0, none⟩)]] 43 (0, 0))) ∧ Aside0 (Below w.heap.size w wr) ∧ Aside0 (Kept W wr bs)) (fun i _ => n.f4.length - (intOf i).toNat)
      case atStart => exact ⟨0, wrap64 (s + t), by omega, rfl, by rw [List.drop_zero]; exact H, HS, HX, HV, HB10, HK⟩
      case round =>
        clear xC xL HS HX HV HB10 HK H
        obtain ⟨j, s1, hj, rfl, H, HS, HX, HV, HBr, HK⟩ := hrel
        have xC : ∀ i, wr.cell? ⟨W.heap.size, i, none⟩ = _ := fun i => blk_cell HX.out i
        have vC := cell_of_one HV.out
        have xL := lt_of_block HX.out
        have vL1 := lt_of_block HV.out
        by_cases hlt : j < n.f4.length
        · have h := H.out
          rw [List.drop_eq_getElem_cons hlt, visits_cons] at h
          obtain ⟨s2, h2, h3⟩ := Option.bind_eq_some_iff.mp h
          have H2 := Aside0.mk h2
          have H3 := Aside0.mk h3
          clear h h2 h3 H
          obtain ⟨ad, B3, d3, B4, d4, rfl, x0, x1, x2, x3, x4, hl3, hi3, hl4, hi4⟩ := at_T25 HR4.out j (by omega) (by omega)
          rw [Int.toNat_natCast] at x0 x1 x2 x3 x4
          rw [rd_T25_nat hlt] at x0 x1 x2 x3 x4 hl3 hi3 hl4 hi4
          replace x0 := (HBr.out.cell (World.block_lt_of_cell? w _ x0)).trans x0
          replace x1 := (HBr.out.cell (World.block_lt_of_cell? w _ x1)).trans x1
          replace x2 := (HBr.out.cell (World.block_lt_of_cell? w _ x2)).trans x2
          replace x3 := (HBr.out.cell (World.block_lt_of_cell? w _ x3)).trans x3
          replace x4 := (HBr.out.cell (World.block_lt_of_cell? w _ x4)).trans x4
          have HI3 := Aside0.mk hi3
          have HL3 := Aside0.mk hl3
          have HI4 := Aside0.mk hi4
          have HL4 := Aside0.mk hl4
          clear hi3 hl3 hi4 hl4
          go_wp2_with fail
          refine (ih n.f4[j] B3 d3 B4 d4 s1 s2 _ (below_alloc HBr.out _) (blk_alloc HS.out _) (blk_alloc HV.out _) HI3.out HL3.out HI4.out HL4.out H2.out).mono ?_
          rintro e w11 ⟨rfl, hS', hK'⟩
          have hKK : Kept wr w11 bs := (Kept.of_below (below_alloc (Below.refl _ _) _) bs).trans hK'
          have HS' := Aside0.mk hS'
          have HX' := Aside0.mk (hKK.blk HX.out (by have := sL; omega))
          have HV' := Aside0.mk (hKK.blk HV.out hne.symm)
          have HB' := Aside0.mk (hKK.below HBr.out hbs)
          have HK' := Aside0.mk (HK.out.trans hKK)
          clear hS' hK' hKK HS HX HV HBr HK xC vC xL vL1 x0 x1 x2 x3 x4
          have hl63 := HR4.out.2.1
          go_wp2_with fail
          exact ⟨⟨j + 1, s2, by omega, rfl, H3, HS', HX', HV', HB', HK'⟩, by simp [intOf]; omega⟩
        · obtain rfl : j = n.f4.length := by omega
          have h := H.out
          rw [List.drop_length, visits_nil] at h
          obtain rfl := Option.some.inj h
          go_wp2_with fail
          go_end0
          exact ⟨rfl, HS.out, HK.out⟩
def canonsize_Node.f (k : Nat) (a0_0 : Int) (a0_1 : Int) (a0_2 : Int) (l0_3 : List Int) (l0_4 : List (S25)) : Option (Int) := canonsize_visit.f k ⟨a0_0, a0_1, a0_2, l0_3, l0_4⟩ 0
theorem visits_mono {g g' : S25 → Int → Option Int} (h : ∀ x s, LeO (g x s) (g' x s)) : ∀ (l : List S25) (s : Int), LeO (visits g l s) (visits g' l s)
  | [], s => LeO.refl _
  | x :: xs, s => by
    rw [visits_cons, visits_cons]
    exact LeO.bind (h x s) (fun t => visits_mono h xs t)
theorem canonsize_visit.mono : ∀ (k : Nat) (n : S25) (s : Int), LeO (canonsize_visit.f k n s) (canonsize_visit.f (k + 1) n s)
  | 0, n, s => LeO.none _
  | k + 1, n, s => by
    rw [canonsize_visit.f, canonsize_visit.f]
    refine LeO.bind (canonsize_Object.mono _ _ _ _ _ k) (fun t => ?_)
    by_cases c : n.f1 = 7
    · rw [if_pos c, if_pos c]
      exact visits_mono (fun x s => visits_mono (fun y s => canonsize_visit.mono k y s) x.f4 s) _ _
    · rw [if_neg c, if_neg c]
      exact visits_mono (fun y s => canonsize_visit.mono k y s) _ _
theorem canonsize_Node.mono : ∀ a0 a1 a2 a3 a4 k, LeO (canonsize_Node.f k a0 a1 a2 a3 a4) (canonsize_Node.f (k + 1) a0 a1 a2 a3 a4) := fun _ _ _ _ _ k => canonsize_visit.mono k _ _
set_option maxHeartbeats 1600000 in
set_option maxRecDepth 100000 in
theorem canonsize_Node.calls (k : Nat) (a0_0 : Int) (a0_1 : Int) (a0_2 : Int) (A0_3 : Option Addr) (c0_3 : Nat) (l0_3 : List Int) (A0_4 : Option Addr) (c0_4 : Nat) (l0_4 : List (S25)) (r : Int) (w : World) (hG : Glob true w) (hr0_3 : Kd.C (Kd.int .u8) w A0_3 l0_3.length l0_3) (hc0_3 : l0_3.length ≤ c0_3) (hr0_4 : Kd.C k25 w A0_4 l0_4.length l0_4) (hc0_4 : l0_4.length ≤ c0_4) (h : canonsize_Node.f k a0_0 a0_1 a0_2 l0_3 l0_4 = some r) :
    Calls Tryd.prog 12 #[.agg #[.int .i64 a0_0, .int .i64 a0_1, .int .i64 a0_2, .slice A0_3 l0_3.length c0_3, .slice A0_4 l0_4.length c0_4]] w fun e w' => e = .returned (.int .i64 r) ∧ Below w.heap.size w w' := by
  have H := Aside0.mk h
  have HR3 := Aside0.mk hr0_3
  have HC3 := Aside0.mk hc0_3
  have HR4 := Aside0.mk hr0_4
  have HC4 := Aside0.mk hc0_4
  have HG := Aside0.mk hG
  clear h hr0_3 hc0_3 hr0_4 hc0_4 hG
  go_enter Tryd.func12, Tryd.ntmps12
  go_wp2_with fail
  refine (visit_calls w HG.out (w.heap.size + 1) (w.heap.size + 1 + 1) (by omega) (by omega) (by omega) k ⟨a0_0, a0_1, a0_2, l0_3, l0_4⟩ A0_3 c0_3 A0_4 c0_4 0 r _ (below_alloc (below_alloc (below_alloc (Below.refl _ _) _) _) _) (blk_alloc (blk_newN (by simp)) _) (blk_newN (by simp)) HR3.out HC3.out HR4.out HC4.out H.out).mono ?_
  rintro e w1 ⟨rfl, hS, hK⟩
  have HB1 := Aside0.mk (hK.below (below_alloc (below_alloc (below_alloc (Below.refl w.heap.size w) _) _) _) (by omega))
  have sC := cell_of_one hS
  have sL := lt_of_block hS
  clear hS hK H HR3 HC3 HR4 HC4 HG
  go_wp2
  go_ret
  exact ⟨by first | rfl | (simp; done), HB1.out⟩

end Go.Proofs.YtkiompgbmjoflaaDoor.P

namespace Go.Proofs.YtkiompgbmjoflaaDoor.P
open Go.RowKit Go.Proofs.YtkiompgbmjoflaaDoorW.PrintWords Go.Proofs.YtkiompgbmjoflaaDoorW.PrintLast Go.Proofs.YtkiompgbmjoflaaDoorW.PrintMore
attribute [local go_sem] max2_int min2_int max_two min_two max_three min_three max_four min_four   -- for this text's walks alone
set_option linter.unusedVariables false
set_option linter.unusedSimpArgs false

variable {gb : Bool}
/-! ### canonsize_Total: function 14 -/
def canonsize_Total.f (k : Nat) (a0_0 : Int) (a0_1 : Int) (a0_2 : Int) (l0_3 : List Int) (l0_4 : List (S25)) : Option (Int) := (canonsize_Node.f k a0_0 a0_1 a0_2 l0_3 l0_4).bind fun t110 => (some (wrap64 (t110 + 1)))
theorem canonsize_Total.mono : ∀ a0 a1 a2 a3 a4 k, LeO (canonsize_Total.f k a0 a1 a2 a3 a4) (canonsize_Total.f (k + 1) a0 a1 a2 a3 a4) := by
  intro a0 a1 a2 a3 a4 k
  unfold canonsize_Total.f
  repeat' first
      | (with_reducible exact canonsize_Node.mono _ _ _ _ _ _)
      | (with_reducible exact LeO.refl _)
      | (with_reducible exact LeO.none _)
      | (with_reducible refine LeO.ite ?_ ?_)
      | (with_reducible refine LeO.bind ?_ (fun _ => ?_))
      | exact canonsize_Node.mono _ _ _ _ _ _
      | exact LeO.none _
      | refine LeO.ite ?_ ?_
      | refine LeO.bind ?_ (fun _ => ?_)
set_option maxHeartbeats 8000000 in
set_option maxRecDepth 100000 in
theorem canonsize_Total.calls (k : Nat) (a0_0 : Int) (a0_1 : Int) (a0_2 : Int) (A0_3 : Option Addr) (c0_3 : Nat) (l0_3 : List Int) (A0_4 : Option Addr) (c0_4 : Nat) (l0_4 : List (S25)) (r : Int) (w : World) (hG : Glob true w) (hr0_3 : Kd.C (Kd.int .u8) w A0_3 l0_3.length l0_3) (hc0_3 : l0_3.length ≤ c0_3) (hr0_4 : Kd.C k25 w A0_4 l0_4.length l0_4) (hc0_4 : l0_4.length ≤ c0_4) (h : canonsize_Total.f k a0_0 a0_1 a0_2 l0_3 l0_4 = some r) :
    Calls Tryd.prog 14 #[.agg #[.int .i64 a0_0, .int .i64 a0_1, .int .i64 a0_2, .slice A0_3 l0_3.length c0_3, .slice A0_4 l0_4.length c0_4]] w fun e w' => e = .returned (.int .i64 r) ∧ Below w.heap.size w w' := by
  have hu25 := Tryd.underlying25
  have HG := Aside0.mk hG
  clear hG
  have HR0_3 := Aside0.mk hr0_3
  have HC0_3 := Aside0.mk hc0_3
  clear hr0_3 hc0_3
  have HR0_4 := Aside0.mk hr0_4
  have HC0_4 := Aside0.mk hc0_4
  clear hr0_4 hc0_4
  have HB := Aside0.mk (Below.refl w.heap.size w)
  have H : ((canonsize_Node.f k a0_0 a0_1 a0_2 l0_3 l0_4).bind fun t110 => (some (wrap64 (t110 + 1)))) = some r := h
  clear h
  replace H := Option.bind_eq_some_iff.mp H
  obtain ⟨t110, A20, H⟩ := H
  replace H : (some (wrap64 (t110 + 1))) = some r := H
  have A2 := Aside0.mk A20
  clear A20
  obtain rfl := Option.some.inj H
  go_enter Tryd.func14, Tryd.ntmps14
  go_wp2_with (first | ((with_reducible refine gate_dst (N := 1) rfl ?_); refine box_event ?hg (N := 1) ?hd (cs := #[.int .i64 a0_0, .int .i64 a0_1, .int .i64 a0_2, .slice A0_3 l0_3.length c0_3, .slice A0_4 l0_4.length c0_4]) (t := 25) ?hr ?_; (case hd => rfl); (case hg => rfl); (case hr => first | (go_simp; done) | (go_simp; rfl)); intro gb109 hg w3 hbox hb; have n0_ := Aside0.mk (below_step (by repeat (first | (with_reducible first | exact HB.out | apply below_alloc | apply pw_below_drewN | apply below_drew1) | exact HB.out)) hb); have n1_ := Aside0.mk (hbox); have n2_ := Aside0.mk ((by rw [hg]; exact (below_size (by repeat (first | (with_reducible first | exact HB.out | apply below_alloc | apply pw_below_drewN | apply below_drew1) | exact HB.out))) : w.heap.size ≤ gb109)); have n3_ := Aside0.mk ((by rw [hg]; exact (below_size (by repeat (first | (with_reducible first | exact HB.out | apply below_alloc | apply pw_below_drewN | apply below_drew1) | exact HB.out))) : w.heap.size ≤ gb109)); clear HB; have HB := n0_; have BK109 := n1_; have GW109 := n2_; have GE109 := n3_; clear n0_ n1_ n2_ n3_; clear hb hbox hg; have hcz4_0 : w3.cell? ⟨gb109, 0, none⟩ = some (.int .i64 a0_0) := (blk_cell BK109.out 0).trans rfl; have hcz4_1 : w3.cell? ⟨gb109, 1, none⟩ = some (.int .i64 a0_1) := (blk_cell BK109.out 1).trans rfl; have hcz4_2 : w3.cell? ⟨gb109, 2, none⟩ = some (.int .i64 a0_2) := (blk_cell BK109.out 2).trans rfl; have hcz4_3 : w3.cell? ⟨gb109, 3, none⟩ = some (.slice A0_3 l0_3.length c0_3) := (blk_cell BK109.out 3).trans rfl; have hcz4_4 : w3.cell? ⟨gb109, 4, none⟩ = some (.slice A0_4 l0_4.length c0_4) := (blk_cell BK109.out 4).trans rfl; have hfz4_0 := blk_frozen BK109.out 0; have hfz4_1 := blk_frozen BK109.out 1; have hfz4_2 := blk_frozen BK109.out 2; have hfz4_3 := blk_frozen BK109.out 3; have hfz4_4 := blk_frozen BK109.out 4) | ((with_reducible refine gate_callee (f := 12) rfl ?_); refine goesL_ (some 4) rfl rfl Tryd.func12 (by kernel_rfl) rfl #[.agg #[.int .i64 a0_0, .int .i64 a0_1, .int .i64 a0_2, .slice A0_3 l0_3.length c0_3, .slice A0_4 l0_4.length c0_4]] rfl (by (try simp only [List.map_toArray, List.map_cons, List.map_nil]); first | done | rfl | (simp only [List.length_drop, List.length_take]; rfl)) ?_; (with_reducible refine (canonsize_Node.calls k a0_0 a0_1 a0_2 _ _ l0_3 _ _ l0_4 t110 _ ?side1 ?side2 ?side3 ?side4 ?side5 A2.out).mono ?_); (case side1 => exact Glob.below HG.out (by repeat (first | (with_reducible first | exact HB.out | apply below_alloc | apply pw_below_drewN | apply below_drew1 | refine below_set ?_ GE109.out) | exact HB.out))); (case side2 => repeat (first | exact (Kd.C_below HR0_3.out HB.out) | (with_reducible refine Kd.C_alloc ?_ _) | (with_reducible refine Kd.C_drewN ?_ _) | (with_reducible refine Kd.C_drew ?_))); (case side3 => exact HC0_3.out); (case side4 => repeat (first | exact (Kd.C_below HR0_4.out HB.out) | (with_reducible refine Kd.C_alloc ?_ _) | (with_reducible refine Kd.C_drewN ?_ _) | (with_reducible refine Kd.C_drew ?_))); (case side5 => exact HC0_4.out); rintro e w5 ⟨rfl, hb⟩; refine ⟨_, rfl, ?_⟩; have n0_ := Aside0.mk (blk_below (g := gb109) (o := .cells #[.int .i64 a0_0, .int .i64 a0_1, .int .i64 a0_2, .slice A0_3 l0_3.length c0_3, .slice A0_4 l0_4.length c0_4] 25 (0, 0)) (by (with_reducible repeat (first | refine blk_drewN ?_ _ | refine blk_drew ?_ | refine blk_alloc ?_ _)); exact BK109.out) hb); have n1_ := Aside0.mk (below_step (by repeat (first | (with_reducible first | exact HB.out | apply below_alloc | apply pw_below_drewN | apply below_drew1 | refine below_set ?_ GE109.out) | exact HB.out)) hb); clear BK109; clear HB; have BK109 := n0_; have HB := n1_; clear n0_ n1_; (try clear hb); (try clear hb2); (try clear hk); (try clear hi)))
  go_ret
  exact ⟨by first | rfl | (simp [errW_none, errW_some] <;> rfl) | (simp [*, errW_none, errW_some] <;> rfl), by repeat (first | (with_reducible first | exact HB.out | apply below_alloc | apply pw_below_drewN | apply below_drew1 | refine below_set ?_ GE109.out) | exact HB.out)⟩

end Go.Proofs.YtkiompgbmjoflaaDoor.P

namespace Go.Proofs.YtkiompgbmjoflaaDoor.P
open Go.RowKit Go.Proofs.YtkiompgbmjoflaaDoorW.PrintWords Go.Proofs.YtkiompgbmjoflaaDoorW.PrintLast Go.Proofs.YtkiompgbmjoflaaDoorW.PrintMore
attribute [local go_sem] max2_int min2_int max_two min_two max_three min_three max_four min_four   -- for this text's walks alone
set_option linter.unusedVariables false
set_option linter.unusedSimpArgs false

variable {gb : Bool}
/-! ### capnpref11_Uniform: function 26 -/
def capnpref11_Uniform.l0 : Nat → Int → Int → Int → Int → Int → Int → List Int → List (S25) → Option (Int × Int)
  | 0, _, _, _, _, _, _, _, _ => none
  | k + 1, x4, x5, x6, x153000, x153001, x153002, x153003, x153004 => if x6 < (x153004.length : Int) then (if 0 ≤ x6 then (if (wrap64 ((((rd_T25 x153004 x6).f3).length : Int) / 8)) > x4 then (if (((rd_T25 x153004 x6).f4).length : Int) > x5 then (capnpref11_Uniform.l0 k (wrap64 ((((rd_T25 x153004 x6).f3).length : Int) / 8)) (((rd_T25 x153004 x6).f4).length : Int) (wrap64 (x6 + 1)) x153000 x153001 x153002 x153003 x153004) else (capnpref11_Uniform.l0 k (wrap64 ((((rd_T25 x153004 x6).f3).length : Int) / 8)) x5 (wrap64 (x6 + 1)) x153000 x153001 x153002 x153003 x153004)) else (if (((rd_T25 x153004 x6).f4).length : Int) > x5 then (capnpref11_Uniform.l0 k x4 (((rd_T25 x153004 x6).f4).length : Int) (wrap64 (x6 + 1)) x153000 x153001 x153002 x153003 x153004) else (capnpref11_Uniform.l0 k x4 x5 (wrap64 (x6 + 1)) x153000 x153001 x153002 x153003 x153004))) else (none)) else (some (x4, x5))
def capnpref11_Uniform.f (k : Nat) (a0_0 : Int) (a0_1 : Int) (a0_2 : Int) (l0_3 : List Int) (l0_4 : List (S25)) : Option (Int × Int) := capnpref11_Uniform.l0 k 0 0 0 a0_0 a0_1 a0_2 l0_3 l0_4
theorem capnpref11_Uniform.mono_l : ∀ k, (∀ y0 y1 y2 y3 y4 y5 y6 y7, LeO (capnpref11_Uniform.l0 k y0 y1 y2 y3 y4 y5 y6 y7) (capnpref11_Uniform.l0 (k + 1) y0 y1 y2 y3 y4 y5 y6 y7))
  | 0 => fun _ _ _ _ _ _ _ _ r h => by simp [capnpref11_Uniform.l0] at h
  | k + 1 => by
    have ih0 := capnpref11_Uniform.mono_l k
    · intro y0 y1 y2 y3 y4 y5 y6 y7
      unfold capnpref11_Uniform.l0
      repeat' first
      | (with_reducible exact ih0 _ _ _ _ _ _ _ _)
      | (with_reducible exact LeO.refl _)
      | (with_reducible exact LeO.none _)
      | (with_reducible refine LeO.ite ?_ ?_)
      | (with_reducible refine LeO.bind ?_ (fun _ => ?_))
      | exact ih0 _ _ _ _ _ _ _ _
      | exact LeO.none _
      | refine LeO.ite ?_ ?_
      | refine LeO.bind ?_ (fun _ => ?_)
theorem capnpref11_Uniform.mono : ∀ a0 a1 a2 a3 a4 k, LeO (capnpref11_Uniform.f k a0 a1 a2 a3 a4) (capnpref11_Uniform.f (k + 1) a0 a1 a2 a3 a4) := by
  intro a0 a1 a2 a3 a4 k
  have ih0 := capnpref11_Uniform.mono_l k
  unfold capnpref11_Uniform.f
  repeat' first
      | (with_reducible exact ih0 _ _ _ _ _ _ _ _)
      | (with_reducible exact LeO.refl _)
      | (with_reducible exact LeO.none _)
      | (with_reducible refine LeO.ite ?_ ?_)
      | (with_reducible refine LeO.bind ?_ (fun _ => ?_))
      | exact ih0 _ _ _ _ _ _ _ _
      | exact LeO.none _
      | refine LeO.ite ?_ ?_
      | refine LeO.bind ?_ (fun _ => ?_)
set_option maxHeartbeats 8000000 in
set_option maxRecDepth 100000 in
theorem capnpref11_Uniform.calls (k : Nat) (a0_0 : Int) (a0_1 : Int) (a0_2 : Int) (A0_3 : Option Addr) (c0_3 : Nat) (l0_3 : List Int) (A0_4 : Option Addr) (c0_4 : Nat) (l0_4 : List (S25)) (r1 : Int) (r2 : Int) (w : World) (hr0_3 : Kd.C (Kd.int .u8) w A0_3 l0_3.length l0_3) (hc0_3 : l0_3.length ≤ c0_3) (hr0_4 : Kd.C k25 w A0_4 l0_4.length l0_4) (hc0_4 : l0_4.length ≤ c0_4) (h : capnpref11_Uniform.f k a0_0 a0_1 a0_2 l0_3 l0_4 = some (r1, r2)) :
    Calls Tryd.prog 26 #[.agg #[.int .i64 a0_0, .int .i64 a0_1, .int .i64 a0_2, .slice A0_3 l0_3.length c0_3, .slice A0_4 l0_4.length c0_4]] w fun e w' => e = .returned (.tuple #[.int .i64 r1, .int .i64 r2]) ∧ Below w.heap.size w w' := by
  have hu25 := Tryd.underlying25
  have HR0_3 := Aside0.mk hr0_3
  have HC0_3 := Aside0.mk hc0_3
  clear hr0_3 hc0_3
  have HR0_4 := Aside0.mk hr0_4
  have HC0_4 := Aside0.mk hc0_4
  clear hr0_4 hc0_4
  have HB := Aside0.mk (Below.refl w.heap.size w)
  have H : (capnpref11_Uniform.l0 k 0 0 0 a0_0 a0_1 a0_2 l0_3 l0_4) = some (r1, r2) := h
  clear h
  have H' := Aside0.mk H
  clear H
  go_enter Tryd.func26, Tryd.ntmps26
  go_wp2_with (first | ((with_reducible refine gate_dst (N := 1) rfl ?_); refine box_event ?hg (N := 1) ?hd (cs := #[.int .i64 a0_0, .int .i64 a0_1, .int .i64 a0_2, .slice A0_3 l0_3.length c0_3, .slice A0_4 l0_4.length c0_4]) (t := 25) ?hr ?_; (case hd => rfl); (case hg => rfl); (case hr => first | (go_simp; done) | (go_simp; rfl)); intro gb152 hg w2 hbox hb; have n0_ := Aside0.mk (below_step (by repeat (first | (with_reducible first | exact HB.out | apply below_alloc | apply pw_below_drewN | apply below_drew1) | exact HB.out)) hb); have n1_ := Aside0.mk (hbox); have n2_ := Aside0.mk ((by rw [hg]; exact (below_size (by repeat (first | (with_reducible first | exact HB.out | apply below_alloc | apply pw_below_drewN | apply below_drew1) | exact HB.out))) : w.heap.size ≤ gb152)); have n3_ := Aside0.mk ((by rw [hg]; exact (below_size (by repeat (first | (with_reducible first | exact HB.out | apply below_alloc | apply pw_below_drewN | apply below_drew1) | exact HB.out))) : w.heap.size ≤ gb152)); clear HB; have HB := n0_; have BK152 := n1_; have GW152 := n2_; have GE152 := n3_; clear n0_ n1_ n2_ n3_; clear hb hbox hg))
  go_loopg [4, 5, 6] k (fun kq v4 v5 v6 w' => ∃ (x4_1 : Int) (x5_1 : Int) (x6_1 : Int), v4 = .int .i64 x4_1 ∧ v5 = .int .i64 x5_1 ∧ v6 = .int .i64 x6_1 ∧ Aside0 (capnpref11_Uniform.l0 kq x4_1 x5_1 x6_1 a0_0 a0_1 a0_2 l0_3 l0_4 = some (r1, r2)) ∧ Aside0 (kq ≤ k) ∧ Aside0 (w'.heap[gb152]? = some (.cells #[.int .i64 a0_0, .int .i64 a0_1, .int .i64 a0_2, (.slice A0_3 l0_3.length c0_3), (.slice A0_4 l0_4.length c0_4)] 25 (0, 0))) ∧ Aside0 (Below w.heap.size w w'))
  case atStart => exact ⟨(0), (0), (0), (by first | rfl | (simp; done) | (simp [*]; done)), (by first | rfl | (simp; done) | (simp [*]; done)), (by first | rfl | (simp; done) | (simp [*]; done)), H', ⟨Nat.le_refl _⟩, ⟨by (with_reducible repeat (first | refine blk_drewN ?_ _ | refine blk_drew ?_ | refine blk_alloc ?_ _)); exact BK152.out⟩, ⟨by repeat (first | (with_reducible first | exact HB.out | apply below_alloc | apply pw_below_drewN | apply below_drew1 | refine below_set ?_ GE152.out) | exact HB.out)⟩⟩
  case round =>
    clear H'
    try clear c2
    try clear p2
    obtain ⟨x4_1, x5_1, x6_1, rfl, rfl, rfl, HA, HK1, BK152, HB⟩ := hrel
    cases gk with
    | zero => exact absurd HA.out (by simp [capnpref11_Uniform.l0])
    | succ k1 =>
      have H := HA.out
      clear HA
      simp only [capnpref11_Uniform.l0] at H
      by_cases c3 : x6_1 < (l0_4.length : Int)
      · rw [if_pos c3] at H
        have c3b0 : decide (x6_1 < (l0_4.length : Int)) = true := decide_eq_true c3
        clear c3
        by_cases c4 : 0 ≤ x6_1
        · rw [if_pos c4] at H
          have c4b0 : decide (0 ≤ x6_1) = true := decide_eq_true c4
          clear c4
          by_cases c5 : (wrap64 ((((rd_T25 l0_4 x6_1).f3).length : Int) / 8)) > x4_1
          · rw [if_pos c5] at H
            have c5b0 : decide (x4_1 < (wrap64 ((((rd_T25 l0_4 x6_1).f3).length : Int) / 8))) = true := decide_eq_true c5
            clear c5
            by_cases c6 : (((rd_T25 l0_4 x6_1).f4).length : Int) > x5_1
            · rw [if_pos c6] at H
              have c6b0 : decide (x5_1 < (((rd_T25 l0_4 x6_1).f4).length : Int)) = true := decide_eq_true c6
              clear c6
              have H' := Aside0.mk H
              clear H
              have hcz7_0 : wr.cell? ⟨gb152, 0, none⟩ = some (.int .i64 a0_0) := (blk_cell BK152.out 0).trans rfl
              have hcz7_1 : wr.cell? ⟨gb152, 1, none⟩ = some (.int .i64 a0_1) := (blk_cell BK152.out 1).trans rfl
              have hcz7_2 : wr.cell? ⟨gb152, 2, none⟩ = some (.int .i64 a0_2) := (blk_cell BK152.out 2).trans rfl
              have hcz7_3 : wr.cell? ⟨gb152, 3, none⟩ = some (.slice A0_3 l0_3.length c0_3) := (blk_cell BK152.out 3).trans rfl
              have hcz7_4 : wr.cell? ⟨gb152, 4, none⟩ = some (.slice A0_4 l0_4.length c0_4) := (blk_cell BK152.out 4).trans rfl
              have hfz7_0 := blk_frozen BK152.out 0
              have hfz7_1 := blk_frozen BK152.out 1
              have hfz7_2 := blk_frozen BK152.out 2
              have hfz7_3 := blk_frozen BK152.out 3
              have hfz7_4 := blk_frozen BK152.out 4
              have p153 : 0 ≤ (x6_1 : Int) := of_decide_eq_true (by first | (with_reducible assumption) | assumption)
              have q153 : x6_1 < (l0_4.length : Int) := of_decide_eq_true (by first | (with_reducible assumption) | assumption)
              obtain ⟨ad153, A153_3, c153_3, A153_4, c153_4, e153, hx153_0, hx153_1, hx153_2, hx153_3, hx153_4, hl153_3, hi153_3, hl153_4, hi153_4⟩ := at_T25 HR0_4.out x6_1 p153 q153
              cases e153
              replace hx153_0 := (HB.out.cell (World.block_lt_of_cell? w _ hx153_0)).trans hx153_0
              replace hx153_1 := (HB.out.cell (World.block_lt_of_cell? w _ hx153_1)).trans hx153_1
              replace hx153_2 := (HB.out.cell (World.block_lt_of_cell? w _ hx153_2)).trans hx153_2
              replace hx153_3 := (HB.out.cell (World.block_lt_of_cell? w _ hx153_3)).trans hx153_3
              replace hx153_4 := (HB.out.cell (World.block_lt_of_cell? w _ hx153_4)).trans hx153_4
              have HR153_3 := Aside0.mk hi153_3
              have HC153_3 := Aside0.mk hl153_3
              clear hi153_3 hl153_3
              have HR153_4 := Aside0.mk hi153_4
              have HC153_4 := Aside0.mk hl153_4
              clear hi153_4 hl153_4
              replace p153 := eq_true p153
              replace q153 := eq_true q153
              have p154 : 0 ≤ (x6_1 : Int) := of_decide_eq_true (by first | (with_reducible assumption) | assumption)
              have q154 : x6_1 < (l0_4.length : Int) := of_decide_eq_true (by first | (with_reducible assumption) | assumption)
              obtain ⟨ad154, A154_3, c154_3, A154_4, c154_4, e154, hx154_0, hx154_1, hx154_2, hx154_3, hx154_4, hl154_3, hi154_3, hl154_4, hi154_4⟩ := at_T25 HR0_4.out x6_1 p154 q154
              obtain rfl : ad153 = ad154 := (by injection e154)
              replace hx154_0 := (HB.out.cell (World.block_lt_of_cell? w _ hx154_0)).trans hx154_0
              replace hx154_1 := (HB.out.cell (World.block_lt_of_cell? w _ hx154_1)).trans hx154_1
              replace hx154_2 := (HB.out.cell (World.block_lt_of_cell? w _ hx154_2)).trans hx154_2
              replace hx154_3 := (HB.out.cell (World.block_lt_of_cell? w _ hx154_3)).trans hx154_3
              replace hx154_4 := (HB.out.cell (World.block_lt_of_cell? w _ hx154_4)).trans hx154_4
              have HR154_3 := Aside0.mk hi154_3
              have HC154_3 := Aside0.mk hl154_3
              clear hi154_3 hl154_3
              have HR154_4 := Aside0.mk hi154_4
              have HC154_4 := Aside0.mk hl154_4
              clear hi154_4 hl154_4
              replace p154 := eq_true p154
              replace q154 := eq_true q154
              have ea_ := Option.some.inj (hx153_3.symm.trans hx154_3)
              injection ea_ with ea_ en_ ec_
              subst ea_
              subst ec_
              clear en_
              have ea_ := Option.some.inj (hx153_4.symm.trans hx154_4)
              injection ea_ with ea_ en_ ec_
              subst ea_
              subst ec_
              clear en_
              have p155 : 0 ≤ (x6_1 : Int) := of_decide_eq_true (by first | (with_reducible assumption) | assumption)
              have q155 : x6_1 < (l0_4.length : Int) := of_decide_eq_true (by first | (with_reducible assumption) | assumption)
              obtain ⟨ad155, A155_3, c155_3, A155_4, c155_4, e155, hx155_0, hx155_1, hx155_2, hx155_3, hx155_4, hl155_3, hi155_3, hl155_4, hi155_4⟩ := at_T25 HR0_4.out x6_1 p155 q155
              obtain rfl : ad153 = ad155 := (by injection e155)
              replace hx155_0 := (HB.out.cell (World.block_lt_of_cell? w _ hx155_0)).trans hx155_0
              replace hx155_1 := (HB.out.cell (World.block_lt_of_cell? w _ hx155_1)).trans hx155_1
              replace hx155_2 := (HB.out.cell (World.block_lt_of_cell? w _ hx155_2)).trans hx155_2
              replace hx155_3 := (HB.out.cell (World.block_lt_of_cell? w _ hx155_3)).trans hx155_3
              replace hx155_4 := (HB.out.cell (World.block_lt_of_cell? w _ hx155_4)).trans hx155_4
              have HR155_3 := Aside0.mk hi155_3
              have HC155_3 := Aside0.mk hl155_3
              clear hi155_3 hl155_3
              have HR155_4 := Aside0.mk hi155_4
              have HC155_4 := Aside0.mk hl155_4
              clear hi155_4 hl155_4
              replace p155 := eq_true p155
              replace q155 := eq_true q155
              have ea_ := Option.some.inj (hx153_3.symm.trans hx155_3)
              injection ea_ with ea_ en_ ec_
              subst ea_
              subst ec_
              clear en_
              have ea_ := Option.some.inj (hx153_4.symm.trans hx155_4)
              injection ea_ with ea_ en_ ec_
              subst ea_
              subst ec_
              clear en_
              have p156 : 0 ≤ (x6_1 : Int) := of_decide_eq_true (by first | (with_reducible assumption) | assumption)
              have q156 : x6_1 < (l0_4.length : Int) := of_decide_eq_true (by first | (with_reducible assumption) | assumption)
              obtain ⟨ad156, A156_3, c156_3, A156_4, c156_4, e156, hx156_0, hx156_1, hx156_2, hx156_3, hx156_4, hl156_3, hi156_3, hl156_4, hi156_4⟩ := at_T25 HR0_4.out x6_1 p156 q156
              obtain rfl : ad153 = ad156 := (by injection e156)
              replace hx156_0 := (HB.out.cell (World.block_lt_of_cell? w _ hx156_0)).trans hx156_0
              replace hx156_1 := (HB.out.cell (World.block_lt_of_cell? w _ hx156_1)).trans hx156_1
              replace hx156_2 := (HB.out.cell (World.block_lt_of_cell? w _ hx156_2)).trans hx156_2
              replace hx156_3 := (HB.out.cell (World.block_lt_of_cell? w _ hx156_3)).trans hx156_3
              replace hx156_4 := (HB.out.cell (World.block_lt_of_cell? w _ hx156_4)).trans hx156_4
              have HR156_3 := Aside0.mk hi156_3
              have HC156_3 := Aside0.mk hl156_3
              clear hi156_3 hl156_3
              have HR156_4 := Aside0.mk hi156_4
              have HC156_4 := Aside0.mk hl156_4
              clear hi156_4 hl156_4
              replace p156 := eq_true p156
              replace q156 := eq_true q156
              have ea_ := Option.some.inj (hx153_3.symm.trans hx156_3)
              injection ea_ with ea_ en_ ec_
              subst ea_
              subst ec_
              clear en_
              have ea_ := Option.some.inj (hx153_4.symm.trans hx156_4)
              injection ea_ with ea_ en_ ec_
              subst ea_
              subst ec_
              clear en_
              go_wp2
              go_roundg k1
              case measure => have := HK1.out; omega
              case rel => exact ⟨(wrap64 ((((rd_T25 l0_4 x6_1).f3).length : Int) / 8)), ((((rd_T25 l0_4 x6_1).f4).length : Int)), (wrap64 (x6_1 + 1)), (by first | rfl | (simp; done) | (simp [*]; done)), (by first | rfl | (simp; done) | (simp [*]; done)), (by first | rfl | (simp; done) | (simp [*]; done)), H', ⟨by have := HK1.out; omega⟩, ⟨by (with_reducible repeat (first | refine blk_drewN ?_ _ | refine blk_drew ?_ | refine blk_alloc ?_ _)); exact BK152.out⟩, ⟨by repeat (first | (with_reducible first | exact HB.out | apply below_alloc | apply pw_below_drewN | apply below_drew1 | refine below_set ?_ GE152.out) | exact HB.out)⟩⟩
            · rw [if_neg c6] at H
              have c6b0 : decide (x5_1 < (((rd_T25 l0_4 x6_1).f4).length : Int)) = false := decide_eq_false c6
              clear c6
              have H' := Aside0.mk H
              clear H
              have hcz8_0 : wr.cell? ⟨gb152, 0, none⟩ = some (.int .i64 a0_0) := (blk_cell BK152.out 0).trans rfl
              have hcz8_1 : wr.cell? ⟨gb152, 1, none⟩ = some (.int .i64 a0_1) := (blk_cell BK152.out 1).trans rfl
              have hcz8_2 : wr.cell? ⟨gb152, 2, none⟩ = some (.int .i64 a0_2) := (blk_cell BK152.out 2).trans rfl
              have hcz8_3 : wr.cell? ⟨gb152, 3, none⟩ = some (.slice A0_3 l0_3.length c0_3) := (blk_cell BK152.out 3).trans rfl
              have hcz8_4 : wr.cell? ⟨gb152, 4, none⟩ = some (.slice A0_4 l0_4.length c0_4) := (blk_cell BK152.out 4).trans rfl
              have hfz8_0 := blk_frozen BK152.out 0
              have hfz8_1 := blk_frozen BK152.out 1
              have hfz8_2 := blk_frozen BK152.out 2
              have hfz8_3 := blk_frozen BK152.out 3
              have hfz8_4 := blk_frozen BK152.out 4
              have p153 : 0 ≤ (x6_1 : Int) := of_decide_eq_true (by first | (with_reducible assumption) | assumption)
              have q153 : x6_1 < (l0_4.length : Int) := of_decide_eq_true (by first | (with_reducible assumption) | assumption)
              obtain ⟨ad153, A153_3, c153_3, A153_4, c153_4, e153, hx153_0, hx153_1, hx153_2, hx153_3, hx153_4, hl153_3, hi153_3, hl153_4, hi153_4⟩ := at_T25 HR0_4.out x6_1 p153 q153
              cases e153
              replace hx153_0 := (HB.out.cell (World.block_lt_of_cell? w _ hx153_0)).trans hx153_0
              replace hx153_1 := (HB.out.cell (World.block_lt_of_cell? w _ hx153_1)).trans hx153_1
              replace hx153_2 := (HB.out.cell (World.block_lt_of_cell? w _ hx153_2)).trans hx153_2
              replace hx153_3 := (HB.out.cell (World.block_lt_of_cell? w _ hx153_3)).trans hx153_3
              replace hx153_4 := (HB.out.cell (World.block_lt_of_cell? w _ hx153_4)).trans hx153_4
              have HR153_3 := Aside0.mk hi153_3
              have HC153_3 := Aside0.mk hl153_3
              clear hi153_3 hl153_3
              have HR153_4 := Aside0.mk hi153_4
              have HC153_4 := Aside0.mk hl153_4
              clear hi153_4 hl153_4
              replace p153 := eq_true p153
              replace q153 := eq_true q153
              have p154 : 0 ≤ (x6_1 : Int) := of_decide_eq_true (by first | (with_reducible assumption) | assumption)
              have q154 : x6_1 < (l0_4.length : Int) := of_decide_eq_true (by first | (with_reducible assumption) | assumption)
              obtain ⟨ad154, A154_3, c154_3, A154_4, c154_4, e154, hx154_0, hx154_1, hx154_2, hx154_3, hx154_4, hl154_3, hi154_3, hl154_4, hi154_4⟩ := at_T25 HR0_4.out x6_1 p154 q154
              obtain rfl : ad153 = ad154 := (by injection e154)
              replace hx154_0 := (HB.out.cell (World.block_lt_of_cell? w _ hx154_0)).trans hx154_0
              replace hx154_1 := (HB.out.cell (World.block_lt_of_cell? w _ hx154_1)).trans hx154_1
              replace hx154_2 := (HB.out.cell (World.block_lt_of_cell? w _ hx154_2)).trans hx154_2
              replace hx154_3 := (HB.out.cell (World.block_lt_of_cell? w _ hx154_3)).trans hx154_3
              replace hx154_4 := (HB.out.cell (World.block_lt_of_cell? w _ hx154_4)).trans hx154_4
              have HR154_3 := Aside0.mk hi154_3
              have HC154_3 := Aside0.mk hl154_3
              clear hi154_3 hl154_3
              have HR154_4 := Aside0.mk hi154_4
              have HC154_4 := Aside0.mk hl154_4
              clear hi154_4 hl154_4
              replace p154 := eq_true p154
              replace q154 := eq_true q154
              have ea_ := Option.some.inj (hx153_3.symm.trans hx154_3)
              injection ea_ with ea_ en_ ec_
              subst ea_
              subst ec_
              clear en_
              have ea_ := Option.some.inj (hx153_4.symm.trans hx154_4)
              injection ea_ with ea_ en_ ec_
              subst ea_
              subst ec_
              clear en_
              have p155 : 0 ≤ (x6_1 : Int) := of_decide_eq_true (by first | (with_reducible assumption) | assumption)
              have q155 : x6_1 < (l0_4.length : Int) := of_decide_eq_true (by first | (with_reducible assumption) | assumption)
              obtain ⟨ad155, A155_3, c155_3, A155_4, c155_4, e155, hx155_0, hx155_1, hx155_2, hx155_3, hx155_4, hl155_3, hi155_3, hl155_4, hi155_4⟩ := at_T25 HR0_4.out x6_1 p155 q155
              obtain rfl : ad153 = ad155 := (by injection e155)
              replace hx155_0 := (HB.out.cell (World.block_lt_of_cell? w _ hx155_0)).trans hx155_0
              replace hx155_1 := (HB.out.cell (World.block_lt_of_cell? w _ hx155_1)).trans hx155_1
              replace hx155_2 := (HB.out.cell (World.block_lt_of_cell? w _ hx155_2)).trans hx155_2
              replace hx155_3 := (HB.out.cell (World.block_lt_of_cell? w _ hx155_3)).trans hx155_3
              replace hx155_4 := (HB.out.cell (World.block_lt_of_cell? w _ hx155_4)).trans hx155_4
              have HR155_3 := Aside0.mk hi155_3
              have HC155_3 := Aside0.mk hl155_3
              clear hi155_3 hl155_3
              have HR155_4 := Aside0.mk hi155_4
              have HC155_4 := Aside0.mk hl155_4
              clear hi155_4 hl155_4
              replace p155 := eq_true p155
              replace q155 := eq_true q155
              have ea_ := Option.some.inj (hx153_3.symm.trans hx155_3)
              injection ea_ with ea_ en_ ec_
              subst ea_
              subst ec_
              clear en_
              have ea_ := Option.some.inj (hx153_4.symm.trans hx155_4)
              injection ea_ with ea_ en_ ec_
              subst ea_
              subst ec_
              clear en_
              go_wp2
              go_roundg k1
              case measure => have := HK1.out; omega
              case rel => exact ⟨(wrap64 ((((rd_T25 l0_4 x6_1).f3).length : Int) / 8)), (x5_1), (wrap64 (x6_1 + 1)), (by first | rfl | (simp; done) | (simp [*]; done)), (by first | rfl | (simp; done) | (simp [*]; done)), (by first | rfl | (simp; done) | (simp [*]; done)), H', ⟨by have := HK1.out; omega⟩, ⟨by (with_reducible repeat (first | refine blk_drewN ?_ _ | refine blk_drew ?_ | refine blk_alloc ?_ _)); exact BK152.out⟩, ⟨by repeat (first | (with_reducible first | exact HB.out | apply below_alloc | apply pw_below_drewN | apply below_drew1 | refine below_set ?_ GE152.out) | exact HB.out)⟩⟩
          · rw [if_neg c5] at H
            have c5b0 : decide (x4_1 < (wrap64 ((((rd_T25 l0_4 x6_1).f3).length : Int) / 8))) = false := decide_eq_false c5
            clear c5
            by_cases c9 : (((rd_T25 l0_4 x6_1).f4).length : Int) > x5_1
            · rw [if_pos c9] at H
              have c9b0 : decide (x5_1 < (((rd_T25 l0_4 x6_1).f4).length : Int)) = true := decide_eq_true c9
              clear c9
              have H' := Aside0.mk H
              clear H
              have hcz10_0 : wr.cell? ⟨gb152, 0, none⟩ = some (.int .i64 a0_0) := (blk_cell BK152.out 0).trans rfl
              have hcz10_1 : wr.cell? ⟨gb152, 1, none⟩ = some (.int .i64 a0_1) := (blk_cell BK152.out 1).trans rfl
              have hcz10_2 : wr.cell? ⟨gb152, 2, none⟩ = some (.int .i64 a0_2) := (blk_cell BK152.out 2).trans rfl
              have hcz10_3 : wr.cell? ⟨gb152, 3, none⟩ = some (.slice A0_3 l0_3.length c0_3) := (blk_cell BK152.out 3).trans rfl
              have hcz10_4 : wr.cell? ⟨gb152, 4, none⟩ = some (.slice A0_4 l0_4.length c0_4) := (blk_cell BK152.out 4).trans rfl
              have hfz10_0 := blk_frozen BK152.out 0
              have hfz10_1 := blk_frozen BK152.out 1
              have hfz10_2 := blk_frozen BK152.out 2
              have hfz10_3 := blk_frozen BK152.out 3
              have hfz10_4 := blk_frozen BK152.out 4
              have p153 : 0 ≤ (x6_1 : Int) := of_decide_eq_true (by first | (with_reducible assumption) | assumption)
              have q153 : x6_1 < (l0_4.length : Int) := of_decide_eq_true (by first | (with_reducible assumption) | assumption)
              obtain ⟨ad153, A153_3, c153_3, A153_4, c153_4, e153, hx153_0, hx153_1, hx153_2, hx153_3, hx153_4, hl153_3, hi153_3, hl153_4, hi153_4⟩ := at_T25 HR0_4.out x6_1 p153 q153
              cases e153
              replace hx153_0 := (HB.out.cell (World.block_lt_of_cell? w _ hx153_0)).trans hx153_0
              replace hx153_1 := (HB.out.cell (World.block_lt_of_cell? w _ hx153_1)).trans hx153_1
              replace hx153_2 := (HB.out.cell (World.block_lt_of_cell? w _ hx153_2)).trans hx153_2
              replace hx153_3 := (HB.out.cell (World.block_lt_of_cell? w _ hx153_3)).trans hx153_3
              replace hx153_4 := (HB.out.cell (World.block_lt_of_cell? w _ hx153_4)).trans hx153_4
              have HR153_3 := Aside0.mk hi153_3
              have HC153_3 := Aside0.mk hl153_3
              clear hi153_3 hl153_3
              have HR153_4 := Aside0.mk hi153_4
              have HC153_4 := Aside0.mk hl153_4
              clear hi153_4 hl153_4
              replace p153 := eq_true p153
              replace q153 := eq_true q153
              have p157 : 0 ≤ (x6_1 : Int) := of_decide_eq_true (by first | (with_reducible assumption) | assumption)
              have q157 : x6_1 < (l0_4.length : Int) := of_decide_eq_true (by first | (with_reducible assumption) | assumption)
              obtain ⟨ad157, A157_3, c157_3, A157_4, c157_4, e157, hx157_0, hx157_1, hx157_2, hx157_3, hx157_4, hl157_3, hi157_3, hl157_4, hi157_4⟩ := at_T25 HR0_4.out x6_1 p157 q157
              obtain rfl : ad153 = ad157 := (by injection e157)
              replace hx157_0 := (HB.out.cell (World.block_lt_of_cell? w _ hx157_0)).trans hx157_0
              replace hx157_1 := (HB.out.cell (World.block_lt_of_cell? w _ hx157_1)).trans hx157_1
              replace hx157_2 := (HB.out.cell (World.block_lt_of_cell? w _ hx157_2)).trans hx157_2
              replace hx157_3 := (HB.out.cell (World.block_lt_of_cell? w _ hx157_3)).trans hx157_3
              replace hx157_4 := (HB.out.cell (World.block_lt_of_cell? w _ hx157_4)).trans hx157_4
              have HR157_3 := Aside0.mk hi157_3
              have HC157_3 := Aside0.mk hl157_3
              clear hi157_3 hl157_3
              have HR157_4 := Aside0.mk hi157_4
              have HC157_4 := Aside0.mk hl157_4
              clear hi157_4 hl157_4
              replace p157 := eq_true p157
              replace q157 := eq_true q157
              have ea_ := Option.some.inj (hx153_3.symm.trans hx157_3)
              injection ea_ with ea_ en_ ec_
              subst ea_
              subst ec_
              clear en_
              have ea_ := Option.some.inj (hx153_4.symm.trans hx157_4)
              injection ea_ with ea_ en_ ec_
              subst ea_
              subst ec_
              clear en_
              have p158 : 0 ≤ (x6_1 : Int) := of_decide_eq_true (by first | (with_reducible assumption) | assumption)
              have q158 : x6_1 < (l0_4.length : Int) := of_decide_eq_true (by first | (with_reducible assumption) | assumption)
              obtain ⟨ad158, A158_3, c158_3, A158_4, c158_4, e158, hx158_0, hx158_1, hx158_2, hx158_3, hx158_4, hl158_3, hi158_3, hl158_4, hi158_4⟩ := at_T25 HR0_4.out x6_1 p158 q158
              obtain rfl : ad153 = ad158 := (by injection e158)
              replace hx158_0 := (HB.out.cell (World.block_lt_of_cell? w _ hx158_0)).trans hx158_0
              replace hx158_1 := (HB.out.cell (World.block_lt_of_cell? w _ hx158_1)).trans hx158_1
              replace hx158_2 := (HB.out.cell (World.block_lt_of_cell? w _ hx158_2)).trans hx158_2
              replace hx158_3 := (HB.out.cell (World.block_lt_of_cell? w _ hx158_3)).trans hx158_3
              replace hx158_4 := (HB.out.cell (World.block_lt_of_cell? w _ hx158_4)).trans hx158_4
              have HR158_3 := Aside0.mk hi158_3
              have HC158_3 := Aside0.mk hl158_3
              clear hi158_3 hl158_3
              have HR158_4 := Aside0.mk hi158_4
              have HC158_4 := Aside0.mk hl158_4
              clear hi158_4 hl158_4
              replace p158 := eq_true p158
              replace q158 := eq_true q158
              have ea_ := Option.some.inj (hx153_3.symm.trans hx158_3)
              injection ea_ with ea_ en_ ec_
              subst ea_
              subst ec_
              clear en_
              have ea_ := Option.some.inj (hx153_4.symm.trans hx158_4)
              injection ea_ with ea_ en_ ec_
              subst ea_
              subst ec_
              clear en_
              go_wp2
              go_roundg k1
              case measure => have := HK1.out; omega
              case rel => exact ⟨(x4_1), ((((rd_T25 l0_4 x6_1).f4).length : Int)), (wrap64 (x6_1 + 1)), (by first | rfl | (simp; done) | (simp [*]; done)), (by first | rfl | (simp; done) | (simp [*]; done)), (by first | rfl | (simp; done) | (simp [*]; done)), H', ⟨by have := HK1.out; omega⟩, ⟨by (with_reducible repeat (first | refine blk_drewN ?_ _ | refine blk_drew ?_ | refine blk_alloc ?_ _)); exact BK152.out⟩, ⟨by repeat (first | (with_reducible first | exact HB.out | apply below_alloc | apply pw_below_drewN | apply below_drew1 | refine below_set ?_ GE152.out) | exact HB.out)⟩⟩
            · rw [if_neg c9] at H
              have c9b0 : decide (x5_1 < (((rd_T25 l0_4 x6_1).f4).length : Int)) = false := decide_eq_false c9
              clear c9
              have H' := Aside0.mk H
              clear H
              have hcz11_0 : wr.cell? ⟨gb152, 0, none⟩ = some (.int .i64 a0_0) := (blk_cell BK152.out 0).trans rfl
              have hcz11_1 : wr.cell? ⟨gb152, 1, none⟩ = some (.int .i64 a0_1) := (blk_cell BK152.out 1).trans rfl
              have hcz11_2 : wr.cell? ⟨gb152, 2, none⟩ = some (.int .i64 a0_2) := (blk_cell BK152.out 2).trans rfl
              have hcz11_3 : wr.cell? ⟨gb152, 3, none⟩ = some (.slice A0_3 l0_3.length c0_3) := (blk_cell BK152.out 3).trans rfl
              have hcz11_4 : wr.cell? ⟨gb152, 4, none⟩ = some (.slice A0_4 l0_4.length c0_4) := (blk_cell BK152.out 4).trans rfl
              have hfz11_0 := blk_frozen BK152.out 0
              have hfz11_1 := blk_frozen BK152.out 1
              have hfz11_2 := blk_frozen BK152.out 2
              have hfz11_3 := blk_frozen BK152.out 3
              have hfz11_4 := blk_frozen BK152.out 4
              have p153 : 0 ≤ (x6_1 : Int) := of_decide_eq_true (by first | (with_reducible assumption) | assumption)
              have q153 : x6_1 < (l0_4.length : Int) := of_decide_eq_true (by first | (with_reducible assumption) | assumption)
              obtain ⟨ad153, A153_3, c153_3, A153_4, c153_4, e153, hx153_0, hx153_1, hx153_2, hx153_3, hx153_4, hl153_3, hi153_3, hl153_4, hi153_4⟩ := at_T25 HR0_4.out x6_1 p153 q153
              cases e153
              replace hx153_0 := (HB.out.cell (World.block_lt_of_cell? w _ hx153_0)).trans hx153_0
              replace hx153_1 := (HB.out.cell (World.block_lt_of_cell? w _ hx153_1)).trans hx153_1
              replace hx153_2 := (HB.out.cell (World.block_lt_of_cell? w _ hx153_2)).trans hx153_2
              replace hx153_3 := (HB.out.cell (World.block_lt_of_cell? w _ hx153_3)).trans hx153_3
              replace hx153_4 := (HB.out.cell (World.block_lt_of_cell? w _ hx153_4)).trans hx153_4
              have HR153_3 := Aside0.mk hi153_3
              have HC153_3 := Aside0.mk hl153_3
              clear hi153_3 hl153_3
              have HR153_4 := Aside0.mk hi153_4
              have HC153_4 := Aside0.mk hl153_4
              clear hi153_4 hl153_4
              replace p153 := eq_true p153
              replace q153 := eq_true q153
              have p157 : 0 ≤ (x6_1 : Int) := of_decide_eq_true (by first | (with_reducible assumption) | assumption)
              have q157 : x6_1 < (l0_4.length : Int) := of_decide_eq_true (by first | (with_reducible assumption) | assumption)
              obtain ⟨ad157, A157_3, c157_3, A157_4, c157_4, e157, hx157_0, hx157_1, hx157_2, hx157_3, hx157_4, hl157_3, hi157_3, hl157_4, hi157_4⟩ := at_T25 HR0_4.out x6_1 p157 q157
              obtain rfl : ad153 = ad157 := (by injection e157)
              replace hx157_0 := (HB.out.cell (World.block_lt_of_cell? w _ hx157_0)).trans hx157_0
              replace hx157_1 := (HB.out.cell (World.block_lt_of_cell? w _ hx157_1)).trans hx157_1
              replace hx157_2 := (HB.out.cell (World.block_lt_of_cell? w _ hx157_2)).trans hx157_2
              replace hx157_3 := (HB.out.cell (World.block_lt_of_cell? w _ hx157_3)).trans hx157_3
              replace hx157_4 := (HB.out.cell (World.block_lt_of_cell? w _ hx157_4)).trans hx157_4
              have HR157_3 := Aside0.mk hi157_3
              have HC157_3 := Aside0.mk hl157_3
              clear hi157_3 hl157_3
              have HR157_4 := Aside0.mk hi157_4
              have HC157_4 := Aside0.mk hl157_4
              clear hi157_4 hl157_4
              replace p157 := eq_true p157
              replace q157 := eq_true q157
              have ea_ := Option.some.inj (hx153_3.symm.trans hx157_3)
              injection ea_ with ea_ en_ ec_
              subst ea_
              subst ec_
              clear en_
              have ea_ := Option.some.inj (hx153_4.symm.trans hx157_4)
              injection ea_ with ea_ en_ ec_
              subst ea_
              subst ec_
              clear en_
              go_wp2
              go_roundg k1
              case measure => have := HK1.out; omega
              case rel => exact ⟨(x4_1), (x5_1), (wrap64 (x6_1 + 1)), (by first | rfl | (simp; done) | (simp [*]; done)), (by first | rfl | (simp; done) | (simp [*]; done)), (by first | rfl | (simp; done) | (simp [*]; done)), H', ⟨by have := HK1.out; omega⟩, ⟨by (with_reducible repeat (first | refine blk_drewN ?_ _ | refine blk_drew ?_ | refine blk_alloc ?_ _)); exact BK152.out⟩, ⟨by repeat (first | (with_reducible first | exact HB.out | apply below_alloc | apply pw_below_drewN | apply below_drew1 | refine below_set ?_ GE152.out) | exact HB.out)⟩⟩
        · rw [if_neg c4] at H
          exact absurd H (by simp)
      · rw [if_neg c3] at H
        have c3b0 : decide (x6_1 < (l0_4.length : Int)) = false := decide_eq_false c3
        clear c3
        simp only [Option.some.injEq, Prod.mk.injEq] at H
        obtain ⟨rfl, rfl⟩ := H
        have hcz12_0 : wr.cell? ⟨gb152, 0, none⟩ = some (.int .i64 a0_0) := (blk_cell BK152.out 0).trans rfl
        have hcz12_1 : wr.cell? ⟨gb152, 1, none⟩ = some (.int .i64 a0_1) := (blk_cell BK152.out 1).trans rfl
        have hcz12_2 : wr.cell? ⟨gb152, 2, none⟩ = some (.int .i64 a0_2) := (blk_cell BK152.out 2).trans rfl
        have hcz12_3 : wr.cell? ⟨gb152, 3, none⟩ = some (.slice A0_3 l0_3.length c0_3) := (blk_cell BK152.out 3).trans rfl
        have hcz12_4 : wr.cell? ⟨gb152, 4, none⟩ = some (.slice A0_4 l0_4.length c0_4) := (blk_cell BK152.out 4).trans rfl
        have hfz12_0 := blk_frozen BK152.out 0
        have hfz12_1 := blk_frozen BK152.out 1
        have hfz12_2 := blk_frozen BK152.out 2
        have hfz12_3 := blk_frozen BK152.out 3
        have hfz12_4 := blk_frozen BK152.out 4
        go_wp2
        go_ret2
        exact ⟨by first | rfl | (simp [errW_none, errW_some] <;> rfl) | (simp [*, errW_none, errW_some] <;> rfl), by repeat (first | (with_reducible first | exact HB.out | apply below_alloc | apply pw_below_drewN | apply below_drew1 | refine below_set ?_ GE152.out) | exact HB.out)⟩

end Go.Proofs.YtkiompgbmjoflaaDoor.P

namespace Go.Proofs.YtkiompgbmjoflaaDoor.P
open Go.RowKit Go.Proofs.YtkiompgbmjoflaaDoorW.PrintWords Go.Proofs.YtkiompgbmjoflaaDoorW.PrintLast Go.Proofs.YtkiompgbmjoflaaDoorW.PrintMore
attribute [local go_sem] max2_int min2_int max_two min_two max_three min_three max_four min_four   -- for this text's walks alone
set_option linter.unusedVariables false
set_option linter.unusedSimpArgs false

variable {gb : Bool}
/-! ### capnpref13_Object: function 11 -/
def capnpref13_Object.f (k : Nat) (a0_0 : Int) (a0_1 : Int) (a0_2 : Int) (l0_3 : List Int) (l0_4 : List (S25)) : Option (Int) := if a0_0 = 0 then (some 0) else (if a0_0 = 1 then (some (wrap64 ((wrap64 ((l0_3.length : Int) / 8)) + (l0_4.length : Int)))) else (if a0_1 = 7 then ((capnpref11_Uniform.f k a0_0 a0_1 a0_2 l0_3 l0_4).bind fun bt162 => (some (wrap64 (1 + (wrap64 (a0_2 * (wrap64 (bt162.1 + bt162.2)))))))) else ((capnpref06_Words.f a0_1 a0_2).bind fun t164 => (some t164))))
theorem capnpref13_Object.mono : ∀ a0 a1 a2 a3 a4 k, LeO (capnpref13_Object.f k a0 a1 a2 a3 a4) (capnpref13_Object.f (k + 1) a0 a1 a2 a3 a4) := by
  intro a0 a1 a2 a3 a4 k
  unfold capnpref13_Object.f
  repeat' first
      | (with_reducible exact capnpref11_Uniform.mono _ _ _ _ _ _)
      | (with_reducible exact LeO.refl _)
      | (with_reducible exact LeO.none _)
      | (with_reducible refine LeO.ite ?_ ?_)
      | (with_reducible refine LeO.bind ?_ (fun _ => ?_))
      | exact capnpref11_Uniform.mono _ _ _ _ _ _
      | exact LeO.none _
      | refine LeO.ite ?_ ?_
      | refine LeO.bind ?_ (fun _ => ?_)
set_option maxHeartbeats 8000000 in
set_option maxRecDepth 100000 in
theorem capnpref13_Object.calls (k : Nat) (a0_0 : Int) (a0_1 : Int) (a0_2 : Int) (A0_3 : Option Addr) (c0_3 : Nat) (l0_3 : List Int) (A0_4 : Option Addr) (c0_4 : Nat) (l0_4 : List (S25)) (r : Int) (w : World) (hr0_3 : Kd.C (Kd.int .u8) w A0_3 l0_3.length l0_3) (hc0_3 : l0_3.length ≤ c0_3) (hr0_4 : Kd.C k25 w A0_4 l0_4.length l0_4) (hc0_4 : l0_4.length ≤ c0_4) (h : capnpref13_Object.f k a0_0 a0_1 a0_2 l0_3 l0_4 = some r) :
    Calls Tryd.prog 11 #[.agg #[.int .i64 a0_0, .int .i64 a0_1, .int .i64 a0_2, .slice A0_3 l0_3.length c0_3, .slice A0_4 l0_4.length c0_4]] w fun e w' => e = .returned (.int .i64 r) ∧ Below w.heap.size w w' := by
  have hu25 := Tryd.underlying25
  have HR0_3 := Aside0.mk hr0_3
  have HC0_3 := Aside0.mk hc0_3
  clear hr0_3 hc0_3
  have HR0_4 := Aside0.mk hr0_4
  have HC0_4 := Aside0.mk hc0_4
  clear hr0_4 hc0_4
  have HB := Aside0.mk (Below.refl w.heap.size w)
  have H : (if a0_0 = 0 then (some 0) else (if a0_0 = 1 then (some (wrap64 ((wrap64 ((l0_3.length : Int) / 8)) + (l0_4.length : Int)))) else (if a0_1 = 7 then ((capnpref11_Uniform.f k a0_0 a0_1 a0_2 l0_3 l0_4).bind fun bt162 => (some (wrap64 (1 + (wrap64 (a0_2 * (wrap64 (bt162.1 + bt162.2)))))))) else ((capnpref06_Words.f a0_1 a0_2).bind fun t164 => (some t164))))) = some r := h
  clear h
  by_cases c2 : a0_0 = 0
  · rw [if_pos c2] at H
    have c2b0 : (a0_0 == 0) = true := beq_iff_eq.mpr c2
    have c2b1 : (a0_0 != 0) = false := bne_eq_false_iff_eq.mpr c2
    clear c2
    obtain rfl := Option.some.inj H
    go_enter Tryd.func11, Tryd.ntmps11
    go_wp2_with (first | ((with_reducible refine gate_dst (N := 1) rfl ?_); refine box_event ?hg (N := 1) ?hd (cs := #[.int .i64 a0_0, .int .i64 a0_1, .int .i64 a0_2, .slice A0_3 l0_3.length c0_3, .slice A0_4 l0_4.length c0_4]) (t := 25) ?hr ?_; (case hd => rfl); (case hg => rfl); (case hr => first | (go_simp; done) | (go_simp; rfl)); intro gb161 hg w3 hbox hb; have n0_ := Aside0.mk (below_step (by repeat (first | (with_reducible first | exact HB.out | apply below_alloc | apply pw_below_drewN | apply below_drew1) | exact HB.out)) hb); have n1_ := Aside0.mk (hbox); have n2_ := Aside0.mk ((by rw [hg]; exact (below_size (by repeat (first | (with_reducible first | exact HB.out | apply below_alloc | apply pw_below_drewN | apply below_drew1) | exact HB.out))) : w.heap.size ≤ gb161)); have n3_ := Aside0.mk ((by rw [hg]; exact (below_size (by repeat (first | (with_reducible first | exact HB.out | apply below_alloc | apply pw_below_drewN | apply below_drew1) | exact HB.out))) : w.heap.size ≤ gb161)); clear HB; have HB := n0_; have BK161 := n1_; have GW161 := n2_; have GE161 := n3_; clear n0_ n1_ n2_ n3_; clear hb hbox hg; have hcz4_0 : w3.cell? ⟨gb161, 0, none⟩ = some (.int .i64 a0_0) := (blk_cell BK161.out 0).trans rfl; have hcz4_1 : w3.cell? ⟨gb161, 1, none⟩ = some (.int .i64 a0_1) := (blk_cell BK161.out 1).trans rfl; have hcz4_2 : w3.cell? ⟨gb161, 2, none⟩ = some (.int .i64 a0_2) := (blk_cell BK161.out 2).trans rfl; have hcz4_3 : w3.cell? ⟨gb161, 3, none⟩ = some (.slice A0_3 l0_3.length c0_3) := (blk_cell BK161.out 3).trans rfl; have hcz4_4 : w3.cell? ⟨gb161, 4, none⟩ = some (.slice A0_4 l0_4.length c0_4) := (blk_cell BK161.out 4).trans rfl; have hfz4_0 := blk_frozen BK161.out 0; have hfz4_1 := blk_frozen BK161.out 1; have hfz4_2 := blk_frozen BK161.out 2; have hfz4_3 := blk_frozen BK161.out 3; have hfz4_4 := blk_frozen BK161.out 4))
    go_ret
    exact ⟨by first | rfl | (simp [errW_none, errW_some] <;> rfl) | (simp [*, errW_none, errW_some] <;> rfl), by repeat (first | (with_reducible first | exact HB.out | apply below_alloc | apply pw_below_drewN | apply below_drew1 | refine below_set ?_ GE161.out) | exact HB.out)⟩
  · rw [if_neg c2] at H
    have c2b0 : (a0_0 == 0) = false := beq_eq_false_iff_ne.mpr c2
    have c2b1 : (a0_0 != 0) = true := bne_iff_ne.mpr c2
    by_cases c5 : a0_0 = 1
    · rw [if_pos c5] at H
      have c5b0 : (a0_0 == 1) = true := beq_iff_eq.mpr c5
      have c5b1 : (a0_0 != 1) = false := bne_eq_false_iff_eq.mpr c5
      clear c5
      obtain rfl := Option.some.inj H
      go_enter Tryd.func11, Tryd.ntmps11
      go_wp2_with (first | ((with_reducible refine gate_dst (N := 1) rfl ?_); refine box_event ?hg (N := 1) ?hd (cs := #[.int .i64 a0_0, .int .i64 a0_1, .int .i64 a0_2, .slice A0_3 l0_3.length c0_3, .slice A0_4 l0_4.length c0_4]) (t := 25) ?hr ?_; (case hd => rfl); (case hg => rfl); (case hr => first | (go_simp; done) | (go_simp; rfl)); intro gb161 hg w6 hbox hb; have n0_ := Aside0.mk (below_step (by repeat (first | (with_reducible first | exact HB.out | apply below_alloc | apply pw_below_drewN | apply below_drew1) | exact HB.out)) hb); have n1_ := Aside0.mk (hbox); have n2_ := Aside0.mk ((by rw [hg]; exact (below_size (by repeat (first | (with_reducible first | exact HB.out | apply below_alloc | apply pw_below_drewN | apply below_drew1) | exact HB.out))) : w.heap.size ≤ gb161)); have n3_ := Aside0.mk ((by rw [hg]; exact (below_size (by repeat (first | (with_reducible first | exact HB.out | apply below_alloc | apply pw_below_drewN | apply below_drew1) | exact HB.out))) : w.heap.size ≤ gb161)); clear HB; have HB := n0_; have BK161 := n1_; have GW161 := n2_; have GE161 := n3_; clear n0_ n1_ n2_ n3_; clear hb hbox hg; have hcz7_0 : w6.cell? ⟨gb161, 0, none⟩ = some (.int .i64 a0_0) := (blk_cell BK161.out 0).trans rfl; have hcz7_1 : w6.cell? ⟨gb161, 1, none⟩ = some (.int .i64 a0_1) := (blk_cell BK161.out 1).trans rfl; have hcz7_2 : w6.cell? ⟨gb161, 2, none⟩ = some (.int .i64 a0_2) := (blk_cell BK161.out 2).trans rfl; have hcz7_3 : w6.cell? ⟨gb161, 3, none⟩ = some (.slice A0_3 l0_3.length c0_3) := (blk_cell BK161.out 3).trans rfl; have hcz7_4 : w6.cell? ⟨gb161, 4, none⟩ = some (.slice A0_4 l0_4.length c0_4) := (blk_cell BK161.out 4).trans rfl; have hfz7_0 := blk_frozen BK161.out 0; have hfz7_1 := blk_frozen BK161.out 1; have hfz7_2 := blk_frozen BK161.out 2; have hfz7_3 := blk_frozen BK161.out 3; have hfz7_4 := blk_frozen BK161.out 4))
      go_ret
      exact ⟨by first | rfl | (simp [errW_none, errW_some] <;> rfl) | (simp [*, errW_none, errW_some] <;> rfl), by repeat (first | (with_reducible first | exact HB.out | apply below_alloc | apply pw_below_drewN | apply below_drew1 | refine below_set ?_ GE161.out) | exact HB.out)⟩
    · rw [if_neg c5] at H
      have c5b0 : (a0_0 == 1) = false := beq_eq_false_iff_ne.mpr c5
      have c5b1 : (a0_0 != 1) = true := bne_iff_ne.mpr c5
      by_cases c8 : a0_1 = 7
      · rw [if_pos c8] at H
        have c8b0 : (a0_1 == 7) = true := beq_iff_eq.mpr c8
        have c8b1 : (a0_1 != 7) = false := bne_eq_false_iff_eq.mpr c8
        clear c8
        replace H := Option.bind_eq_some_iff.mp H
        obtain ⟨⟨t162, t163⟩, A90, H⟩ := H
        replace H : (some (wrap64 (1 + (wrap64 (a0_2 * (wrap64 (t162 + t163))))))) = some r := H
        have A9 := Aside0.mk A90
        clear A90
        obtain rfl := Option.some.inj H
        go_enter Tryd.func11, Tryd.ntmps11
        go_wp2_with (first | ((with_reducible refine gate_dst (N := 1) rfl ?_); refine box_event ?hg (N := 1) ?hd (cs := #[.int .i64 a0_0, .int .i64 a0_1, .int .i64 a0_2, .slice A0_3 l0_3.length c0_3, .slice A0_4 l0_4.length c0_4]) (t := 25) ?hr ?_; (case hd => rfl); (case hg => rfl); (case hr => first | (go_simp; done) | (go_simp; rfl)); intro gb161 hg w10 hbox hb; have n0_ := Aside0.mk (below_step (by repeat (first | (with_reducible first | exact HB.out | apply below_alloc | apply pw_below_drewN | apply below_drew1) | exact HB.out)) hb); have n1_ := Aside0.mk (hbox); have n2_ := Aside0.mk ((by rw [hg]; exact (below_size (by repeat (first | (with_reducible first | exact HB.out | apply below_alloc | apply pw_below_drewN | apply below_drew1) | exact HB.out))) : w.heap.size ≤ gb161)); have n3_ := Aside0.mk ((by rw [hg]; exact (below_size (by repeat (first | (with_reducible first | exact HB.out | apply below_alloc | apply pw_below_drewN | apply below_drew1) | exact HB.out))) : w.heap.size ≤ gb161)); clear HB; have HB := n0_; have BK161 := n1_; have GW161 := n2_; have GE161 := n3_; clear n0_ n1_ n2_ n3_; clear hb hbox hg; have hcz11_0 : w10.cell? ⟨gb161, 0, none⟩ = some (.int .i64 a0_0) := (blk_cell BK161.out 0).trans rfl; have hcz11_1 : w10.cell? ⟨gb161, 1, none⟩ = some (.int .i64 a0_1) := (blk_cell BK161.out 1).trans rfl; have hcz11_2 : w10.cell? ⟨gb161, 2, none⟩ = some (.int .i64 a0_2) := (blk_cell BK161.out 2).trans rfl; have hcz11_3 : w10.cell? ⟨gb161, 3, none⟩ = some (.slice A0_3 l0_3.length c0_3) := (blk_cell BK161.out 3).trans rfl; have hcz11_4 : w10.cell? ⟨gb161, 4, none⟩ = some (.slice A0_4 l0_4.length c0_4) := (blk_cell BK161.out 4).trans rfl; have hfz11_0 := blk_frozen BK161.out 0; have hfz11_1 := blk_frozen BK161.out 1; have hfz11_2 := blk_frozen BK161.out 2; have hfz11_3 := blk_frozen BK161.out 3; have hfz11_4 := blk_frozen BK161.out 4) | ((with_reducible refine gate_callee (f := 26) rfl ?_); refine goesL_ (some 24) rfl rfl Tryd.func26 (by kernel_rfl) rfl #[.agg #[.int .i64 a0_0, .int .i64 a0_1, .int .i64 a0_2, .slice A0_3 l0_3.length c0_3, .slice A0_4 l0_4.length c0_4]] rfl (by (try simp only [List.map_toArray, List.map_cons, List.map_nil]); first | done | rfl | (simp only [List.length_drop, List.length_take]; rfl)) ?_; (with_reducible refine (capnpref11_Uniform.calls k a0_0 a0_1 a0_2 _ _ l0_3 _ _ l0_4 t162 t163 _ ?side1 ?side2 ?side3 ?side4 A9.out).mono ?_); (case side1 => repeat (first | exact (Kd.C_below HR0_3.out HB.out) | (with_reducible refine Kd.C_alloc ?_ _) | (with_reducible refine Kd.C_drewN ?_ _) | (with_reducible refine Kd.C_drew ?_))); (case side2 => exact HC0_3.out); (case side3 => repeat (first | exact (Kd.C_below HR0_4.out HB.out) | (with_reducible refine Kd.C_alloc ?_ _) | (with_reducible refine Kd.C_drewN ?_ _) | (with_reducible refine Kd.C_drew ?_))); (case side4 => exact HC0_4.out); rintro e w12 ⟨rfl, hb⟩; refine ⟨_, rfl, ?_⟩; have n0_ := Aside0.mk (blk_below (g := gb161) (o := .cells #[.int .i64 a0_0, .int .i64 a0_1, .int .i64 a0_2, .slice A0_3 l0_3.length c0_3, .slice A0_4 l0_4.length c0_4] 25 (0, 0)) (by (with_reducible repeat (first | refine blk_drewN ?_ _ | refine blk_drew ?_ | refine blk_alloc ?_ _)); exact BK161.out) hb); have n1_ := Aside0.mk (below_step (by repeat (first | (with_reducible first | exact HB.out | apply below_alloc | apply pw_below_drewN | apply below_drew1 | refine below_set ?_ GE161.out) | exact HB.out)) hb); clear BK161; clear HB; have BK161 := n0_; have HB := n1_; clear n0_ n1_; (try clear hb); (try clear hb2); (try clear hk); (try clear hi); have hcz13_0 : w12.cell? ⟨gb161, 0, none⟩ = some (.int .i64 a0_0) := (blk_cell BK161.out 0).trans rfl; have hcz13_1 : w12.cell? ⟨gb161, 1, none⟩ = some (.int .i64 a0_1) := (blk_cell BK161.out 1).trans rfl; have hcz13_2 : w12.cell? ⟨gb161, 2, none⟩ = some (.int .i64 a0_2) := (blk_cell BK161.out 2).trans rfl; have hcz13_3 : w12.cell? ⟨gb161, 3, none⟩ = some (.slice A0_3 l0_3.length c0_3) := (blk_cell BK161.out 3).trans rfl; have hcz13_4 : w12.cell? ⟨gb161, 4, none⟩ = some (.slice A0_4 l0_4.length c0_4) := (blk_cell BK161.out 4).trans rfl; have hfz13_0 := blk_frozen BK161.out 0; have hfz13_1 := blk_frozen BK161.out 1; have hfz13_2 := blk_frozen BK161.out 2; have hfz13_3 := blk_frozen BK161.out 3; have hfz13_4 := blk_frozen BK161.out 4))
        go_ret
        exact ⟨by first | rfl | (simp [errW_none, errW_some] <;> rfl) | (simp [*, errW_none, errW_some] <;> rfl), by repeat (first | (with_reducible first | exact HB.out | apply below_alloc | apply pw_below_drewN | apply below_drew1 | refine below_set ?_ GE161.out) | exact HB.out)⟩
      · rw [if_neg c8] at H
        have c8b0 : (a0_1 == 7) = false := beq_eq_false_iff_ne.mpr c8
        have c8b1 : (a0_1 != 7) = true := bne_iff_ne.mpr c8
        replace H := Option.bind_eq_some_iff.mp H
        obtain ⟨t164, A140, H⟩ := H
        replace H : (some t164) = some r := H
        have A14 := Aside0.mk A140
        clear A140
        obtain rfl := Option.some.inj H
        go_enter Tryd.func11, Tryd.ntmps11
        go_wp2_with (first | ((with_reducible refine gate_dst (N := 1) rfl ?_); refine box_event ?hg (N := 1) ?hd (cs := #[.int .i64 a0_0, .int .i64 a0_1, .int .i64 a0_2, .slice A0_3 l0_3.length c0_3, .slice A0_4 l0_4.length c0_4]) (t := 25) ?hr ?_; (case hd => rfl); (case hg => rfl); (case hr => first | (go_simp; done) | (go_simp; rfl)); intro gb161 hg w15 hbox hb; have n0_ := Aside0.mk (below_step (by repeat (first | (with_reducible first | exact HB.out | apply below_alloc | apply pw_below_drewN | apply below_drew1) | exact HB.out)) hb); have n1_ := Aside0.mk (hbox); have n2_ := Aside0.mk ((by rw [hg]; exact (below_size (by repeat (first | (with_reducible first | exact HB.out | apply below_alloc | apply pw_below_drewN | apply below_drew1) | exact HB.out))) : w.heap.size ≤ gb161)); have n3_ := Aside0.mk ((by rw [hg]; exact (below_size (by repeat (first | (with_reducible first | exact HB.out | apply below_alloc | apply pw_below_drewN | apply below_drew1) | exact HB.out))) : w.heap.size ≤ gb161)); clear HB; have HB := n0_; have BK161 := n1_; have GW161 := n2_; have GE161 := n3_; clear n0_ n1_ n2_ n3_; clear hb hbox hg; have hcz16_0 : w15.cell? ⟨gb161, 0, none⟩ = some (.int .i64 a0_0) := (blk_cell BK161.out 0).trans rfl; have hcz16_1 : w15.cell? ⟨gb161, 1, none⟩ = some (.int .i64 a0_1) := (blk_cell BK161.out 1).trans rfl; have hcz16_2 : w15.cell? ⟨gb161, 2, none⟩ = some (.int .i64 a0_2) := (blk_cell BK161.out 2).trans rfl; have hcz16_3 : w15.cell? ⟨gb161, 3, none⟩ = some (.slice A0_3 l0_3.length c0_3) := (blk_cell BK161.out 3).trans rfl; have hcz16_4 : w15.cell? ⟨gb161, 4, none⟩ = some (.slice A0_4 l0_4.length c0_4) := (blk_cell BK161.out 4).trans rfl; have hfz16_0 := blk_frozen BK161.out 0; have hfz16_1 := blk_frozen BK161.out 1; have hfz16_2 := blk_frozen BK161.out 2; have hfz16_3 := blk_frozen BK161.out 3; have hfz16_4 := blk_frozen BK161.out 4) | ((with_reducible refine gate_callee (f := 27) rfl ?_); refine goesL_ (some 38) rfl rfl Tryd.func27 (by kernel_rfl) rfl #[.int .i64 a0_1, .int .i64 a0_2] rfl (by (try simp only [List.map_toArray, List.map_cons, List.map_nil]); first | done | rfl | (simp only [List.length_drop, List.length_take]; rfl)) ?_; (with_reducible refine (capnpref06_Words.calls a0_1 a0_2 t164 _ A14.out).mono ?_); rintro e w' ⟨rfl, ⟨nd, rfl⟩⟩; refine ⟨_, rfl, ?_⟩))
        go_ret
        exact ⟨by first | rfl | (simp [errW_none, errW_some] <;> rfl) | (simp [*, errW_none, errW_some] <;> rfl), by repeat (first | (with_reducible first | exact HB.out | apply below_alloc | apply pw_below_drewN | apply below_drew1 | refine below_set ?_ GE161.out) | exact HB.out)⟩

end Go.Proofs.YtkiompgbmjoflaaDoor.P

namespace Go.Proofs.YtkiompgbmjoflaaDoor.P
open Go.RowKit Go.Proofs.YtkiompgbmjoflaaDoorW.PrintWords Go.Proofs.YtkiompgbmjoflaaDoorW.PrintLast Go.Proofs.YtkiompgbmjoflaaDoorW.PrintMore
attribute [local go_sem] max2_int min2_int max_two min_two max_three min_three max_four min_four   -- for this text's walks alone
set_option linter.unusedVariables false
set_option linter.unusedSimpArgs false

variable {gb : Bool}
/-! ### capnpref10_Targets: function 15 -/
mutual
def capnpref10_Targets.j0 : Nat → Bool → Int → Int → Int → List Int → List (S25) → Option ((List (S25)))
  | 0, _, _, _, _, _, _ => none
  | k + 1, x12, x166000, x166001, x166002, x166003, x166004 => if x12 = true then (some x166004) else (capnpref10_Targets.l0 k ([] : List (S25)) 0 x166000 x166001 x166002 x166003 x166004)
def capnpref10_Targets.l0 : Nat → List (S25) → Int → Int → Int → Int → List Int → List (S25) → Option ((List (S25)))
  | 0, _, _, _, _, _, _, _ => none
  | k + 1, x3, x4, x166000, x166001, x166002, x166003, x166004 => if x4 < (x166004.length : Int) then (if 0 ≤ x4 then (if x3.length + ((rd_T25 x166004 x4).f4).length < 1954687338268 then (capnpref10_Targets.l0 k (x3 ++ ((rd_T25 x166004 x4).f4)) (wrap64 (x4 + 1)) x166000 x166001 x166002 x166003 x166004) else (none)) else (none)) else (some x3)
end
def capnpref10_Targets.f (k : Nat) (a0_0 : Int) (a0_1 : Int) (a0_2 : Int) (l0_3 : List Int) (l0_4 : List (S25)) : Option ((List (S25))) := if a0_0 = 2 then (capnpref10_Targets.j0 k (a0_1 != 7) a0_0 a0_1 a0_2 l0_3 l0_4) else (capnpref10_Targets.j0 k true a0_0 a0_1 a0_2 l0_3 l0_4)
theorem capnpref10_Targets.mono_l : ∀ k, (∀ y0 y1 y2 y3 y4 y5, LeO (capnpref10_Targets.j0 k y0 y1 y2 y3 y4 y5) (capnpref10_Targets.j0 (k + 1) y0 y1 y2 y3 y4 y5)) ∧ (∀ y0 y1 y2 y3 y4 y5 y6, LeO (capnpref10_Targets.l0 k y0 y1 y2 y3 y4 y5 y6) (capnpref10_Targets.l0 (k + 1) y0 y1 y2 y3 y4 y5 y6))
  | 0 => ⟨fun _ _ _ _ _ _ r h => by simp [capnpref10_Targets.j0] at h, fun _ _ _ _ _ _ _ r h => by simp [capnpref10_Targets.l0] at h⟩
  | k + 1 => by
    obtain ⟨ih0, ih1⟩ := capnpref10_Targets.mono_l k
    refine ⟨?_, ?_⟩
    · intro y0 y1 y2 y3 y4 y5
      unfold capnpref10_Targets.j0
      repeat' first
      | (with_reducible exact ih0 _ _ _ _ _ _)
      | (with_reducible exact ih1 _ _ _ _ _ _ _)
      | (with_reducible exact LeO.refl _)
      | (with_reducible exact LeO.none _)
      | (with_reducible refine LeO.ite ?_ ?_)
      | (with_reducible refine LeO.bind ?_ (fun _ => ?_))
      | exact ih0 _ _ _ _ _ _
      | exact ih1 _ _ _ _ _ _ _
      | exact LeO.none _
      | refine LeO.ite ?_ ?_
      | refine LeO.bind ?_ (fun _ => ?_)
    · intro y0 y1 y2 y3 y4 y5 y6
      unfold capnpref10_Targets.l0
      repeat' first
      | (with_reducible exact ih0 _ _ _ _ _ _)
      | (with_reducible exact ih1 _ _ _ _ _ _ _)
      | (with_reducible exact LeO.refl _)
      | (with_reducible exact LeO.none _)
      | (with_reducible refine LeO.ite ?_ ?_)
      | (with_reducible refine LeO.bind ?_ (fun _ => ?_))
      | exact ih0 _ _ _ _ _ _
      | exact ih1 _ _ _ _ _ _ _
      | exact LeO.none _
      | refine LeO.ite ?_ ?_
      | refine LeO.bind ?_ (fun _ => ?_)
theorem capnpref10_Targets.mono : ∀ a0 a1 a2 a3 a4 k, LeO (capnpref10_Targets.f k a0 a1 a2 a3 a4) (capnpref10_Targets.f (k + 1) a0 a1 a2 a3 a4) := by
  intro a0 a1 a2 a3 a4 k
  obtain ⟨ih0, ih1⟩ := capnpref10_Targets.mono_l k
  unfold capnpref10_Targets.f
  repeat' first
      | (with_reducible exact ih0 _ _ _ _ _ _)
      | (with_reducible exact ih1 _ _ _ _ _ _ _)
      | (with_reducible exact LeO.refl _)
      | (with_reducible exact LeO.none _)
      | (with_reducible refine LeO.ite ?_ ?_)
      | (with_reducible refine LeO.bind ?_ (fun _ => ?_))
      | exact ih0 _ _ _ _ _ _
      | exact ih1 _ _ _ _ _ _ _
      | exact LeO.none _
      | refine LeO.ite ?_ ?_
      | refine LeO.bind ?_ (fun _ => ?_)
set_option maxHeartbeats 8000000 in
set_option maxRecDepth 100000 in
theorem capnpref10_Targets.calls (k : Nat) (a0_0 : Int) (a0_1 : Int) (a0_2 : Int) (A0_3 : Option Addr) (c0_3 : Nat) (l0_3 : List Int) (P0_4_ : Nat → Prop) (A0_4 : Option Addr) (c0_4 : Nat) (l0_4 : List (S25)) (r : List (S25)) (w : World) (hr0_3 : Kd.C (Kd.int .u8) w A0_3 l0_3.length l0_3) (hc0_3 : l0_3.length ≤ c0_3) (hs0_4 : Kd.V k25 25 w w.heap.size (fun k_ => P0_4_ k_) (.slice A0_4 l0_4.length c0_4) l0_4) (h : capnpref10_Targets.f k a0_0 a0_1 a0_2 l0_3 l0_4 = some r) :
    Calls Tryd.prog 15 #[.agg #[.int .i64 a0_0, .int .i64 a0_1, .int .i64 a0_2, .slice A0_3 l0_3.length c0_3, .slice A0_4 l0_4.length c0_4]] w fun e w' => ∃ v0_ : Value, e = .returned (v0_) ∧ Kd.V k25 25 w' w.heap.size (fun k_ => (P0_4_ k_ ∨ w.heap.size ≤ k_)) v0_ r ∧ Below w.heap.size w w' := by
  have hu25 := Tryd.underlying25
  have HR0_3 := Aside0.mk hr0_3
  have HC0_3 := Aside0.mk hc0_3
  clear hr0_3 hc0_3
  have HO0_4 := Aside0.mk (show Kd.V k25 25 w w.heap.size (fun k_ => (P0_4_ k_ ∨ w.heap.size ≤ k_)) (.slice A0_4 l0_4.length c0_4) l0_4 from Kd.V_mono hs0_4 (fun k_ hk => .inl hk))
  have HB := Aside0.mk (Below.refl w.heap.size w)
  have H : (if a0_0 = 2 then (capnpref10_Targets.j0 k (a0_1 != 7) a0_0 a0_1 a0_2 l0_3 l0_4) else (capnpref10_Targets.j0 k true a0_0 a0_1 a0_2 l0_3 l0_4)) = some r := h
  clear h
  have HC2 := Aside0.mk H
  clear H
  go_enter Tryd.func15, Tryd.ntmps15
  go_upto_region 1 with (first | ((with_reducible refine gate_dst (N := 1) rfl ?_); refine box_event ?hg (N := 1) ?hd (cs := #[.int .i64 a0_0, .int .i64 a0_1, .int .i64 a0_2, .slice A0_3 l0_3.length c0_3, .slice A0_4 l0_4.length c0_4]) (t := 25) ?hr ?_; (case hd => rfl); (case hg => rfl); (case hr => first | (go_simp; done) | (go_simp; rfl)); intro gb165 hg w3 hbox hb; have n0_ := Aside0.mk (Kd.V_below (Kd.V_elderB (by (with_reducible repeat (first | apply Kd.V_alloc | apply Kd.V_drewN | apply Kd.V_drew)); exact HO0_4.out) gb165 (Nat.le_of_eq hg.symm)) hb); have n1_ := Aside0.mk (below_step (by repeat (first | (with_reducible first | exact HB.out | apply below_alloc | apply pw_below_drewN | apply below_drew1) | exact HB.out)) hb); have n2_ := Aside0.mk (hbox); have n3_ := Aside0.mk ((by rw [hg]; exact (below_size (by repeat (first | (with_reducible first | exact HB.out | apply below_alloc | apply pw_below_drewN | apply below_drew1) | exact HB.out))) : w.heap.size ≤ gb165)); have n4_ := Aside0.mk ((by rw [hg]; exact (below_size (by repeat (first | (with_reducible first | exact HB.out | apply below_alloc | apply pw_below_drewN | apply below_drew1) | exact HB.out))) : w.heap.size ≤ gb165)); clear HO0_4; clear HB; have HO0_4 := n0_; have HB := n1_; have BK165 := n2_; have GW165 := n3_; have GE165 := n4_; clear n0_ n1_ n2_ n3_ n4_; clear hb hbox hg))
  (try simp only [Act.put, List.setIfInBounds_toArray, List.set_cons_zero, List.set_cons_succ])
  go_cut [12] (fun v12 wc => ∃ (kq : Nat) (x12_1 : Bool), v12 = .bool x12_1 ∧ Aside0 (capnpref10_Targets.j0 kq x12_1 a0_0 a0_1 a0_2 l0_3 l0_4 = some r) ∧ Aside0 (kq ≤ k) ∧ Aside0 (Kd.V k25 25 wc w.heap.size (fun k_ => (P0_4_ k_ ∨ w.heap.size ≤ k_) ∧ k_ ≠ gb165) (.slice A0_4 l0_4.length c0_4) l0_4) ∧ Aside0 (wc.heap[gb165]? = some (.cells #[.int .i64 a0_0, .int .i64 a0_1, .int .i64 a0_2, (.slice A0_3 l0_3.length c0_3), (.slice A0_4 l0_4.length c0_4)] 25 (0, 0))) ∧ Aside0 (Below w.heap.size w wc))
  case first =>
    have H := HC2.out
    clear HC2
    by_cases c4 : a0_0 = 2
    · rw [if_pos c4] at H
      have c4b0 : (a0_0 == 2) = true := beq_iff_eq.mpr c4
      have c4b1 : (a0_0 != 2) = false := bne_eq_false_iff_eq.mpr c4
      clear c4
      (first | rw [c4b0] | (simp only [i64_w, i32_w]; rw [c4b0]) | skip)
      have H' := Aside0.mk H
      clear H
      have hcz5_0 : w3.cell? ⟨gb165, 0, none⟩ = some (.int .i64 a0_0) := (blk_cell BK165.out 0).trans rfl
      have hcz5_1 : w3.cell? ⟨gb165, 1, none⟩ = some (.int .i64 a0_1) := (blk_cell BK165.out 1).trans rfl
      have hcz5_2 : w3.cell? ⟨gb165, 2, none⟩ = some (.int .i64 a0_2) := (blk_cell BK165.out 2).trans rfl
      have hcz5_3 : w3.cell? ⟨gb165, 3, none⟩ = some (.slice A0_3 l0_3.length c0_3) := (blk_cell BK165.out 3).trans rfl
      have hcz5_4 : w3.cell? ⟨gb165, 4, none⟩ = some (.slice A0_4 l0_4.length c0_4) := (blk_cell BK165.out 4).trans rfl
      have hfz5_0 := blk_frozen BK165.out 0
      have hfz5_1 := blk_frozen BK165.out 1
      have hfz5_2 := blk_frozen BK165.out 2
      have hfz5_3 := blk_frozen BK165.out 3
      have hfz5_4 := blk_frozen BK165.out 4
      go_wp2
      go_meet
      case rel => exact ⟨_, ((a0_1 != 7)), (by first | rfl | (simp; done) | (simp [*]; done)), H', ⟨by first | omega | exact Nat.le_refl _⟩, ⟨by (with_reducible repeat (first | apply Kd.V_alloc | apply Kd.V_drewN | apply Kd.V_drew)); exact HO0_4.out⟩, ⟨by (with_reducible repeat (first | refine blk_drewN ?_ _ | refine blk_drew ?_ | refine blk_alloc ?_ _)); exact BK165.out⟩, ⟨by repeat (first | (with_reducible first | exact HB.out | apply below_alloc | apply pw_below_drewN | apply below_drew1 | refine below_set ?_ GE165.out) | exact HB.out)⟩⟩
    · rw [if_neg c4] at H
      have c4b0 : (a0_0 == 2) = false := beq_eq_false_iff_ne.mpr c4
      have c4b1 : (a0_0 != 2) = true := bne_iff_ne.mpr c4
      (first | rw [c4b0] | (simp only [i64_w, i32_w]; rw [c4b0]) | skip)
      have H' := Aside0.mk H
      clear H
      have hcz6_0 : w3.cell? ⟨gb165, 0, none⟩ = some (.int .i64 a0_0) := (blk_cell BK165.out 0).trans rfl
      have hcz6_1 : w3.cell? ⟨gb165, 1, none⟩ = some (.int .i64 a0_1) := (blk_cell BK165.out 1).trans rfl
      have hcz6_2 : w3.cell? ⟨gb165, 2, none⟩ = some (.int .i64 a0_2) := (blk_cell BK165.out 2).trans rfl
      have hcz6_3 : w3.cell? ⟨gb165, 3, none⟩ = some (.slice A0_3 l0_3.length c0_3) := (blk_cell BK165.out 3).trans rfl
      have hcz6_4 : w3.cell? ⟨gb165, 4, none⟩ = some (.slice A0_4 l0_4.length c0_4) := (blk_cell BK165.out 4).trans rfl
      have hfz6_0 := blk_frozen BK165.out 0
      have hfz6_1 := blk_frozen BK165.out 1
      have hfz6_2 := blk_frozen BK165.out 2
      have hfz6_3 := blk_frozen BK165.out 3
      have hfz6_4 := blk_frozen BK165.out 4
      go_wp2
      go_meet
      case rel => exact ⟨_, (true), (by first | rfl | (simp; done) | (simp [*]; done)), H', ⟨by first | omega | exact Nat.le_refl _⟩, ⟨by (with_reducible repeat (first | apply Kd.V_alloc | apply Kd.V_drewN | apply Kd.V_drew)); exact HO0_4.out⟩, ⟨by (with_reducible repeat (first | refine blk_drewN ?_ _ | refine blk_drew ?_ | refine blk_alloc ?_ _)); exact BK165.out⟩, ⟨by repeat (first | (with_reducible first | exact HB.out | apply below_alloc | apply pw_below_drewN | apply below_drew1 | refine below_set ?_ GE165.out) | exact HB.out)⟩⟩
  case rest =>
    clear HC2
    try clear c1
    try clear p2
    try clear c4
    try clear c4b0
    try clear c4b1
    try clear hcz5_0
    try clear hcz5_1
    try clear hcz5_2
    try clear hcz5_3
    try clear hcz5_4
    try clear hcz6_0
    try clear hcz6_1
    try clear hcz6_2
    try clear hcz6_3
    try clear hcz6_4
    try clear hfz5_0
    try clear hfz5_1
    try clear hfz5_2
    try clear hfz5_3
    try clear hfz5_4
    try clear hfz6_0
    try clear hfz6_1
    try clear hfz6_2
    try clear hfz6_3
    try clear hfz6_4
    obtain ⟨kq, x12_1, rfl, HA, HJ1, HO_166004, BK165, HB⟩ := hcut
    cases kq with
    | zero => exact absurd HA.out (by simp [capnpref10_Targets.j0])
    | succ kj1 =>
      have H := HA.out
      clear HA
      simp only [capnpref10_Targets.j0] at H
      by_cases c7 : x12_1 = true
      · subst c7
        have H1 : (some l0_4) = some r := by rw [if_pos rfl] at H; exact H
        clear H
        have H := H1
        clear H1
        obtain rfl := Option.some.inj H
        have hcz8_0 : wc.cell? ⟨gb165, 0, none⟩ = some (.int .i64 a0_0) := (blk_cell BK165.out 0).trans rfl
        have hcz8_1 : wc.cell? ⟨gb165, 1, none⟩ = some (.int .i64 a0_1) := (blk_cell BK165.out 1).trans rfl
        have hcz8_2 : wc.cell? ⟨gb165, 2, none⟩ = some (.int .i64 a0_2) := (blk_cell BK165.out 2).trans rfl
        have hcz8_3 : wc.cell? ⟨gb165, 3, none⟩ = some (.slice A0_3 l0_3.length c0_3) := (blk_cell BK165.out 3).trans rfl
        have hcz8_4 : wc.cell? ⟨gb165, 4, none⟩ = some (.slice A0_4 l0_4.length c0_4) := (blk_cell BK165.out 4).trans rfl
        have hfz8_0 := blk_frozen BK165.out 0
        have hfz8_1 := blk_frozen BK165.out 1
        have hfz8_2 := blk_frozen BK165.out 2
        have hfz8_3 := blk_frozen BK165.out 3
        have hfz8_4 := blk_frozen BK165.out 4
        go_wp2
        go_ret
        exact ⟨_, by first | rfl | (simp [errW_none, errW_some] <;> rfl) | (simp [*, errW_none, errW_some] <;> rfl), by (with_reducible repeat (first | apply Kd.V_alloc | apply Kd.V_drewN | apply Kd.V_drew)); exact Kd.V_mono HO_166004.out (fun _ hk => hk.1), by repeat (first | (with_reducible first | exact HB.out | apply below_alloc | apply pw_below_drewN | apply below_drew1 | refine below_set ?_ GE165.out) | exact HB.out)⟩
      · replace c7 := Bool.eq_false_iff.mpr c7
        subst c7
        have H1 : (capnpref10_Targets.l0 kj1 ([] : List (S25)) 0 a0_0 a0_1 a0_2 l0_3 l0_4) = some r := by rw [if_neg (show ¬ (false = true) by decide)] at H; exact H
        clear H
        have H := H1
        clear H1
        have H' := Aside0.mk H
        clear H
        go_wp2
        go_loopg [3, 4] kj1 (fun kq v3 v4 w' => ∃ (x3_2 : List (S25)) (x4_2 : Int), v4 = .int .i64 x4_2 ∧ Aside0 (capnpref10_Targets.l0 kq x3_2 x4_2 a0_0 a0_1 a0_2 l0_3 l0_4 = some r) ∧ Aside0 (kq ≤ kj1) ∧ Aside0 (Kd.N k25 25 w' w.heap.size (fun k_ => (P0_4_ k_ ∨ w.heap.size ≤ k_) ∧ k_ ≠ gb165) v3 x3_2) ∧ Aside0 (Kd.V k25 25 w' w.heap.size (fun k_ => (P0_4_ k_ ∨ w.heap.size ≤ k_) ∧ some k_ ≠ (v3 : Value).ownBlock ∧ k_ ≠ gb165) (.slice A0_4 l0_4.length c0_4) l0_4) ∧ Aside0 (w'.heap[gb165]? = some (.cells #[.int .i64 a0_0, .int .i64 a0_1, .int .i64 a0_2, (.slice A0_3 l0_3.length c0_3), (.slice A0_4 l0_4.length c0_4)] 25 (0, 0))) ∧ Aside0 (Below w.heap.size w w'))
        case atStart => exact ⟨(([] : List (S25))), (0), (by first | rfl | (simp; done) | (simp [*]; done)), H', ⟨Nat.le_refl _⟩, ⟨by first | exact Kd.R_nil _ _ _ _ _ | exact Kd.N_nil _ _ _ _ _ | exact Kd.V_nil _ _ _ _ _ | exact Kd.Q_nil _ _ _ _ _ | exact Kd.S_nil _ _ _ _ _⟩, ⟨by (with_reducible repeat (first | apply Kd.V_alloc | apply Kd.V_drewN | apply Kd.V_drew)); exact Kd.V_mono HO_166004.out (fun _ hk => ⟨hk.1, ⟨(by simp [Value.ownBlock]), hk.2⟩⟩)⟩, ⟨by (with_reducible repeat (first | refine blk_drewN ?_ _ | refine blk_drew ?_ | refine blk_alloc ?_ _)); exact BK165.out⟩, ⟨by repeat (first | (with_reducible first | exact HB.out | apply below_alloc | apply pw_below_drewN | apply below_drew1 | refine below_set ?_ GE165.out) | exact HB.out)⟩⟩
        case round =>
          clear H'
          try clear c1
          try clear p2
          try clear c4
          try clear c4b0
          try clear c4b1
          try clear c7
          try clear hcz5_0
          try clear hcz5_1
          try clear hcz5_2
          try clear hcz5_3
          try clear hcz5_4
          try clear hcz6_0
          try clear hcz6_1
          try clear hcz6_2
          try clear hcz6_3
          try clear hcz6_4
          try clear hcz8_0
          try clear hcz8_1
          try clear hcz8_2
          try clear hcz8_3
          try clear hcz8_4
          try clear hfz5_0
          try clear hfz5_1
          try clear hfz5_2
          try clear hfz5_3
          try clear hfz5_4
          try clear hfz6_0
          try clear hfz6_1
          try clear hfz6_2
          try clear hfz6_3
          try clear hfz6_4
          try clear hfz8_0
          try clear hfz8_1
          try clear hfz8_2
          try clear hfz8_3
          try clear hfz8_4
          try clear p2
          obtain ⟨x3_2, x4_2, rfl, HA, HK2, HO_3, HO_166004, BK165, HB⟩ := hrel
          cases gk with
          | zero => exact absurd HA.out (by simp [capnpref10_Targets.l0])
          | succ k2 =>
            have H := HA.out
            clear HA
            simp only [capnpref10_Targets.l0] at H
            by_cases c9 : x4_2 < (l0_4.length : Int)
            · rw [if_pos c9] at H
              have c9b0 : decide (x4_2 < (l0_4.length : Int)) = true := decide_eq_true c9
              clear c9
              by_cases c10 : 0 ≤ x4_2
              · rw [if_pos c10] at H
                have c10b0 : decide (0 ≤ x4_2) = true := decide_eq_true c10
                clear c10
                by_cases c11 : x3_2.length + ((rd_T25 l0_4 x4_2).f4).length < 1954687338268
                · rw [if_pos c11] at H
                  have LMc11 := Aside0.mk c11
                  clear c11
                  obtain ⟨y167, hy167⟩ : ∃ y_ : List (S25), y_ = (x3_2 ++ ((rd_T25 l0_4 x4_2).f4)) := ⟨_, rfl⟩
                  replace H : (capnpref10_Targets.l0 k2 y167 (wrap64 (x4_2 + 1)) a0_0 a0_1 a0_2 l0_3 l0_4) = some r := by first | (rw [hy167]; with_reducible exact H) | (have H2_ := (Option.bind_some _ _).symm.trans H; rw [hy167]; with_reducible exact H2_) | (have H2_ := (Option.bind_some _ _).symm.trans H; with_reducible exact H2_) | with_reducible exact H | (rw [hy167]; exact H) | exact H
                  have Ny167 := Aside0.mk hy167
                  clear hy167
                  have H' := Aside0.mk H
                  clear H
                  have hcz12_0 : wr.cell? ⟨gb165, 0, none⟩ = some (.int .i64 a0_0) := (blk_cell BK165.out 0).trans rfl
                  have hcz12_1 : wr.cell? ⟨gb165, 1, none⟩ = some (.int .i64 a0_1) := (blk_cell BK165.out 1).trans rfl
                  have hcz12_2 : wr.cell? ⟨gb165, 2, none⟩ = some (.int .i64 a0_2) := (blk_cell BK165.out 2).trans rfl
                  have hcz12_3 : wr.cell? ⟨gb165, 3, none⟩ = some (.slice A0_3 l0_3.length c0_3) := (blk_cell BK165.out 3).trans rfl
                  have hcz12_4 : wr.cell? ⟨gb165, 4, none⟩ = some (.slice A0_4 l0_4.length c0_4) := (blk_cell BK165.out 4).trans rfl
                  have hfz12_0 := blk_frozen BK165.out 0
                  have hfz12_1 := blk_frozen BK165.out 1
                  have hfz12_2 := blk_frozen BK165.out 2
                  have hfz12_3 := blk_frozen BK165.out 3
                  have hfz12_4 := blk_frozen BK165.out 4
                  have p166 : 0 ≤ (x4_2 : Int) := of_decide_eq_true (by first | (with_reducible assumption) | assumption)
                  have q166 : x4_2 < (l0_4.length : Int) := of_decide_eq_true (by first | (with_reducible assumption) | assumption)
                  obtain ⟨ad166, A166_3, c166_3, A166_4, c166_4, e166, hx166_0, hx166_1, hx166_2, hx166_3, hx166_4, hl166_3, hi166_3, hl166_4, hi166_4⟩ := at_T25 (Kd.V_reads' HO_166004.out).2.2 x4_2 p166 q166
                  cases e166
                  obtain ⟨ce166, hce166, hMe166, hcc166⟩ := Kd.V_get HO_166004.out z25 x4_2 p166 (by first | exact q166 | exact of_decide_eq_true (by first | (with_reducible assumption) | assumption) | (have e_ := (Kd.V_reads' HO_166004.out).1; omega))
                  obtain ⟨ua166_3, uc166_3, ua166_4, uc166_4, rfl, ul166_3, ge166_3, ul166_4, ge166_4⟩ := k25_openF hMe166
                  have hv166_3 := hcc166 3 _ rfl
                  rw [add_field _ _ 3 (by omega)] at hv166_3
                  replace hv166_3 := Option.some.inj (hv166_3.symm.trans hx166_3)
                  injection hv166_3 with hva_ hvn_ hvc_
                  rw [hva_] at ge166_3
                  rw [hvc_] at ul166_3
                  have HL166_3 := Aside0.mk (show Kd.V (Kd.int .u8) 5 _ w.heap.size _ _ ((rd_T25 l0_4 x4_2).f3) from Kd.V_mk ul166_3 ge166_3)
                  clear hva_ hvn_ hvc_ ge166_3 ul166_3
                  have hv166_4 := hcc166 4 _ rfl
                  rw [add_field _ _ 4 (by omega)] at hv166_4
                  replace hv166_4 := Option.some.inj (hv166_4.symm.trans hx166_4)
                  injection hv166_4 with hva_ hvn_ hvc_
                  rw [hva_] at ge166_4
                  rw [hvc_] at ul166_4
                  have HL166_4 := Aside0.mk (show Kd.V k25 25 _ w.heap.size _ _ ((rd_T25 l0_4 x4_2).f4) from Kd.V_mk ul166_4 ge166_4)
                  clear hva_ hvn_ hvc_ ge166_4 ul166_4
                  clear hcc166 hce166
                  have HR166_3 := Aside0.mk hi166_3
                  have HC166_3 := Aside0.mk hl166_3
                  clear hi166_3 hl166_3
                  have HR166_4 := Aside0.mk hi166_4
                  have HC166_4 := Aside0.mk hl166_4
                  clear hi166_4 hl166_4
                  replace p166 := eq_true p166
                  replace q166 := eq_true q166
                  go_wp2_with (first | ((with_reducible refine gate_builtin (b := .append) (xs := #[.tmp 22, .tmp 28]) rfl ?_); at_builtin; refine Kd.N_append_rows k25 (w0 := w) w.heap.size rfl (.tmp 22) (.tmp 28) 23 25 (.agg #[(.int .i64 0), (.int .i64 0), (.int .i64 0), (.slice none 0 0), (.slice none 0 0)]) 72 rfl Tryd.underlying23 info25 rfl (by decide) (by omega) u3 x3_2 ((rd_T25 l0_4 x4_2).f4) _ _ _ (fun k_ => (P0_4_ k_ ∨ w.heap.size ≤ k_) ∧ k_ ≠ gb165) (fun k_ => ((fun k_ => (P0_4_ k_ ∨ w.heap.size ≤ k_) ∧ k_ ≠ gb165)) k_ ∧ some k_ ≠ (u3 : Value).ownBlock) rfl rfl ?aO ?aR (fun _ hk => hk) ?aF ?aB ?aS ?aL ?_; (case aR => exact (by skip; exact Kd.V_F (Kd.V_mono (ok' := (fun k_ => ((fun k_ => (P0_4_ k_ ∨ w.heap.size ≤ k_) ∧ k_ ≠ gb165)) k_ ∧ some k_ ≠ (u3 : Value).ownBlock)) (HL166_4.out) (fun k_ hk => ⟨⟨hk.1, hk.2.2⟩, hk.2.1⟩)))); (case aB => exact (by repeat (first | (with_reducible first | exact HB.out | apply below_alloc | apply pw_below_drewN | apply below_drew1 | refine below_set ?_ GE165.out) | exact HB.out))); (case aF => exact (fun k_ hk => ⟨(.inr (Nat.le_trans (below_size (by repeat (first | (with_reducible first | exact HB.out | apply below_alloc | apply pw_below_drewN | apply below_drew1 | refine below_set ?_ GE165.out) | exact HB.out))) hk)), Kd.freshB (g := gb165) (o := .cells #[.int .i64 a0_0, .int .i64 a0_1, .int .i64 a0_2, .slice A0_3 l0_3.length c0_3, .slice (some ad166) l0_4.length c0_4] 25 (0, 0)) (by (with_reducible repeat (first | refine blk_drewN ?_ _ | refine blk_drew ?_ | refine blk_alloc ?_ _)); exact BK165.out) k_ hk⟩)); (case aO => exact (by (with_reducible repeat (first | apply Kd.N_alloc | apply Kd.N_drewN | apply Kd.N_drew)); exact HO_3.out)); (case aS => exact (below_size (by repeat (first | (with_reducible first | exact HB.out | apply below_alloc | apply pw_below_drewN | apply below_drew1 | refine below_set ?_ GE165.out) | exact HB.out)))); (case aL => have := LMc11.out; omega); intro v168 w13 ho hb hg hat; rw [← Ny167.out] at ho; have n0_ := Aside0.mk (Kd.V_afterv (ok := (fun k_ => (P0_4_ k_ ∨ w.heap.size ≤ k_) ∧ k_ ≠ gb165)) (by (with_reducible repeat (first | apply Kd.V_alloc | apply Kd.V_drewN | apply Kd.V_drew)); exact Kd.V_mono HO_166004.out (fun _ hk => ⟨⟨hk.1, hk.2.2⟩, hk.2.1⟩)) hg hat); have n1_ := Aside0.mk (blk_grown (g := gb165) (o := .cells #[.int .i64 a0_0, .int .i64 a0_1, .int .i64 a0_2, .slice A0_3 l0_3.length c0_3, .slice (some ad166) l0_4.length c0_4] 25 (0, 0)) (by (with_reducible repeat (first | refine blk_drewN ?_ _ | refine blk_drew ?_ | refine blk_alloc ?_ _)); exact BK165.out) hg (Kd.N_away HO_3.out (fun _ hk => hk.2))); have n2_ := Aside0.mk (Kd.V_afterv (ok := (fun k_ => (P0_4_ k_ ∨ w.heap.size ≤ k_) ∧ k_ ≠ gb165)) (by (with_reducible repeat (first | apply Kd.V_alloc | apply Kd.V_drewN | apply Kd.V_drew)); exact Kd.V_mono HL166_3.out (fun _ hk => ⟨⟨hk.1, hk.2.2⟩, hk.2.1⟩)) hg hat); have n3_ := Aside0.mk (Kd.V_afterv (ok := (fun k_ => (P0_4_ k_ ∨ w.heap.size ≤ k_) ∧ k_ ≠ gb165)) (by (with_reducible repeat (first | apply Kd.V_alloc | apply Kd.V_drewN | apply Kd.V_drew)); exact Kd.V_mono HL166_4.out (fun _ hk => ⟨⟨hk.1, hk.2.2⟩, hk.2.1⟩)) hg hat); have n4_ := Aside0.mk (hb); have n5_ := Aside0.mk (ho); clear HO_166004; clear BK165; clear HL166_3; clear HL166_4; clear HB; clear HO_3; have HO_166004 := n0_; have BK165 := n1_; have HL166_3 := n2_; have HL166_4 := n3_; have HB := n4_; have HO169 := n5_; clear n0_ n1_ n2_ n3_ n4_ n5_; clear ho hb hg hat))
                  go_roundg k2
                  case measure => have := HJ1.out; have := HK2.out; omega
                  case rel => exact ⟨(y167), (wrap64 (x4_2 + 1)), (by first | rfl | (simp; done) | (simp [*]; done)), H', ⟨by have := HJ1.out; have := HK2.out; omega⟩, ⟨by (with_reducible repeat (first | apply Kd.N_alloc | apply Kd.N_drewN | apply Kd.N_drew)); exact HO169.out⟩, ⟨by (with_reducible repeat (first | apply Kd.V_alloc | apply Kd.V_drewN | apply Kd.V_drew)); exact Kd.V_mono HO_166004.out (fun _ hk => ⟨hk.1.1, ⟨hk.2, hk.1.2⟩⟩)⟩, ⟨by (with_reducible repeat (first | refine blk_drewN ?_ _ | refine blk_drew ?_ | refine blk_alloc ?_ _)); exact BK165.out⟩, ⟨by repeat (first | (with_reducible first | exact HB.out | apply below_alloc | apply pw_below_drewN | apply below_drew1 | refine below_set ?_ GE165.out) | exact HB.out)⟩⟩
                · rw [if_neg c11] at H
                  exact absurd H (by simp)
              · rw [if_neg c10] at H
                exact absurd H (by simp)
            · rw [if_neg c9] at H
              have c9b0 : decide (x4_2 < (l0_4.length : Int)) = false := decide_eq_false c9
              clear c9
              obtain rfl := Option.some.inj H
              have hcz14_0 : wr.cell? ⟨gb165, 0, none⟩ = some (.int .i64 a0_0) := (blk_cell BK165.out 0).trans rfl
              have hcz14_1 : wr.cell? ⟨gb165, 1, none⟩ = some (.int .i64 a0_1) := (blk_cell BK165.out 1).trans rfl
              have hcz14_2 : wr.cell? ⟨gb165, 2, none⟩ = some (.int .i64 a0_2) := (blk_cell BK165.out 2).trans rfl
              have hcz14_3 : wr.cell? ⟨gb165, 3, none⟩ = some (.slice A0_3 l0_3.length c0_3) := (blk_cell BK165.out 3).trans rfl
              have hcz14_4 : wr.cell? ⟨gb165, 4, none⟩ = some (.slice A0_4 l0_4.length c0_4) := (blk_cell BK165.out 4).trans rfl
              have hfz14_0 := blk_frozen BK165.out 0
              have hfz14_1 := blk_frozen BK165.out 1
              have hfz14_2 := blk_frozen BK165.out 2
              have hfz14_3 := blk_frozen BK165.out 3
              have hfz14_4 := blk_frozen BK165.out 4
              go_wp2
              go_ret
              exact ⟨_, by first | rfl | (simp [errW_none, errW_some] <;> rfl) | (simp [*, errW_none, errW_some] <;> rfl), Kd.N_V (by (with_reducible repeat (first | apply Kd.N_alloc | apply Kd.N_drewN | apply Kd.N_drew)); exact Kd.N_mono HO_3.out (fun _ hk => hk.1)), by repeat (first | (with_reducible first | exact HB.out | apply below_alloc | apply pw_below_drewN | apply below_drew1 | refine below_set ?_ GE165.out) | exact HB.out)⟩

end Go.Proofs.YtkiompgbmjoflaaDoor.P

namespace Go.Proofs.YtkiompgbmjoflaaDoor.P
open Go.RowKit Go.Proofs.YtkiompgbmjoflaaDoorW.PrintWords Go.Proofs.YtkiompgbmjoflaaDoorW.PrintLast Go.Proofs.YtkiompgbmjoflaaDoorW.PrintMore
attribute [local go_sem] max2_int min2_int max_two min_two max_three min_three max_four min_four   -- for this text's walks alone
set_option linter.unusedVariables false
set_option linter.unusedSimpArgs false

variable {gb : Bool}
/-! ### capnpref13_Node: function 13 -/
mutual
def capnpref13_Node.l0 : Nat → Int → List (S25) → Int → Option (Int)
  | 0, _, _, _ => none
  | k + 1, x3, x4, x5 => if x5 < (x4.length : Int) then (if 0 ≤ x5 then ((capnpref13_Node.f k ((rd_T25 x4 x5).f0) ((rd_T25 x4 x5).f1) ((rd_T25 x4 x5).f2) ((rd_T25 x4 x5).f3) ((rd_T25 x4 x5).f4)).bind fun t176 => (capnpref13_Node.l0 k (wrap64 (x3 + t176)) x4 (wrap64 (x5 + 1)))) else (none)) else (some x3)
def capnpref13_Node.f : Nat → Int → Int → Int → List Int → List (S25) → Option (Int)
  | 0, _, _, _, _, _ => none
  | k + 1, a0_0, a0_1, a0_2, l0_3, l0_4 => (capnpref13_Object.f k a0_0 a0_1 a0_2 l0_3 l0_4).bind fun t171 => ((capnpref10_Targets.f k a0_0 a0_1 a0_2 l0_3 l0_4).bind fun t172 => (capnpref13_Node.l0 k t171 t172 0))
end
theorem capnpref13_Node.mono_l : ∀ k, (∀ y0 y1 y2 y3 y4, LeO (capnpref13_Node.f k y0 y1 y2 y3 y4) (capnpref13_Node.f (k + 1) y0 y1 y2 y3 y4)) ∧ (∀ y0 y1 y2, LeO (capnpref13_Node.l0 k y0 y1 y2) (capnpref13_Node.l0 (k + 1) y0 y1 y2))
  | 0 => ⟨fun _ _ _ _ _ r h => by simp [capnpref13_Node.f] at h, fun _ _ _ r h => by simp [capnpref13_Node.l0] at h⟩
  | k + 1 => by
    obtain ⟨ih0, ih1⟩ := capnpref13_Node.mono_l k
    refine ⟨?_, ?_⟩
    · intro y0 y1 y2 y3 y4
      unfold capnpref13_Node.f
      repeat' first
      | (with_reducible exact ih0 _ _ _ _ _)
      | (with_reducible exact ih1 _ _ _)
      | (with_reducible exact capnpref10_Targets.mono _ _ _ _ _ _)
      | (with_reducible exact capnpref13_Object.mono _ _ _ _ _ _)
      | (with_reducible exact LeO.refl _)
      | (with_reducible exact LeO.none _)
      | (with_reducible refine LeO.ite ?_ ?_)
      | (with_reducible refine LeO.bind ?_ (fun _ => ?_))
      | exact ih0 _ _ _ _ _
      | exact ih1 _ _ _
      | exact capnpref10_Targets.mono _ _ _ _ _ _
      | exact capnpref13_Object.mono _ _ _ _ _ _
      | exact LeO.none _
      | refine LeO.ite ?_ ?_
      | refine LeO.bind ?_ (fun _ => ?_)
    · intro y0 y1 y2
      unfold capnpref13_Node.l0
      repeat' first
      | (with_reducible exact ih0 _ _ _ _ _)
      | (with_reducible exact ih1 _ _ _)
      | (with_reducible exact capnpref10_Targets.mono _ _ _ _ _ _)
      | (with_reducible exact capnpref13_Object.mono _ _ _ _ _ _)
      | (with_reducible exact LeO.refl _)
      | (with_reducible exact LeO.none _)
      | (with_reducible refine LeO.ite ?_ ?_)
      | (with_reducible refine LeO.bind ?_ (fun _ => ?_))
      | exact ih0 _ _ _ _ _
      | exact ih1 _ _ _
      | exact capnpref10_Targets.mono _ _ _ _ _ _
      | exact capnpref13_Object.mono _ _ _ _ _ _
      | exact LeO.none _
      | refine LeO.ite ?_ ?_
      | refine LeO.bind ?_ (fun _ => ?_)
theorem capnpref13_Node.mono : ∀ a0 a1 a2 a3 a4 k, LeO (capnpref13_Node.f k a0 a1 a2 a3 a4) (capnpref13_Node.f (k + 1) a0 a1 a2 a3 a4) := by
  intro a0 a1 a2 a3 a4 k
  obtain ⟨ih0, ih1⟩ := capnpref13_Node.mono_l k
  exact ih0 a0 a1 a2 a3 a4
set_option maxHeartbeats 8000000 in
set_option maxRecDepth 100000 in
theorem capnpref13_Node.calls (k : Nat) : ∀ (a0_0 : Int) (a0_1 : Int) (a0_2 : Int) (A0_3 : Option Addr) (c0_3 : Nat) (l0_3 : List Int) (A0_4 : Option Addr) (c0_4 : Nat) (l0_4 : List (S25)) (r : Int) (w : World) (hr0_3 : Kd.C (Kd.int .u8) w A0_3 l0_3.length l0_3) (hc0_3 : l0_3.length ≤ c0_3) (hr0_4 : Kd.C k25 w A0_4 l0_4.length l0_4) (hc0_4 : l0_4.length ≤ c0_4) (h : capnpref13_Node.f k a0_0 a0_1 a0_2 l0_3 l0_4 = some r),
    Calls Tryd.prog 13 #[.agg #[.int .i64 a0_0, .int .i64 a0_1, .int .i64 a0_2, .slice A0_3 l0_3.length c0_3, .slice A0_4 l0_4.length c0_4]] w fun e w' => e = .returned (.int .i64 r) ∧ Below w.heap.size w w' := by
  induction k using Nat.strongRecOn with
  | _ k ih =>
  intro a0_0 a0_1 a0_2 A0_3 c0_3 l0_3 A0_4 c0_4 l0_4 r w hr0_3 hc0_3 hr0_4 hc0_4 h
  cases k with
  | zero => exact absurd h (by simp [capnpref13_Node.f])
  | succ k =>
  simp only [capnpref13_Node.f] at h
  have hu25 := Tryd.underlying25
  have HR0_3 := Aside0.mk hr0_3
  have HC0_3 := Aside0.mk hc0_3
  clear hr0_3 hc0_3
  have HR0_4 := Aside0.mk hr0_4
  have HC0_4 := Aside0.mk hc0_4
  clear hr0_4 hc0_4
  have HB := Aside0.mk (Below.refl w.heap.size w)
  have H : ((capnpref13_Object.f k a0_0 a0_1 a0_2 l0_3 l0_4).bind fun t171 => ((capnpref10_Targets.f k a0_0 a0_1 a0_2 l0_3 l0_4).bind fun t172 => (capnpref13_Node.l0 k t171 t172 0))) = some r := h
  clear h
  replace H := Option.bind_eq_some_iff.mp H
  obtain ⟨t171, A20, H⟩ := H
  replace H : ((capnpref10_Targets.f k a0_0 a0_1 a0_2 l0_3 l0_4).bind fun t172 => (capnpref13_Node.l0 k t171 t172 0)) = some r := H
  have A2 := Aside0.mk A20
  clear A20
  replace H := Option.bind_eq_some_iff.mp H
  obtain ⟨t172, A30, H⟩ := H
  replace H : (capnpref13_Node.l0 k t171 t172 0) = some r := H
  have A3 := Aside0.mk A30
  clear A30
  have H' := Aside0.mk H
  clear H
  go_enter Tryd.func13, Tryd.ntmps13
  go_wp2_with (first | ((with_reducible refine gate_dst (N := 1) rfl ?_); refine box_event ?hg (N := 1) ?hd (cs := #[.int .i64 a0_0, .int .i64 a0_1, .int .i64 a0_2, .slice A0_3 l0_3.length c0_3, .slice A0_4 l0_4.length c0_4]) (t := 25) ?hr ?_; (case hd => rfl); (case hg => rfl); (case hr => first | (go_simp; done) | (go_simp; rfl)); intro gb170 hg w4 hbox hb; have n0_ := Aside0.mk (below_step (by repeat (first | (with_reducible first | exact HB.out | apply below_alloc | apply pw_below_drewN | apply below_drew1) | exact HB.out)) hb); have n1_ := Aside0.mk (hbox); have n2_ := Aside0.mk ((by rw [hg]; exact (below_size (by repeat (first | (with_reducible first | exact HB.out | apply below_alloc | apply pw_below_drewN | apply below_drew1) | exact HB.out))) : w.heap.size ≤ gb170)); have n3_ := Aside0.mk ((by rw [hg]; exact (below_size (by repeat (first | (with_reducible first | exact HB.out | apply below_alloc | apply pw_below_drewN | apply below_drew1) | exact HB.out))) : w.heap.size ≤ gb170)); clear HB; have HB := n0_; have BK170 := n1_; have GW170 := n2_; have GE170 := n3_; clear n0_ n1_ n2_ n3_; clear hb hbox hg; have hcz5_0 : w4.cell? ⟨gb170, 0, none⟩ = some (.int .i64 a0_0) := (blk_cell BK170.out 0).trans rfl; have hcz5_1 : w4.cell? ⟨gb170, 1, none⟩ = some (.int .i64 a0_1) := (blk_cell BK170.out 1).trans rfl; have hcz5_2 : w4.cell? ⟨gb170, 2, none⟩ = some (.int .i64 a0_2) := (blk_cell BK170.out 2).trans rfl; have hcz5_3 : w4.cell? ⟨gb170, 3, none⟩ = some (.slice A0_3 l0_3.length c0_3) := (blk_cell BK170.out 3).trans rfl; have hcz5_4 : w4.cell? ⟨gb170, 4, none⟩ = some (.slice A0_4 l0_4.length c0_4) := (blk_cell BK170.out 4).trans rfl; have hfz5_0 := blk_frozen BK170.out 0; have hfz5_1 := blk_frozen BK170.out 1; have hfz5_2 := blk_frozen BK170.out 2; have hfz5_3 := blk_frozen BK170.out 3; have hfz5_4 := blk_frozen BK170.out 4) | ((with_reducible refine gate_callee (f := 11) rfl ?_); refine goesL_ (some 7) rfl rfl Tryd.func11 (by kernel_rfl) rfl #[.agg #[.int .i64 a0_0, .int .i64 a0_1, .int .i64 a0_2, .slice A0_3 l0_3.length c0_3, .slice A0_4 l0_4.length c0_4]] rfl (by (try simp only [List.map_toArray, List.map_cons, List.map_nil]); first | done | rfl | (simp only [List.length_drop, List.length_take]; rfl)) ?_; (with_reducible refine (capnpref13_Object.calls k a0_0 a0_1 a0_2 _ _ l0_3 _ _ l0_4 t171 _ ?side1 ?side2 ?side3 ?side4 A2.out).mono ?_); (case side1 => repeat (first | exact (Kd.C_below HR0_3.out HB.out) | (with_reducible refine Kd.C_alloc ?_ _) | (with_reducible refine Kd.C_drewN ?_ _) | (with_reducible refine Kd.C_drew ?_))); (case side2 => exact HC0_3.out); (case side3 => repeat (first | exact (Kd.C_below HR0_4.out HB.out) | (with_reducible refine Kd.C_alloc ?_ _) | (with_reducible refine Kd.C_drewN ?_ _) | (with_reducible refine Kd.C_drew ?_))); (case side4 => exact HC0_4.out); rintro e w6 ⟨rfl, hb⟩; refine ⟨_, rfl, ?_⟩; have n0_ := Aside0.mk (blk_below (g := gb170) (o := .cells #[.int .i64 a0_0, .int .i64 a0_1, .int .i64 a0_2, .slice A0_3 l0_3.length c0_3, .slice A0_4 l0_4.length c0_4] 25 (0, 0)) (by (with_reducible repeat (first | refine blk_drewN ?_ _ | refine blk_drew ?_ | refine blk_alloc ?_ _)); exact BK170.out) hb); have n1_ := Aside0.mk (below_step (by repeat (first | (with_reducible first | exact HB.out | apply below_alloc | apply pw_below_drewN | apply below_drew1 | refine below_set ?_ GE170.out) | exact HB.out)) hb); clear BK170; clear HB; have BK170 := n0_; have HB := n1_; clear n0_ n1_; (try clear hb); (try clear hb2); (try clear hk); (try clear hi); have hcz7_0 : w6.cell? ⟨gb170, 0, none⟩ = some (.int .i64 a0_0) := (blk_cell BK170.out 0).trans rfl; have hcz7_1 : w6.cell? ⟨gb170, 1, none⟩ = some (.int .i64 a0_1) := (blk_cell BK170.out 1).trans rfl; have hcz7_2 : w6.cell? ⟨gb170, 2, none⟩ = some (.int .i64 a0_2) := (blk_cell BK170.out 2).trans rfl; have hcz7_3 : w6.cell? ⟨gb170, 3, none⟩ = some (.slice A0_3 l0_3.length c0_3) := (blk_cell BK170.out 3).trans rfl; have hcz7_4 : w6.cell? ⟨gb170, 4, none⟩ = some (.slice A0_4 l0_4.length c0_4) := (blk_cell BK170.out 4).trans rfl; have hfz7_0 := blk_frozen BK170.out 0; have hfz7_1 := blk_frozen BK170.out 1; have hfz7_2 := blk_frozen BK170.out 2; have hfz7_3 := blk_frozen BK170.out 3; have hfz7_4 := blk_frozen BK170.out 4) | ((with_reducible refine gate_callee (f := 15) rfl ?_); refine goesL_ (some 9) rfl rfl Tryd.func15 (by kernel_rfl) rfl #[.agg #[.int .i64 a0_0, .int .i64 a0_1, .int .i64 a0_2, .slice A0_3 l0_3.length c0_3, .slice A0_4 l0_4.length c0_4]] rfl (by (try simp only [List.map_toArray, List.map_cons, List.map_nil]); first | done | rfl | (simp only [List.length_drop, List.length_take]; rfl)) ?_; (with_reducible refine (capnpref10_Targets.calls k a0_0 a0_1 a0_2 _ _ l0_3 (fun k_ => k_ < w.heap.size) _ _ l0_4 t172 _ ?side1 ?side2 ?side3 A3.out).mono ?_); (case side1 => repeat (first | exact (Kd.C_below HR0_3.out HB.out) | (with_reducible refine Kd.C_alloc ?_ _) | (with_reducible refine Kd.C_drewN ?_ _) | (with_reducible refine Kd.C_drew ?_))); (case side2 => exact HC0_3.out); (case side3 => exact Kd.V_mk HC0_4.out (Kd.F_below (Kd.C_F k25_heap HR0_4.out) (by repeat (first | (with_reducible first | exact HB.out | apply below_alloc | apply pw_below_drewN | apply below_drew1 | refine below_set ?_ GE170.out) | exact HB.out)))); rintro e w8 ⟨v173, rfl, ho0, hb⟩; refine ⟨_, rfl, ?_⟩; have n0_ := Aside0.mk (Kd.V_lower (Kd.V_mono (ok' := fun k_ => k_ ≠ gb170) ho0 (fun k_ hk_ => Or.elim hk_ (fun hs_ => fun e_ => Nat.not_le.2 hs_ (by rw [e_]; exact GW170.out)) (fun hn_ => (Kd.freshB (g := gb170) (o := .cells #[.int .i64 a0_0, .int .i64 a0_1, .int .i64 a0_2, .slice A0_3 l0_3.length c0_3, .slice A0_4 l0_4.length c0_4] 25 (0, 0)) (by (with_reducible repeat (first | refine blk_drewN ?_ _ | refine blk_drew ?_ | refine blk_alloc ?_ _)); exact BK170.out) k_ hn_)))) (below_size (by repeat (first | (with_reducible first | exact HB.out | apply below_alloc | apply pw_below_drewN | apply below_drew1 | refine below_set ?_ GE170.out) | exact HB.out)))); have n1_ := Aside0.mk (blk_below (g := gb170) (o := .cells #[.int .i64 a0_0, .int .i64 a0_1, .int .i64 a0_2, .slice A0_3 l0_3.length c0_3, .slice A0_4 l0_4.length c0_4] 25 (0, 0)) (by (with_reducible repeat (first | refine blk_drewN ?_ _ | refine blk_drew ?_ | refine blk_alloc ?_ _)); exact BK170.out) hb); have n2_ := Aside0.mk (below_step (by repeat (first | (with_reducible first | exact HB.out | apply below_alloc | apply pw_below_drewN | apply below_drew1 | refine below_set ?_ GE170.out) | exact HB.out)) hb); clear BK170; clear HB; have HO174 := n0_; have BK170 := n1_; have HB := n2_; clear n0_ n1_ n2_; (try clear hb); (try clear hb2); (try clear hk); (try clear hi); (try clear ho0)))
  go_loopg [3, 5] k (fun kq v3 v5 w' => ∃ (x3_1 : Int) (x5_1 : Int), v3 = .int .i64 x3_1 ∧ v5 = .int .i64 x5_1 ∧ Aside0 (capnpref13_Node.l0 kq x3_1 t172 x5_1 = some r) ∧ Aside0 (kq ≤ k) ∧ Aside0 (Kd.V k25 25 w' w.heap.size (fun k_ => k_ ≠ gb170) v173 t172) ∧ Aside0 (w'.heap[gb170]? = some (.cells #[.int .i64 a0_0, .int .i64 a0_1, .int .i64 a0_2, (.slice A0_3 l0_3.length c0_3), (.slice A0_4 l0_4.length c0_4)] 25 (0, 0))) ∧ Aside0 (Below w.heap.size w w'))
  case atStart => exact ⟨(t171), (0), (by first | rfl | (simp; done) | (simp [*]; done)), (by first | rfl | (simp; done) | (simp [*]; done)), H', ⟨Nat.le_refl _⟩, ⟨by (with_reducible repeat (first | apply Kd.V_alloc | apply Kd.V_drewN | apply Kd.V_drew)); exact HO174.out⟩, ⟨by (with_reducible repeat (first | refine blk_drewN ?_ _ | refine blk_drew ?_ | refine blk_alloc ?_ _)); exact BK170.out⟩, ⟨by repeat (first | (with_reducible first | exact HB.out | apply below_alloc | apply pw_below_drewN | apply below_drew1 | refine below_set ?_ GE170.out) | exact HB.out)⟩⟩
  case round =>
    clear H'
    try clear c1
    try clear p2
    try clear hcz5_0
    try clear hcz5_1
    try clear hcz5_2
    try clear hcz5_3
    try clear hcz5_4
    try clear hcz7_0
    try clear hcz7_1
    try clear hcz7_2
    try clear hcz7_3
    try clear hcz7_4
    try clear hfz5_0
    try clear hfz5_1
    try clear hfz5_2
    try clear hfz5_3
    try clear hfz5_4
    try clear hfz7_0
    try clear hfz7_1
    try clear hfz7_2
    try clear hfz7_3
    try clear hfz7_4
    obtain ⟨x3_1, x5_1, rfl, rfl, HA, HK1, HO_4, BK170, HB⟩ := hrel
    cases gk with
    | zero => exact absurd HA.out (by simp [capnpref13_Node.l0])
    | succ k1 =>
      have H := HA.out
      clear HA
      simp only [capnpref13_Node.l0] at H
      by_cases c9 : x5_1 < (t172.length : Int)
      · rw [if_pos c9] at H
        have c9b0 : decide (x5_1 < (t172.length : Int)) = true := decide_eq_true c9
        clear c9
        by_cases c10 : 0 ≤ x5_1
        · rw [if_pos c10] at H
          have c10b0 : decide (0 ≤ x5_1) = true := decide_eq_true c10
          clear c10
          replace H := Option.bind_eq_some_iff.mp H
          obtain ⟨t176, A110, H⟩ := H
          replace H : (capnpref13_Node.l0 k1 (wrap64 (x3_1 + t176)) t172 (wrap64 (x5_1 + 1))) = some r := H
          have A11 := Aside0.mk A110
          clear A110
          have H' := Aside0.mk H
          clear H
          obtain ⟨Ao12, co12, eo12⟩ := Kd.V_slice HO_4.out
          subst eo12
          have p175 : 0 ≤ (x5_1 : Int) := of_decide_eq_true (by first | (with_reducible assumption) | assumption)
          have q175 : x5_1 < (t172.length : Int) := of_decide_eq_true (by first | (with_reducible assumption) | assumption)
          obtain ⟨ad175, A175_3, c175_3, A175_4, c175_4, e175, hx175_0, hx175_1, hx175_2, hx175_3, hx175_4, hl175_3, hi175_3, hl175_4, hi175_4⟩ := at_T25 (Kd.V_reads' HO_4.out).2.2 x5_1 p175 q175
          cases e175
          obtain ⟨ce175, hce175, hMe175, hcc175⟩ := Kd.V_get HO_4.out z25 x5_1 p175 (by first | exact q175 | exact of_decide_eq_true (by first | (with_reducible assumption) | assumption) | (have e_ := (Kd.V_reads' HO_4.out).1; omega))
          obtain ⟨ua175_3, uc175_3, ua175_4, uc175_4, rfl, ul175_3, ge175_3, ul175_4, ge175_4⟩ := k25_openF hMe175
          have hv175_3 := hcc175 3 _ rfl
          rw [add_field _ _ 3 (by omega)] at hv175_3
          replace hv175_3 := Option.some.inj (hv175_3.symm.trans hx175_3)
          injection hv175_3 with hva_ hvn_ hvc_
          rw [hva_] at ge175_3
          rw [hvc_] at ul175_3
          have HL175_3 := Aside0.mk (show Kd.V (Kd.int .u8) 5 _ w.heap.size _ _ ((rd_T25 t172 x5_1).f3) from Kd.V_mk ul175_3 ge175_3)
          clear hva_ hvn_ hvc_ ge175_3 ul175_3
          have hv175_4 := hcc175 4 _ rfl
          rw [add_field _ _ 4 (by omega)] at hv175_4
          replace hv175_4 := Option.some.inj (hv175_4.symm.trans hx175_4)
          injection hv175_4 with hva_ hvn_ hvc_
          rw [hva_] at ge175_4
          rw [hvc_] at ul175_4
          have HL175_4 := Aside0.mk (show Kd.V k25 25 _ w.heap.size _ _ ((rd_T25 t172 x5_1).f4) from Kd.V_mk ul175_4 ge175_4)
          clear hva_ hvn_ hvc_ ge175_4 ul175_4
          clear hcc175 hce175
          have HR175_3 := Aside0.mk hi175_3
          have HC175_3 := Aside0.mk hl175_3
          clear hi175_3 hl175_3
          have HR175_4 := Aside0.mk hi175_4
          have HC175_4 := Aside0.mk hl175_4
          clear hi175_4 hl175_4
          replace p175 := eq_true p175
          replace q175 := eq_true q175
          go_wp2_with (first | ((with_reducible refine gate_callee (f := 13) rfl ?_); refine goesL_ (some 21) rfl rfl Tryd.func13 (by kernel_rfl) rfl #[.agg #[.int .i64 ((rd_T25 t172 x5_1).f0), .int .i64 ((rd_T25 t172 x5_1).f1), .int .i64 ((rd_T25 t172 x5_1).f2), .slice A175_3 ((rd_T25 t172 x5_1).f3).length c175_3, .slice A175_4 ((rd_T25 t172 x5_1).f4).length c175_4]] rfl (by (try simp only [List.map_toArray, List.map_cons, List.map_nil]); first | done | rfl | (simp only [List.length_drop, List.length_take]; rfl)) ?_; (with_reducible refine (ih k1 (by have := HK1.out; omega) ((rd_T25 t172 x5_1).f0) ((rd_T25 t172 x5_1).f1) ((rd_T25 t172 x5_1).f2) _ _ ((rd_T25 t172 x5_1).f3) _ _ ((rd_T25 t172 x5_1).f4) t176 _ ?side1 ?side2 ?side3 ?side4 A11.out).mono ?_); (case side1 => repeat (first | exact (by repeat (first | (with_reducible exact HR175_3.out) | (with_reducible refine Kd.C_alloc ?_ _) | (with_reducible refine Kd.C_drewN ?_ _) | (with_reducible refine Kd.C_drew ?_) | exact HR175_3.out)) | (with_reducible refine Kd.C_alloc ?_ _) | (with_reducible refine Kd.C_drewN ?_ _) | (with_reducible refine Kd.C_drew ?_))); (case side2 => exact HC175_3.out); (case side3 => repeat (first | exact (by repeat (first | (with_reducible exact HR175_4.out) | (with_reducible refine Kd.C_alloc ?_ _) | (with_reducible refine Kd.C_drewN ?_ _) | (with_reducible refine Kd.C_drew ?_) | exact HR175_4.out)) | (with_reducible refine Kd.C_alloc ?_ _) | (with_reducible refine Kd.C_drewN ?_ _) | (with_reducible refine Kd.C_drew ?_))); (case side4 => exact HC175_4.out); rintro e w13 ⟨rfl, hb⟩; refine ⟨_, rfl, ?_⟩; have n0_ := Aside0.mk (Kd.V_below (by (with_reducible repeat (first | apply Kd.V_alloc | apply Kd.V_drewN | apply Kd.V_drew)); exact HO_4.out) hb); have n1_ := Aside0.mk (Kd.V_below (by (with_reducible repeat (first | apply Kd.V_alloc | apply Kd.V_drewN | apply Kd.V_drew)); exact HL175_3.out) hb); have n2_ := Aside0.mk (Kd.V_below (by (with_reducible repeat (first | apply Kd.V_alloc | apply Kd.V_drewN | apply Kd.V_drew)); exact HL175_4.out) hb); have n3_ := Aside0.mk (blk_below (g := gb170) (o := .cells #[.int .i64 a0_0, .int .i64 a0_1, .int .i64 a0_2, .slice A0_3 l0_3.length c0_3, .slice A0_4 l0_4.length c0_4] 25 (0, 0)) (by (with_reducible repeat (first | refine blk_drewN ?_ _ | refine blk_drew ?_ | refine blk_alloc ?_ _)); exact BK170.out) hb); have n4_ := Aside0.mk (Kd.C_below (by repeat (first | (with_reducible exact HR175_3.out) | (with_reducible refine Kd.C_alloc ?_ _) | (with_reducible refine Kd.C_drewN ?_ _) | (with_reducible refine Kd.C_drew ?_) | exact HR175_3.out)) hb); have n5_ := Aside0.mk (Kd.C_below (by repeat (first | (with_reducible exact HR175_4.out) | (with_reducible refine Kd.C_alloc ?_ _) | (with_reducible refine Kd.C_drewN ?_ _) | (with_reducible refine Kd.C_drew ?_) | exact HR175_4.out)) hb); have n6_ := Aside0.mk (below_step (by repeat (first | (with_reducible first | exact HB.out | apply below_alloc | apply pw_below_drewN | apply below_drew1 | refine below_set ?_ GE170.out) | exact HB.out)) hb); clear HO_4; clear HL175_3; clear HL175_4; clear BK170; clear HR175_3; clear HR175_4; clear HB; have HO_4 := n0_; have HL175_3 := n1_; have HL175_4 := n2_; have BK170 := n3_; have HR175_3 := n4_; have HR175_4 := n5_; have HB := n6_; clear n0_ n1_ n2_ n3_ n4_ n5_ n6_; (try clear hb); (try clear hb2); (try clear hk); (try clear hi)))
          go_roundg k1
          case measure => have := HK1.out; omega
          case rel => exact ⟨(wrap64 (x3_1 + t176)), (wrap64 (x5_1 + 1)), (by first | rfl | (simp; done) | (simp [*]; done)), (by first | rfl | (simp; done) | (simp [*]; done)), H', ⟨by have := HK1.out; omega⟩, ⟨by (with_reducible repeat (first | apply Kd.V_alloc | apply Kd.V_drewN | apply Kd.V_drew)); exact HO_4.out⟩, ⟨by (with_reducible repeat (first | refine blk_drewN ?_ _ | refine blk_drew ?_ | refine blk_alloc ?_ _)); exact BK170.out⟩, ⟨by repeat (first | (with_reducible first | exact HB.out | apply below_alloc | apply pw_below_drewN | apply below_drew1 | refine below_set ?_ GE170.out) | exact HB.out)⟩⟩
        · rw [if_neg c10] at H
          exact absurd H (by simp)
      · rw [if_neg c9] at H
        have c9b0 : decide (x5_1 < (t172.length : Int)) = false := decide_eq_false c9
        clear c9
        obtain rfl := Option.some.inj H
        obtain ⟨Ao14, co14, eo14⟩ := Kd.V_slice HO_4.out
        subst eo14
        go_wp2
        go_ret
        exact ⟨by first | rfl | (simp [errW_none, errW_some] <;> rfl) | (simp [*, errW_none, errW_some] <;> rfl), by repeat (first | (with_reducible first | exact HB.out | apply below_alloc | apply pw_below_drewN | apply below_drew1 | refine below_set ?_ GE170.out) | exact HB.out)⟩

end Go.Proofs.YtkiompgbmjoflaaDoor.P

set_option linter.unusedVariables false
set_option linter.unusedSimpArgs false
namespace Go.Proofs.YtkiompgbmjoflaaDoor.P
open Go.RowKit Go.Proofs.YtkiompgbmjoflaaDoorW.PrintWords Go.Proofs.YtkiompgbmjoflaaDoorW.PrintLast Go.Proofs.YtkiompgbmjoflaaDoorW.PrintMore
theorem Nd.strong {P : Nd → Prop} (h : ∀ n : Nd, (∀ m : Nd, tsz m < tsz n → P m) → P n) (n : Nd) : P n := by
  suffices ∀ m (n : Nd), tsz n ≤ m → P n from this _ n (Nat.le_refl _)
  intro m
  induction m with
  | zero => intro n hn; have := tsz_pos n; omega
  | succ m ih => exact fun n hn => h n fun x hx => ih x (by omega)
theorem tsz_kid {n x : Nd} (h : x ∈ n.f4) : tsz x < tsz n := by have := tsz_mem h; rw [tsz_eq n]; omega
def ua : List Nd → Nat
  | [] => 0
  | x :: xs => max (x.f3.length / 8) (ua xs)
def ub : List Nd → Nat
  | [] => 0
  | x :: xs => max x.f4.length (ub xs)
theorem ua_le : ∀ l : List Nd, ua l ≤ tszs l
  | [] => Nat.le_refl _
  | x :: xs => by rw [ua, tszs_cons, tsz_eq]; have := ua_le xs; omega
theorem ub_le : ∀ l : List Nd, ub l ≤ tszs l
  | [] => Nat.le_refl _
  | x :: xs => by rw [ub, tszs_cons, tsz_eq]; have := ub_le xs; have := len_tszs x.f4; omega
theorem Big.uni {n : Nd} (h : Big n) : ua n.f4 ≤ 1048576 ∧ ub n.f4 ≤ 1048576 := by
  unfold Big at h
  rw [tsz_eq] at h
  have := ua_le n.f4
  have := ub_le n.f4
  omega
theorem rUniform_has (n : Nd) (hb : Big n) : Has (fun k => capnpref11_Uniform.f k n.f0 n.f1 n.f2 n.f3 n.f4) ((ua n.f4 : Int), (ub n.f4 : Int)) := by
  have hk := hb.kids
  have hu := hb.uni
  have key : ∀ (d i a b : Nat), i + d = n.f4.length → Has (fun k => capnpref11_Uniform.l0 k (a : Int) (b : Int) (i : Int) n.f0 n.f1 n.f2 n.f3 n.f4) ((max a (ua (n.f4.drop i)) : Nat), (max b (ub (n.f4.drop i)) : Nat)) := by
    intro d
    induction d with
    | zero =>
      intro i a b hi
      obtain rfl : i = n.f4.length := by omega
      refine Has.step (fun k => by rw [capnpref11_Uniform.l0]) (Has.neg (by omega) ?_)
      rw [List.drop_length, ua, ub, Nat.max_zero, Nat.max_zero]
      exact Has.some_ _
    | succ d ih =>
      intro i a b hi
      have hlt : i < n.f4.length := by omega
      have hd := (hb.mem (List.getElem_mem hlt)).data
      rw [List.drop_eq_getElem_cons hlt, ua, ub]
      refine Has.step (fun k => by rw [capnpref11_Uniform.l0]) (Has.pos (by omega) (Has.pos (by omega) ?_))
      simp only [rd_T25_at hlt]
      rw [w64s i (by omega), w64 (x := (n.f4[i].f3.length : Int) / 8) (by omega), show (n.f4[i].f3.length : Int) / 8 = ((n.f4[i].f3.length / 8 : Nat) : Int) by push_cast; rfl, ← Nat.max_assoc, ← Nat.max_assoc]
      have nx := fun a b => ih (i + 1) a b (by omega)
      by_cases h1 : n.f4[i].f3.length / 8 > a
      · refine Has.pos (by omega) ?_
        rw [show max a (n.f4[i].f3.length / 8) = n.f4[i].f3.length / 8 by omega]
        by_cases h2 : n.f4[i].f4.length > b
        · refine Has.pos (by omega) ?_
          rw [show max b n.f4[i].f4.length = n.f4[i].f4.length by omega]
          exact nx _ _
        · refine Has.neg (by omega) ?_
          rw [show max b n.f4[i].f4.length = b by omega]
          exact nx _ _
      · refine Has.neg (by omega) ?_
        rw [show max a (n.f4[i].f3.length / 8) = a by omega]
        by_cases h2 : n.f4[i].f4.length > b
        · refine Has.pos (by omega) ?_
          rw [show max b n.f4[i].f4.length = n.f4[i].f4.length by omega]
          exact nx _ _
        · refine Has.neg (by omega) ?_
          rw [show max b n.f4[i].f4.length = b by omega]
          exact nx _ _
  simp only [capnpref11_Uniform.f]
  exact (key n.f4.length 0 0 0 (by omega)).eq (by rw [List.drop_zero, Nat.zero_max, Nat.zero_max])
theorem mx_nat (a b : Nat) : mx (a : Int) (b : Int) = ((max a b : Nat) : Int) := by unfold mx; split <;> omega
theorem Uniform_has (n : Nd) (hb : Big n) : Has (fun k => trim_Uniform.f k n.f0 n.f1 n.f2 n.f3 n.f4) ((ua n.f4 : Int), (ub n.f4 : Int)) := by
  have hk := hb.kids
  have key : ∀ (d i a b : Nat), i + d = n.f4.length → Has (fun k => trim_Uniform.l0 k (a : Int) (b : Int) n.f4 (n.f4.length : Int) (i : Int)) ((max a (ua (n.f4.drop i)) : Nat), (max b (ub (n.f4.drop i)) : Nat)) := by
    intro d
    induction d with
    | zero =>
      intro i a b hi
      obtain rfl : i = n.f4.length := by omega
      refine Has.step (fun k => by rw [trim_Uniform.l0]) (Has.neg (by omega) ?_)
      rw [List.drop_length, ua, ub, Nat.max_zero, Nat.max_zero]
      exact Has.some_ _
    | succ d ih =>
      intro i a b hi
      have hlt : i < n.f4.length := by omega
      have hd := (hb.mem (List.getElem_mem hlt)).data
      rw [List.drop_eq_getElem_cons hlt, ua, ub]
      refine Has.step (fun k => by rw [trim_Uniform.l0]) (Has.pos (by omega) (Has.pos (by omega) (Has.pos (by omega) ?_)))
      simp only [rd_T25_at hlt]
      rw [w64s i (by omega), w64 (x := (n.f4[i].f3.length : Int) / 8) (by omega), show (n.f4[i].f3.length : Int) / 8 = ((n.f4[i].f3.length / 8 : Nat) : Int) by push_cast; rfl, ← Nat.max_assoc, ← Nat.max_assoc, mx_nat, mx_nat]
      exact ih (i + 1) _ _ (by omega)
  simp only [trim_Uniform.f]
  exact (key n.f4.length 0 0 0 (by omega)).eq (by rw [List.drop_zero, Nat.zero_max, Nat.zero_max])
/-- The words of a node's object. -/
def obj (n : Nd) : Int := if n.f0 = 0 then 0 else if n.f0 = 1 then ((n.f3.length / 8 + n.f4.length : Nat) : Int) else if n.f1 = 7 then 1 + n.f2 * ((ua n.f4 + ub n.f4 : Nat) : Int) else nwords n.f1 n.f2
/-- What a valid list is. -/
theorem vtop_list {n : Nd} (h : vtop n = true) (h0 : n.f0 ≠ 0) (h1 : n.f0 ≠ 1) : n.f0 = 2 ∧ 0 ≤ n.f2 ∧ n.f2 ≤ 536870911 ∧ 0 ≤ n.f1 ∧ n.f1 ≤ 7 ∧ (6 ≤ n.f1 → n.f3 = [] ∧ (n.f4.length : Int) = n.f2) ∧ (n.f1 < 6 → n.f4 = [] ∧ (n.f3.length : Int) = nbytes n.f1 n.f2 ∧ trimB n.f1 n.f2 n.f3 = n.f3) := by
  unfold vtop at h
  rw [if_neg h0, if_neg h1] at h
  by_cases h2 : n.f0 = 2
  case neg => rw [if_neg h2] at h; cases h
  rw [if_pos h2] at h
  by_cases c : n.f2 < 0 ∨ n.f2 > 536870911 ∨ n.f1 < 0 ∨ n.f1 > 7
  · rw [if_pos c] at h; cases h
  rw [if_neg c] at h
  refine ⟨h2, by omega, by omega, by omega, by omega, fun h6 => ?_, fun h6 => ?_⟩
  · rw [if_pos h6] at h
    exact decide_eq_true_iff.1 h
  · rw [if_neg (by omega)] at h
    exact decide_eq_true_iff.1 h
theorem vld_top {n : Nd} (h : vld n = true) : vtop n = true := by
  rw [vld_eq, Bool.and_eq_true] at h
  exact h.2
theorem vtop_null {n : Nd} (h : vtop n = true) (h0 : n.f0 = 0) : n = ⟨0, 0, 0, [], []⟩ := by
  unfold vtop at h
  rw [if_pos h0] at h
  obtain ⟨a, b, c, d, e⟩ := n
  simp only [decide_eq_true_eq] at h h0
  obtain ⟨rfl, rfl, rfl, rfl⟩ := h
  subst h0
  rfl
theorem vtop_struct {n : Nd} (h : vtop n = true) (h1 : n.f0 = 1) : n.f1 = 0 ∧ n.f2 = 0 ∧ n.f3.length % 8 = 0 ∧ n.f3.length ≤ 524280 ∧ n.f4.length ≤ 65535 := by
  unfold vtop at h
  rw [if_neg (by omega), if_pos h1] at h
  exact decide_eq_true_iff.1 h
theorem uni_mul {n : Nd} (hb : Big n) (h2 : (n.f4.length : Int) = n.f2) : 0 ≤ n.f2 * ((ua n.f4 + ub n.f4 : Nat) : Int) ∧ n.f2 * ((ua n.f4 + ub n.f4 : Nat) : Int) ≤ 2199023255552 := by
  have hk := hb.kids
  have hu := hb.uni
  rw [← h2]
  have h : n.f4.length * (ua n.f4 + ub n.f4) ≤ 1048576 * 2097152 := Nat.mul_le_mul hk (by omega)
  constructor
  · exact Int.mul_nonneg (by omega) (by omega)
  · rw [← Int.natCast_mul]
    exact Int.ofNat_le.2 (Nat.le_trans h (by decide))
theorem obj_range {n : Nd} (hb : Big n) (hv : vtop n = true) : 0 ≤ obj n ∧ obj n ≤ 2199023255553 := by
  have hk := hb.kids
  have hd := hb.data
  unfold obj
  by_cases h0 : n.f0 = 0
  · rw [if_pos h0]; omega
  rw [if_neg h0]
  by_cases h1 : n.f0 = 1
  · rw [if_pos h1]; omega
  rw [if_neg h1]
  obtain ⟨_, g1, g2, g3, g4, g5, g6⟩ := vtop_list hv h0 h1
  by_cases h7 : n.f1 = 7
  · rw [if_pos h7]
    have := uni_mul hb (g5 (by omega)).2
    omega
  · rw [if_neg h7]
    have := nwords_range (e := n.f1) (n := n.f2) (by omega)
    omega
theorem bitsOf_eq {e : Int} (h : 0 ≤ e) (h7 : e ≤ 7) : bitsOf e.toNat = ebits e := by
  obtain ⟨i, rfl⟩ := Int.eq_ofNat_of_zero_le h
  rw [Int.toNat_natCast]
  have : i = 0 ∨ i = 1 ∨ i = 2 ∨ i = 3 ∨ i = 4 ∨ i = 5 ∨ i = 6 ∨ i = 7 := by omega
  rcases this with rfl | rfl | rfl | rfl | rfl | rfl | rfl | rfl <;> decide
theorem Words_eq {e n : Int} (h : 0 ≤ n ∧ n ≤ 536870911) (he : 0 ≤ e ∧ e ≤ 7) : listsize_Words.f e n = some (nwords e n) := by
  have := mul_range (e := e) h
  unfold listsize_Words.f nwords
  split
  · rw [w64 (by omega)]
  rw [if_pos (by omega), bitsOf_eq he.1 he.2]
  unfold listsize_up.f
  generalize ebits e * n = m at this ⊢
  rw [if_neg (by omega), w64 (x := m) (by omega), w64 (x := m + 64) (by omega), w64 (x := m + 64 - 1) (by omega), Int.tdiv_eq_ediv_of_nonneg (by omega), w64 (by omega)]
  congr 1
  omega
theorem Object_has {n : Nd} (hb : Big n) (hv : vtop n = true) : Has (fun k => canonsize_Object.f k n.f0 n.f1 n.f2 n.f3 n.f4) (obj n) := by
  have hk := hb.kids
  have hd := hb.data
  have hu := hb.uni
  unfold obj
  simp only [canonsize_Object.f]
  by_cases h0 : n.f0 = 0
  · exact Has.pos h0 ((Has.some_ _).eq (by rw [if_pos h0]))
  refine Has.neg h0 ?_
  rw [if_neg h0]
  by_cases h1 : n.f0 = 1
  · refine Has.pos h1 ((Has.some_ _).eq ?_)
    rw [if_pos h1, w64 (x := (n.f3.length : Int) / 8) (by omega), w64 (by omega)]
    push_cast
    rfl
  refine Has.neg h1 ?_
  rw [if_neg h1]
  obtain ⟨_, g1, g2, g3, g4, g5, g6⟩ := vtop_list hv h0 h1
  by_cases h7 : n.f1 = 7
  · refine Has.pos h7 (Has.bind (Uniform_has n hb) ((Has.some_ _).eq ?_))
    have := uni_mul hb (g5 (by omega)).2
    rw [if_pos h7, w64 (x := (ua n.f4 : Int) + (ub n.f4 : Int)) (by omega), ← Int.natCast_add, w64 (x := n.f2 * _) (by omega), w64 (by omega)]
  · refine Has.neg h7 ?_
    rw [Words_eq (by omega) (by omega), if_neg h7]
    exact Has.some_ _
theorem rObject_has {n : Nd} (hb : Big n) (hv : vtop n = true) : Has (fun k => capnpref13_Object.f k n.f0 n.f1 n.f2 n.f3 n.f4) (obj n) := by
  have hk := hb.kids
  have hd := hb.data
  have hu := hb.uni
  unfold obj
  simp only [capnpref13_Object.f]
  by_cases h0 : n.f0 = 0
  · exact Has.pos h0 ((Has.some_ _).eq (by rw [if_pos h0]))
  refine Has.neg h0 ?_
  rw [if_neg h0]
  by_cases h1 : n.f0 = 1
  · refine Has.pos h1 ((Has.some_ _).eq ?_)
    rw [if_pos h1, w64 (x := (n.f3.length : Int) / 8) (by omega), w64 (by omega)]
    push_cast
    rfl
  refine Has.neg h1 ?_
  rw [if_neg h1]
  obtain ⟨_, g1, g2, g3, g4, g5, g6⟩ := vtop_list hv h0 h1
  by_cases h7 : n.f1 = 7
  · refine Has.pos h7 (Has.bind (rUniform_has n hb) ((Has.some_ _).eq ?_))
    have := uni_mul hb (g5 (by omega)).2
    rw [if_pos h7, w64 (x := (ua n.f4 : Int) + (ub n.f4 : Int)) (by omega), ← Int.natCast_add, w64 (x := n.f2 * _) (by omega), w64 (by omega)]
  · refine Has.neg h7 ?_
    rw [rWords_eq (by omega), if_neg h7]
    exact Has.some_ _
mutual
/-- The words of a node, all objects that it leads to among them. -/
def nsz : Nd → Int
  | ⟨a, b, c, d, ks⟩ => obj ⟨a, b, c, d, ks⟩ + if b = 7 then nszg ks else nszs ks
def nszs : List Nd → Int
  | [] => 0
  | x :: xs => nsz x + nszs xs
def nszg : List Nd → Int
  | [] => 0
  | ⟨_, _, _, _, ks⟩ :: xs => nszs ks + nszg xs
end
theorem nsz_eq (n : Nd) : nsz n = obj n + if n.f1 = 7 then nszg n.f4 else nszs n.f4 := by cases n; rw [nsz]
theorem nszs_cons (x : Nd) (l : List Nd) : nszs (x :: l) = nsz x + nszs l := by rw [nszs]
theorem nszg_cons (x : Nd) (l : List Nd) : nszg (x :: l) = nszs x.f4 + nszg l := by cases x; rw [nszg]
theorem nszs_append (l m : List Nd) : nszs (l ++ m) = nszs l + nszs m := by
  induction l with
  | nil => rw [List.nil_append, nszs, Int.zero_add]
  | cons x l ih => rw [List.cons_append, nszs_cons, nszs_cons, ih]; omega
/-- The kids' kids. -/
def gk : List Nd → List Nd
  | [] => []
  | x :: xs => x.f4 ++ gk xs
theorem gk_cons (x : Nd) (l : List Nd) : gk (x :: l) = x.f4 ++ gk l := rfl
theorem gk_mem {l : List Nd} {x : Nd} (h : x ∈ gk l) : ∃ y, y ∈ l ∧ x ∈ y.f4 := by
  induction l with
  | nil => cases h
  | cons y l ih =>
    rw [gk_cons] at h
    rcases List.mem_append.1 h with h | h
    · exact ⟨y, List.mem_cons_self, h⟩
    · obtain ⟨z, hz, hx⟩ := ih h
      exact ⟨z, List.mem_cons_of_mem _ hz, hx⟩
theorem nszg_eq (l : List Nd) : nszg l = nszs (gk l) := by
  induction l with
  | nil => rfl
  | cons x l ih => rw [nszg_cons, gk_cons, nszs_append, ih]
theorem tszs_append (l m : List Nd) : tszs (l ++ m) = tszs l + tszs m := by
  induction l with
  | nil => rw [List.nil_append, tszs, Nat.zero_add]
  | cons x l ih => rw [List.cons_append, tszs_cons, tszs_cons, ih]; omega
theorem tszs_flat (l : List Nd) : tszs (gk l) ≤ tszs l := by
  induction l with
  | nil => exact Nat.le_refl _
  | cons x l ih => rw [gk_cons, tszs_append, tszs_cons, tsz_eq]; omega
/-- The nodes that a node's pointers lead to. -/
def tgt (n : Nd) : List Nd := if n.f0 = 2 ∧ n.f1 = 7 then gk n.f4 else n.f4
theorem tszs_tgt (n : Nd) : tszs (tgt n) < tsz n := by
  unfold tgt
  rw [tsz_eq]
  split
  · have := tszs_flat n.f4; omega
  · omega
theorem vtop_f1 {n : Nd} (hv : vtop n = true) : n.f1 = 7 → n.f0 = 2 := by
  intro h7
  by_cases h0 : n.f0 = 0
  · have := vtop_null hv h0; rw [this] at h7; simp at h7
  by_cases h1 : n.f0 = 1
  · have := (vtop_struct hv h1).1; omega
  exact (vtop_list hv h0 h1).1
theorem nsz_tgt {n : Nd} (hv : vtop n = true) : nsz n = obj n + nszs (tgt n) := by
  rw [nsz_eq]
  unfold tgt
  by_cases h7 : n.f1 = 7
  · rw [if_pos h7, if_pos ⟨vtop_f1 hv h7, h7⟩, nszg_eq]
  · rw [if_neg h7, if_neg (fun h => h7 h.2)]
theorem vld_kid {n x : Nd} (hv : vld n = true) (hx : x ∈ n.f4) : vld x = true := by
  rw [vld_eq, Bool.and_eq_true] at hv
  exact (vlds_mem hv.1 hx).1
theorem vld_elem {n x : Nd} (hv : vld n = true) (h7 : n.f1 = 7) (hx : x ∈ n.f4) : x.f0 = 1 := by
  have h2 := vtop_f1 (vld_top hv) h7
  rw [vld_eq, Bool.and_eq_true] at hv
  exact (vlds_mem hv.1 hx).2 (by simp [h2, h7])
theorem tgt_mem {n x : Nd} (hv : vld n = true) (hx : x ∈ tgt n) : vld x = true ∧ tsz x < tsz n := by
  unfold tgt at hx
  split at hx
  · obtain ⟨y, hy, hx⟩ := gk_mem hx
    have := tsz_kid hy
    have := tsz_kid hx
    exact ⟨vld_kid (vld_kid hv hy) hx, by omega⟩
  · exact ⟨vld_kid hv hx, tsz_kid hx⟩
theorem nszs_range {l : List Nd} (h : ∀ x ∈ l, 0 ≤ nsz x ∧ nsz x ≤ 4398046511104 * (tsz x : Int)) : 0 ≤ nszs l ∧ nszs l ≤ 4398046511104 * (tszs l : Int) := by
  induction l with
  | nil => rw [nszs, tszs]; omega
  | cons x l ih =>
    rw [nszs_cons, tszs_cons]
    have h1 := h x List.mem_cons_self
    have h2 := ih fun y hy => h y (List.mem_cons_of_mem _ hy)
    push_cast
    omega
theorem nsz_range (n : Nd) : Big n → vld n = true → 0 ≤ nsz n ∧ nsz n ≤ 4398046511104 * (tsz n : Int) := by
  induction n using Nd.strong with
  | _ n ih =>
  intro hb hv
  rw [nsz_tgt (vld_top hv)]
  have h1 := obj_range hb (vld_top hv)
  have h2 := tszs_tgt n
  have h3 := nszs_range (l := tgt n) fun x hx => by
    have := tgt_mem hv hx
    exact ih x this.2 (by unfold Big at *; omega) this.1
  omega
theorem nsz_small {n : Nd} (hb : Big n) (hv : vld n = true) : 0 ≤ nsz n ∧ nsz n ≤ 4611686018427387904 := by
  have := nsz_range n hb hv
  unfold Big at hb
  omega
theorem visits_has {g : Nat → Nd → Int → Option Int} {l : List Nd} (M : Int) (hM : M ≤ 9223372036854775807) (h : ∀ x ∈ l, 0 ≤ nsz x ∧ ∀ s, 0 ≤ s → s + nsz x ≤ M → Has (fun k => g k x s) (s + nsz x)) :
    ∀ s, 0 ≤ s → s + nszs l ≤ M → Has (fun k => visits (g k) l s) (s + nszs l) := by
  induction l with
  | nil => intro s _ _; simp only [visits_nil]; exact (Has.some_ _).eq (by rw [nszs]; omega)
  | cons x l ih =>
    intro s hs hl
    rw [nszs_cons] at hl ⊢
    simp only [visits_cons]
    have h1 := h x List.mem_cons_self
    have hpos : 0 ≤ nszs l := by
      clear ih hl
      induction l with
      | nil => exact Int.le_refl _
      | cons y l ih2 => rw [nszs_cons]; have := (h y (by simp)).1; have := ih2 (fun z hz => h z (by rcases List.mem_cons.1 hz with rfl | hz <;> simp [*])); omega
    refine Has.bind (h1.2 s hs (by omega)) ?_
    exact (ih (fun y hy => h y (List.mem_cons_of_mem _ hy)) (s + nsz x) (by omega) (by omega)).eq (by omega)
theorem visitg_has {g : Nat → Nd → Int → Option Int} {l : List Nd} (M : Int) (hM : M ≤ 9223372036854775807) (h : ∀ y ∈ l, ∀ x ∈ y.f4, 0 ≤ nsz x ∧ ∀ s, 0 ≤ s → s + nsz x ≤ M → Has (fun k => g k x s) (s + nsz x)) (hp : ∀ y ∈ l, 0 ≤ nszs y.f4) :
    ∀ s, 0 ≤ s → s + nszg l ≤ M → Has (fun k => visits (fun x => visits (g k) x.f4) l s) (s + nszg l) := by
  induction l with
  | nil => intro s _ _; simp only [visits_nil]; exact (Has.some_ _).eq (by rw [nszg]; omega)
  | cons x l ih =>
    intro s hs hl
    rw [nszg_cons] at hl ⊢
    simp only [visits_cons]
    have hpos : 0 ≤ nszg l := by
      clear ih hl h
      induction l with
      | nil => exact Int.le_refl _
      | cons y l ih2 => rw [nszg_cons]; have := hp y (by simp); have := ih2 (fun z hz => hp z (by rcases List.mem_cons.1 hz with rfl | hz <;> simp [*])); omega
    refine Has.bind (visits_has M hM (h x List.mem_cons_self) s hs (by omega)) ?_
    exact (ih (fun y hy => h y (List.mem_cons_of_mem _ hy)) (fun y hy => hp y (List.mem_cons_of_mem _ hy)) (s + nszs x.f4) (by have := hp x List.mem_cons_self; omega) (by omega)).eq (by omega)
theorem visit_has (n : Nd) : Big n → vld n = true → ∀ s, 0 ≤ s → s + nsz n ≤ 9223372036854775807 → Has (fun k => canonsize_visit.f k n s) (s + nsz n) := by
  induction n using Nd.strong with
  | _ n ih =>
  intro hb hv s hs hl
  have ht := vld_top hv
  have ho := obj_range hb ht
  have big : ∀ x ∈ n.f4, Big x := fun x hx => hb.mem hx
  rw [nsz_eq] at hl ⊢
  refine Has.step (fun k => by rw [canonsize_visit.f]) (Has.bind (Object_has hb ht) ?_)
  by_cases h7 : n.f1 = 7
  · simp only [if_pos h7]
    rw [if_pos h7] at hl
    have hp : ∀ y ∈ n.f4, 0 ≤ nszs y.f4 := fun y hy => (nszs_range fun x hx => nsz_range x ((big y hy).mem hx) (vld_kid (vld_kid hv hy) hx)).1
    have hg : 0 ≤ nszg n.f4 := by
      rw [nszg_eq]
      refine (nszs_range fun x hx => ?_).1
      obtain ⟨y, hy, hx⟩ := gk_mem hx
      exact nsz_range x ((big y hy).mem hx) (vld_kid (vld_kid hv hy) hx)
    rw [w64 (by omega), ← Int.add_assoc]
    refine visitg_has (g := canonsize_visit.f) 9223372036854775807 (by omega) (fun y hy x hx => ?_) hp _ (by omega) (by omega)
    have hbx := (big y hy).mem hx
    have hvx := vld_kid (vld_kid hv hy) hx
    have := tsz_kid hy
    have := tsz_kid hx
    exact ⟨(nsz_range x hbx hvx).1, ih x (by omega) hbx hvx⟩
  · simp only [if_neg h7]
    rw [if_neg h7] at hl
    have hg : 0 ≤ nszs n.f4 := (nszs_range fun x hx => nsz_range x (big x hx) (vld_kid hv hx)).1
    rw [w64 (by omega), ← Int.add_assoc]
    refine visits_has (g := canonsize_visit.f) 9223372036854775807 (by omega) (fun x hx => ?_) _ (by omega) (by omega)
    exact ⟨(nsz_range x (big x hx) (vld_kid hv hx)).1, ih x (tsz_kid hx) (big x hx) (vld_kid hv hx)⟩
theorem Node_has {n : Nd} (hb : Big n) (hv : vld n = true) : Has (fun k => canonsize_Node.f k n.f0 n.f1 n.f2 n.f3 n.f4) (nsz n) := by
  have := nsz_small hb hv
  simp only [canonsize_Node.f]
  have h := (visit_has n hb hv 0 (by omega) (by omega)).eq (Int.zero_add _)
  cases n
  exact h
theorem Total_has {n : Nd} (hb : Big n) (hv : vld n = true) : Has (fun k => canonsize_Total.f k n.f0 n.f1 n.f2 n.f3 n.f4) (nsz n + 1) := by
  have := nsz_small hb hv
  simp only [canonsize_Total.f]
  refine Has.bind (Node_has hb hv) ?_
  rw [w64 (x := nsz n + 1) (by omega)]
  exact Has.some_ _
theorem Targets_has {n : Nd} (hb : Big n) : Has (fun k => capnpref10_Targets.f k n.f0 n.f1 n.f2 n.f3 n.f4) (tgt n) := by
  have hk := hb.kids
  have hf : (gk n.f4).length ≤ 1048576 := by
    have h1 := len_tszs (gk n.f4)
    have h2 := tszs_flat n.f4
    unfold Big at hb
    rw [tsz_eq] at hb
    omega
  have key : ∀ (d i : Nat) (s : List Nd), i + d = n.f4.length → s.length + (gk (n.f4.drop i)).length ≤ 1048576 → Has (fun k => capnpref10_Targets.l0 k s (i : Int) n.f0 n.f1 n.f2 n.f3 n.f4) (s ++ gk (n.f4.drop i)) := by
    intro d
    induction d with
    | zero =>
      intro i s hi _
      obtain rfl : i = n.f4.length := by omega
      refine Has.step (fun k => by rw [capnpref10_Targets.l0]) (Has.neg (by omega) ?_)
      rw [List.drop_length, gk, List.append_nil]
      exact Has.some_ _
    | succ d ih =>
      intro i s hi hs
      have hlt : i < n.f4.length := by omega
      rw [List.drop_eq_getElem_cons hlt, gk_cons, List.length_append] at hs
      rw [List.drop_eq_getElem_cons hlt, gk_cons]
      refine Has.step (fun k => by rw [capnpref10_Targets.l0]) (Has.pos (by omega) (Has.pos (by omega) ?_))
      simp only [rd_T25_at hlt]
      rw [w64s i (by omega)]
      refine Has.pos (by omega) ?_
      rw [← List.append_assoc]
      exact ih (i + 1) _ (by omega) (by rw [List.length_append]; omega)
  have yes : ∀ b, b = true → Has (fun k => capnpref10_Targets.j0 k b n.f0 n.f1 n.f2 n.f3 n.f4) n.f4 := fun b e => by
    subst e
    refine Has.step (fun k => by rw [capnpref10_Targets.j0]) ?_
    exact Has.pos rfl (Has.some_ _)
  simp only [capnpref10_Targets.f]
  unfold tgt
  by_cases h2 : n.f0 = 2
  · refine Has.pos h2 ?_
    by_cases h7 : n.f1 = 7
    · rw [if_pos ⟨h2, h7⟩, show (n.f1 != 7) = false by simp [h7]]
      refine Has.step (fun k => by rw [capnpref10_Targets.j0]) (Has.neg (by simp) ?_)
      exact (key n.f4.length 0 [] (by omega) (by rw [List.drop_zero]; simpa using hf)).eq (by rw [List.drop_zero, List.nil_append])
    · rw [if_neg (fun h => h7 h.2)]
      exact yes _ (by simp [h7])
  · refine Has.neg h2 ?_
    rw [if_neg (fun h => h2 h.1)]
    exact yes _ rfl
theorem rNode_has (n : Nd) : Big n → vld n = true → Has (fun k => capnpref13_Node.f k n.f0 n.f1 n.f2 n.f3 n.f4) (nsz n) := by
  induction n using Nd.strong with
  | _ n ih =>
  intro hb hv
  have hs := nsz_small hb hv
  have ho := obj_range hb (vld_top hv)
  have ht : (tgt n).length ≤ 1048576 := by have := len_tszs (tgt n); have := tszs_tgt n; unfold Big at hb; omega
  have bg : ∀ x ∈ tgt n, Big x ∧ vld x = true ∧ tsz x < tsz n := fun x hx => by have := tgt_mem hv hx; exact ⟨by unfold Big at *; omega, this⟩
  have key : ∀ (d i : Nat) (s : Int), i + d = (tgt n).length → 0 ≤ s → s + nszs ((tgt n).drop i) ≤ 9223372036854775807 → Has (fun k => capnpref13_Node.l0 k s (tgt n) (i : Int)) (s + nszs ((tgt n).drop i)) := by
    intro d
    induction d with
    | zero =>
      intro i s hi _ _
      obtain rfl : i = (tgt n).length := by omega
      refine Has.step (fun k => by rw [capnpref13_Node.l0]) (Has.neg (by omega) ?_)
      rw [List.drop_length, nszs, Int.add_zero]
      exact Has.some_ _
    | succ d ihd =>
      intro i s hi h0 hl
      have hlt : i < (tgt n).length := by omega
      have hm := List.getElem_mem hlt
      obtain ⟨b1, b2, b3⟩ := bg _ hm
      have hx := nsz_range _ b1 b2
      have hr := (nszs_range (l := (tgt n).drop (i + 1)) fun x hx => by have := bg x (List.mem_of_mem_drop hx); exact nsz_range x this.1 this.2.1).1
      rw [List.drop_eq_getElem_cons hlt, nszs_cons] at hl ⊢
      refine Has.step (fun k => by rw [capnpref13_Node.l0]) (Has.pos (by omega) (Has.pos (by omega) ?_))
      simp only [rd_T25_at hlt]
      refine Has.bind (ih _ b3 b1 b2) ?_
      rw [w64s i (by omega), w64 (x := s + nsz (tgt n)[i]) (by omega)]
      exact (ihd (i + 1) _ (by omega) (by omega) (by omega)).eq (by omega)
  rw [nsz_tgt (vld_top hv)] at hs ⊢
  refine Has.step (fun k => by rw [capnpref13_Node.f]) (Has.bind (rObject_has hb (vld_top hv)) (Has.bind (Targets_has hb) ?_))
  exact (key (tgt n).length 0 (obj n) (by omega) ho.1 (by rw [List.drop_zero]; omega)).eq (by rw [List.drop_zero])
end Go.Proofs.YtkiompgbmjoflaaDoor.P

set_option linter.unusedVariables false
namespace Go.Proofs.YtkiompgbmjoflaaDoor.P
open Go.RowKit Go.Proofs.YtkiompgbmjoflaaDoorW.PrintWords Go.Proofs.YtkiompgbmjoflaaDoorW.PrintLast Go.Proofs.YtkiompgbmjoflaaDoorW.PrintMore
section
variable {α : Type} {d : Kd α} {W : World} {A : Option Addr} {n : Nat} {xs : List α}
theorem C_nil (d : Kd α) (W : World) (A : Option Addr) : d.C W A 0 [] := ⟨rfl, by decide, fun h => absurd h (by decide)⟩
theorem C_alloc (h : d.C W A n xs) (o : Obj) : d.C (W.alloc o) A n xs := Kd.C_below h (below_alloc (Below.refl _ _) o)
theorem C_drew (h : d.C W A n xs) : d.C W.drew A n xs := Kd.C_below h (below_drew (Below.refl _ _))
theorem C_drewN (h : d.C W A n xs) (m : Nat) : d.C (W.drewN m) A n xs := Kd.C_below h (pw_below_drewN (Below.refl _ _) m)
/-- A block that holds the list's cells reads as the list. -/
theorem C_blk {g : Nat} {cells : Array Value} {t : TypeId} (hb : W.heap[g]? = some (.cells cells t (0, 0))) (hr : Reps (d.K W) d.sz xs cells.toList) (hn : xs.length = n) (hl : n ≤ 9223372036854775807) : d.C W (some ⟨g, 0, none⟩) n xs := by
  subst hn
  refine ⟨rfl, hl, fun _ => ⟨_, rfl, fun j p hj => ?_⟩⟩
  have hjl : j < xs.length := (List.getElem?_eq_some_iff.1 hj).1
  have hle : (j + 1) * d.sz ≤ xs.length * d.sz := Nat.mul_le_mul_right _ (by omega)
  rw [Nat.add_mul, Nat.one_mul] at hle
  refine ⟨(cells.toList.drop (j * d.sz)).take d.sz, by rw [List.length_take, List.length_drop, hr.1]; omega, hr.2 j p hj, fun i u hu => ?_⟩
  rw [List.getElem?_take] at hu
  split at hu
  · rw [List.getElem?_drop, Array.getElem?_toList] at hu
    rw [add_plain, World.cell?, hb]
    simpa using hu
  · cases hu
theorem reps_nums (k : IntKind) : ∀ l : List Int, Reps ((Kd.int k).K W) 1 l (l.map fun x => .int k x)
  | [] => Reps.none _ _
  | x :: l => Reps.one rfl (reps_nums k l)
theorem C_ints {k : IntKind} {g : Nat} {t : TypeId} {l : List Int} {cells : Array Value} (hb : W.heap[g]? = some (.cells cells t (0, 0))) (hc : cells.toList = l.map fun x => .int k x) (hn : l.length = n) (hl : n ≤ 9223372036854775807) : (Kd.int k).C W (some ⟨g, 0, none⟩) n l :=
  C_blk hb (by rw [hc]; exact reps_nums k l) hn hl
end
end Go.Proofs.YtkiompgbmjoflaaDoor.P
