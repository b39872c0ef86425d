/- The texts of this session that come first, joined by wip/merge.py. -/
import Derived.Test.YtcjhejopcghgnaaDoorBR81
import Derived.Test.YtcjhejopcghgnaaDoorWRepsOne
import Derived.Deep.RegionHeld3
import Derived.Laws.EntriesVeiled
import Derived.Test.YtcjhejopcghgnaaDoorWMore
namespace Go.Proofs.YtcjhejopcghgnaaDoor.P
open Go.RowKit Go.Proofs.YtcjhejopcghgnaaDoorW.PrintWords Go.Proofs.YtcjhejopcghgnaaDoorW.PrintLast Go.Proofs.YtcjhejopcghgnaaDoorW.PrintMore
attribute [local go_sem] max2_int min2_int max_two min_two max_three min_three max_four min_four   -- for this text's walks alone
set_option linter.unusedVariables false
set_option linter.unusedSimpArgs false

variable {gb : Bool}
/-! ### resolve_list: function 43 -/
def resolve_list.f (k : Nat) (l0 : List (List Int)) (a1_0 a1_1 a1_2 a1_3 a1_4 a1_5 : Int) (a1_6 : Bool) (a1_7 a1_8 a1_9 a2 a3 : Int) : Option (Int × Int × Int × Int × Int × Int × Int × Int × Int) := if a1_4 = 7 then ((resolve_composite.f k l0 a1_0 a1_1 a1_2 a1_3 a1_4 a1_5 a1_6 a1_7 a1_8 a1_9 a2 a3).bind fun bt369 => (some (bt369.1, bt369.2.1, bt369.2.2.1, bt369.2.2.2.1, bt369.2.2.2.2.1, bt369.2.2.2.2.2.1, bt369.2.2.2.2.2.2.1, bt369.2.2.2.2.2.2.2.1, bt369.2.2.2.2.2.2.2.2))) else ((listsize_Words.f a1_4 a1_5).bind fun t378 => ((resolve_within.f l0 2 a2 a3 0 0 a1_4 a1_5 t378 a3 t378).bind fun bt380 => (some (bt380.1, bt380.2.1, bt380.2.2.1, bt380.2.2.2.1, bt380.2.2.2.2.1, bt380.2.2.2.2.2.1, bt380.2.2.2.2.2.2.1, bt380.2.2.2.2.2.2.2.1, bt380.2.2.2.2.2.2.2.2))))
theorem resolve_list.mono : ∀ a0 a1 a2 a3 a4 a5 a6 a7 a8 a9 a10 a11 a12 k, LeO (resolve_list.f k a0 a1 a2 a3 a4 a5 a6 a7 a8 a9 a10 a11 a12) (resolve_list.f (k + 1) a0 a1 a2 a3 a4 a5 a6 a7 a8 a9 a10 a11 a12) := by
  intro a0 a1 a2 a3 a4 a5 a6 a7 a8 a9 a10 a11 a12 k
  unfold resolve_list.f
  repeat' first
      | (with_reducible apply resolve_composite.mono)
      | (with_reducible exact LeO.refl _)
      | (with_reducible refine LeO.ite ?_ ?_)
      | (with_reducible refine LeO.bind ?_ (fun _ => ?_))
def resolve_list.T3 : Bool × List (List Nat × List Nat) := (true, [([], []), ([], []), ([], []), ([2], [2]), ([], []), ([4], [4]), ([], []), ([6], [6]), ([], []), ([8], [8]), ([7, 9], [7, 9]), ([0, 1, 3, 5, 10], [0, 1, 3, 5, 10]), ([], []), ([12, 11, 10, 0, 1, 2, 3, 4, 5, 6, 7, 8, 9, 10, 11, 12], [11, 12])])
def resolve_list.B3 : List Nat := [0, 0, 0, 4, 0, 16, 0, 64, 0, 256, 960, 2047, 0, 8191]
theorem resolve_list.tab3 : rtab .any (opsOf Tryd.f43 3) = resolve_list.T3 := by kernel_rfl
theorem resolve_list.bits3 : waitsOk resolve_list.T3.2 resolve_list.B3 = true := by kernel_rfl
set_option maxHeartbeats 8000000 in
set_option maxRecDepth 100000 in
theorem resolve_list.calls (k : Nat) (A0 : Option Addr) (c0 : Nat) (l0 : List (List Int)) (a1_0 a1_1 a1_2 a1_3 a1_4 a1_5 : Int) (a1_6 : Bool) (a1_7 a1_8 a1_9 a2 a3 r1 r2 r3 r4 r5 r6 r7 r8 r9 : Int) (w : World) (hG : Glob true w) (hr0 : Kd.C (Kd.slice 23 (Kd.int .u64)) w A0 l0.length l0) (hc0 : l0.length ≤ c0) (h : resolve_list.f k l0 a1_0 a1_1 a1_2 a1_3 a1_4 a1_5 a1_6 a1_7 a1_8 a1_9 a2 a3 = some (r1, r2, r3, r4, r5, r6, r7, r8, r9)) :
    Calls Tryd.prog 43 #[.slice A0 l0.length c0, .agg #[.int .i64 a1_0, .int .i64 a1_1, .int .i64 a1_2, .int .i64 a1_3, .int .i64 a1_4, .int .i64 a1_5, .bool a1_6, .int .i64 a1_7, .int .u32 a1_8, .int .u32 a1_9], .int .i64 a2, .int .i64 a3] w fun e w' => e = .returned (.tuple #[.agg #[.int .i64 r1, .int .i64 r2, .int .i64 r3, .int .i64 r4, .int .i64 r5, .int .i64 r6, .int .i64 r7, .int .i64 r8], .int .i64 r9]) ∧ Below w.heap.size w w' := by
  have HG := Aside0.mk hG
  clear hG
  have HR0 := Aside0.mk hr0
  have HC0 := Aside0.mk hc0
  clear hr0 hc0
  have HB := Aside0.mk (Below.refl w.heap.size w)
  have H := h
  unfold resolve_list.f at H
  clear h
  by_cases c5 : a1_4 = 7
  · rw [if_pos c5] at H
    have c5b0 : (a1_4 == 7) = true := beq_iff_eq.mpr c5
    clear c5
    replace H := Option.bind_eq_some_iff.mp H
    obtain ⟨⟨t369, t370, t371, t372, t373, t374, t375, t376, t377⟩, A60, H⟩ := H
    replace H : (some (t369, t370, t371, t372, t373, t374, t375, t376, t377)) = some (r1, r2, r3, r4, r5, r6, r7, r8, r9) := H
    have A6 := Aside0.mk A60
    clear A60
    simp only [Option.some.injEq, Prod.mk.injEq] at H
    obtain ⟨rfl, rfl, rfl, rfl, rfl, rfl, rfl, rfl, rfl⟩ := H
    go_enter Tryd.func43, Tryd.ntmps43
    go_wp2_with (first | ((with_reducible refine gate_dst (N := 5) rfl ?_); refine box_event ?hg (N := 5) ?hd (cs := #[.int .i64 a1_0, .int .i64 a1_1, .int .i64 a1_2, .int .i64 a1_3, .int .i64 a1_4, .int .i64 a1_5, .bool a1_6, .int .i64 a1_7, .int .u32 a1_8, .int .u32 a1_9]) (t := 39) ?hr ?_; (case hd => rfl); (case hg => rfl); (case hr => (go_simp; done)); intro gb367 hg w7 hbox hb; replace HB := Aside0.mk (below_step HB.out hb); replace BK367 := Aside0.mk (hbox); clear hb hbox hg) | ((with_reducible refine gate_dst (N := 8) rfl ?_); refine box_event ?hg (N := 8) ?hd (cs := #[.int .i64 0, .int .i64 0, .int .i64 0, .int .i64 0, .int .i64 0, .int .i64 0, .int .i64 0, .int .i64 0]) (t := 46) ?hr ?_; (case hd => rfl); (case hg => rfl); (case hr => (go_simp; done)); intro gb368 hg w8 hbox hb; replace BK367 := Aside0.mk (blk_below BK367.out hb); replace BK368 := Aside0.mk (hbox); replace GE368 := Aside0.mk (ge_of HB.out hg); replace HB := Aside0.mk (below_step HB.out hb); clear hb hbox hg; obtain ⟨hcz10_0, hcz10_1, hcz10_2, hcz10_3, hcz10_4, hcz10_5, hcz10_6, hcz10_7, hcz10_8, hcz10_9⟩ := cells10 BK367.out) | ((with_reducible refine gate_callee (f := 52) rfl ?_); refine goesL_ (some 18) rfl rfl Tryd.func52 (by kernel_rfl) rfl #[.slice A0 l0.length c0, .agg #[.int .i64 a1_0, .int .i64 a1_1, .int .i64 a1_2, .int .i64 a1_3, .int .i64 a1_4, .int .i64 a1_5, .bool a1_6, .int .i64 a1_7, .int .u32 a1_8, .int .u32 a1_9], .int .i64 a2, .int .i64 a3] rfl (by (try simp only [List.map_toArray, List.map_cons, List.map_nil]); rfl) ?_; (with_reducible refine (resolve_composite.calls (gb := true) k _ _ l0 a1_0 a1_1 a1_2 a1_3 a1_4 a1_5 a1_6 a1_7 a1_8 a1_9 a2 a3 t369 t370 t371 t372 t373 t374 t375 t376 t377 _ ?side1 ?side2 ?side3 A6.out).mono ?_); (case side1 => exact Glob.below HG.out HB.out); (case side2 => repeat ((exact (Kd.C_below HR0.out HB.out)))); (case side3 => exact HC0.out); rintro e w11 ⟨rfl, hb⟩; refine ⟨_, rfl, ?_⟩; replace BK368 := Aside0.mk (blk_below BK368.out hb); replace HB := Aside0.mk (below_step HB.out hb); (try clear BK367); (try clear hb); obtain ⟨hcz12_0, hcz12_1, hcz12_2, hcz12_3, hcz12_4, hcz12_5, hcz12_6, hcz12_7⟩ := cells8 BK368.out; obtain ⟨hfz12_0, hfz12_1, hfz12_2, hfz12_3, hfz12_4, hfz12_5, hfz12_6, hfz12_7⟩ := frz8 BK368.out))
    refine bodyPost_ret (results_ct rfl _ _ gb368 46 #[.int .i64 t369, .int .i64 t370, .int .i64 t371, .int .i64 t372, .int .i64 t373, .int .i64 t374, .int .i64 t375, .int .i64 t376] (0, 0) _ rfl (by exact put8 BK368.out) Tryd.underlying46 rfl (by kernel_rfl)) rfl ?_
    exact ⟨by rfl, by repeat ((with_reducible first | exact HB.out | refine below_set ?_ GE368.out))⟩
  · rw [if_neg c5] at H
    have c5b0 : (a1_4 == 7) = false := beq_eq_false_iff_ne.mpr c5
    replace H := Option.bind_eq_some_iff.mp H
    obtain ⟨t378, A130, H⟩ := H
    have A13 := Aside0.mk A130
    clear A130
    replace H := Option.bind_eq_some_iff.mp H
    obtain ⟨⟨t380, t381, t382, t383, t384, t385, t386, t387, t388⟩, A140, H⟩ := H
    replace H : (some (t380, t381, t382, t383, t384, t385, t386, t387, t388)) = some (r1, r2, r3, r4, r5, r6, r7, r8, r9) := H
    have A14 := Aside0.mk A140
    clear A140
    simp only [Option.some.injEq, Prod.mk.injEq] at H
    obtain ⟨rfl, rfl, rfl, rfl, rfl, rfl, rfl, rfl, rfl⟩ := H
    go_enter Tryd.func43, Tryd.ntmps43
    try go_wp2_with (first | ((with_reducible refine gate_dst (N := 5) rfl ?_); refine box_event ?hg (N := 5) ?hd (cs := #[.int .i64 a1_0, .int .i64 a1_1, .int .i64 a1_2, .int .i64 a1_3, .int .i64 a1_4, .int .i64 a1_5, .bool a1_6, .int .i64 a1_7, .int .u32 a1_8, .int .u32 a1_9]) (t := 39) ?hr ?_; (case hd => rfl); (case hg => rfl); (case hr => (go_simp; done)); intro gb367 hg w15 hbox hb; replace HB := Aside0.mk (below_step HB.out hb); replace BK367 := Aside0.mk (hbox); clear hb hbox hg) | ((with_reducible refine gate_dst (N := 8) rfl ?_); refine box_event ?hg (N := 8) ?hd (cs := #[.int .i64 0, .int .i64 0, .int .i64 0, .int .i64 0, .int .i64 0, .int .i64 0, .int .i64 0, .int .i64 0]) (t := 46) ?hr ?_; (case hd => rfl); (case hg => rfl); (case hr => (go_simp; done)); intro gb368 hg w16 hbox hb; replace BK367 := Aside0.mk (blk_below BK367.out hb); replace BK368 := Aside0.mk (hbox); replace GE368 := Aside0.mk (ge_of HB.out hg); replace HB := Aside0.mk (below_step HB.out hb); clear hb hbox hg; have hcz18_4 : w16.cell? ⟨gb367, 4, none⟩ = some (.int .i64 a1_4) := (blk_cell BK367.out 4).trans rfl))
    have n0_ := Aside0.mk (blk_drew BK367.out)
    have n1_ := Aside0.mk (blk_drew BK368.out)
    have n2_ := Aside0.mk (below_drew1 HB.out)
    (try clear BK367)
    clear BK368
    clear HB
    have BK367 := n0_
    have BK368 := n1_
    have HB := n2_
    (try clear n0_; try clear n1_; try clear n2_)
    refine start_ (n := 14) (S := fun w' => w'.cell? ⟨gb367, 0, none⟩ = some (.int .i64 a1_0) ∧ w'.cell? ⟨gb367, 1, none⟩ = some (.int .i64 a1_1) ∧ w'.cell? ⟨gb367, 2, none⟩ = some (.int .i64 a1_2) ∧ w'.cell? ⟨gb367, 3, none⟩ = some (.int .i64 a1_3) ∧ w'.cell? ⟨gb367, 4, none⟩ = some (.int .i64 a1_4) ∧ w'.cell? ⟨gb367, 5, none⟩ = some (.int .i64 a1_5) ∧ w'.cell? ⟨gb367, 6, none⟩ = some (.bool a1_6) ∧ w'.cell? ⟨gb367, 7, none⟩ = some (.int .i64 a1_7) ∧ w'.cell? ⟨gb367, 8, none⟩ = some (.int .u32 a1_8) ∧ w'.cell? ⟨gb367, 9, none⟩ = some (.int .u32 a1_9)) (ds := []) #[false, false, false, false, false, false, false, false, false, false, false, false, false, false] (by kernel_rfl) rfl rfl ⟨(blk_cell BK367.out 0).trans rfl, (blk_cell BK367.out 1).trans rfl, (blk_cell BK367.out 2).trans rfl, (blk_cell BK367.out 3).trans rfl, (blk_cell BK367.out 4).trans rfl, (blk_cell BK367.out 5).trans rfl, (blk_cell BK367.out 6).trans rfl, (blk_cell BK367.out 7).trans rfl, (blk_cell BK367.out 8).trans rfl, (blk_cell BK367.out 9).trans rfl⟩ (fun hHeld => ?_); refine with_tabW resolve_list.tab3 resolve_list.bits3 (fun HT_ HW_ => ?_)
    generalize w16.drew = w19 at BK367 BK368 HB hHeld ⊢
    refine pure_ (i := 0) (N := some 21) (v := ?_) (a' := ?_) #[true, false, false, false, false, false, false, false, false, false, false, false, false, false] rfl rfl (any_of HT_.out (by kernel_rfl)) (fun _ _ _ h => h) (Or.inl ⟨by rfl, ?_⟩) ?_ ?_
    rotate_left
    · intro w'
      go_simp
      with_reducible rfl
    rotate_left
    · simp only [Act.put, List.setIfInBounds_toArray, List.set_cons_zero, List.set_cons_succ, i64_w, i32_w]
      rfl
    refine pure_ (i := 1) (N := some 22) (v := ?_) (a' := ?_) #[true, true, false, false, false, false, false, false, false, false, false, false, false, false] rfl rfl (any_of HT_.out (by kernel_rfl)) (fun _ _ _ h => h) (Or.inl ⟨by rfl, ?_⟩) ?_ ?_
    rotate_left
    · intro w'
      go_simp
      with_reducible rfl
    rotate_left
    · simp only [Act.put, List.setIfInBounds_toArray, List.set_cons_zero, List.set_cons_succ, i64_w, i32_w]
      rfl
    refine pure_ (i := 2) (N := some 23) (v := ?_) (a' := ?_) #[true, true, true, false, false, false, false, false, false, false, false, false, false, false] rfl rfl (any_of HT_.out (by kernel_rfl)) (fun _ _ _ h => h) (Or.inl ⟨by rfl, ?_⟩) ?_ ?_
    rotate_left
    · intro w'
      go_simp
      with_reducible rfl
    rotate_left
    · simp only [Act.put, List.setIfInBounds_toArray, List.set_cons_zero, List.set_cons_succ, i64_w, i32_w]
      rfl
    refine pure_ (i := 4) (N := some 25) (v := ?_) (a' := ?_) #[true, true, true, false, true, false, false, false, false, false, false, false, false, false] rfl rfl (any_of HT_.out (by kernel_rfl)) (fun _ _ _ h => h) (Or.inl ⟨by rfl, ?_⟩) ?_ ?_
    rotate_left
    · intro w'
      go_simp
      with_reducible rfl
    rotate_left
    · simp only [Act.put, List.setIfInBounds_toArray, List.set_cons_zero, List.set_cons_succ, i64_w, i32_w]
      rfl
    refine pure_ (i := 6) (N := some 27) (v := ?_) (a' := ?_) #[true, true, true, false, true, false, true, false, false, false, false, false, false, false] rfl rfl (any_of HT_.out (by kernel_rfl)) (fun _ _ _ h => h) (Or.inl ⟨by rfl, ?_⟩) ?_ ?_
    rotate_left
    · intro w'
      go_simp
      with_reducible rfl
    rotate_left
    · simp only [Act.put, List.setIfInBounds_toArray, List.set_cons_zero, List.set_cons_succ, i64_w, i32_w]
      rfl
    refine pure_ (i := 8) (N := some 29) (v := ?_) (a' := ?_) #[true, true, true, false, true, false, true, false, true, false, false, false, false, false] rfl rfl (any_of HT_.out (by kernel_rfl)) (fun _ _ _ h => h) (Or.inl ⟨by rfl, ?_⟩) ?_ ?_
    rotate_left
    · intro w'
      go_simp
      with_reducible rfl
    rotate_left
    · simp only [Act.put, List.setIfInBounds_toArray, List.set_cons_zero, List.set_cons_succ, i64_w, i32_w]
      rfl
    refine take_ (i := 3) (N := some 24) (v := ?_) (a' := ?_) #[true, true, true, true, true, false, true, false, true, false, false, false, false, false] rfl rfl (take_ofW HT_.out HW_.out (by kernel_rfl)) (fun _ _ _ h => h) (Or.inl ⟨by rfl, ?_⟩) hHeld ?_ ?_
    rotate_left
    · rintro w' ⟨s0, s1, s2, s3, s4, s5, s6, s7, s8, s9⟩
      go_simp
      with_reducible rfl
    rotate_left
    · simp only [Act.put, List.setIfInBounds_toArray, List.set_cons_zero, List.set_cons_succ, i64_w, i32_w]
      rfl
    refine take_ (i := 5) (N := some 26) (v := ?_) (a' := ?_) #[true, true, true, true, true, true, true, false, true, false, false, false, false, false] rfl rfl (take_ofW HT_.out HW_.out (by kernel_rfl)) (fun _ _ _ h => h) (Or.inl ⟨by rfl, ?_⟩) hHeld ?_ ?_
    rotate_left
    · rintro w' ⟨s0, s1, s2, s3, s4, s5, s6, s7, s8, s9⟩
      go_simp
      with_reducible rfl
    rotate_left
    · simp only [Act.put, List.setIfInBounds_toArray, List.set_cons_zero, List.set_cons_succ, i64_w, i32_w]
      rfl
    refine take_ (i := 7) (N := some 28) (v := ?_) (a' := ?_) #[true, true, true, true, true, true, true, true, true, false, false, false, false, false] rfl rfl (take_ofW HT_.out HW_.out (by kernel_rfl)) (fun _ _ _ h => h) (Or.inl ⟨by rfl, ?_⟩) hHeld ?_ ?_
    rotate_left
    · rintro w' ⟨s0, s1, s2, s3, s4, s5, s6, s7, s8, s9⟩
      go_simp
      with_reducible rfl
    rotate_left
    · simp only [Act.put, List.setIfInBounds_toArray, List.set_cons_zero, List.set_cons_succ, i64_w, i32_w]
      rfl
    refine take_ (i := 9) (N := some 30) (v := ?_) (a' := ?_) #[true, true, true, true, true, true, true, true, true, true, false, false, false, false] rfl rfl (take_ofW HT_.out HW_.out (by kernel_rfl)) (fun _ _ _ h => h) (Or.inl ⟨by rfl, ?_⟩) hHeld ?_ ?_
    rotate_left
    · rintro w' ⟨s0, s1, s2, s3, s4, s5, s6, s7, s8, s9⟩
      go_simp
      with_reducible rfl
    rotate_left
    · simp only [Act.put, List.setIfInBounds_toArray, List.set_cons_zero, List.set_cons_succ, i64_w, i32_w]
      rfl
    refine join_ (σ := Nat) 1 #[true, true, true, true, true, true, true, true, true, true, true, true, true, false] (fun s_ => [(31, .int .i64 t378), (10, .pointer (some ⟨s_, 0, none⟩)), (32, .agg #[.int .i64 2, .int .i64 a2, .int .i64 a3, .int .i64 0, .int .i64 0, .int .i64 a1_4, .int .i64 a1_5, .int .i64 t378])]) (fun s_ w' => (w'.cell? ⟨gb367, 0, none⟩ = some (.int .i64 a1_0) ∧ w'.cell? ⟨gb367, 1, none⟩ = some (.int .i64 a1_1) ∧ w'.cell? ⟨gb367, 2, none⟩ = some (.int .i64 a1_2) ∧ w'.cell? ⟨gb367, 3, none⟩ = some (.int .i64 a1_3) ∧ w'.cell? ⟨gb367, 4, none⟩ = some (.int .i64 a1_4) ∧ w'.cell? ⟨gb367, 5, none⟩ = some (.int .i64 a1_5) ∧ w'.cell? ⟨gb367, 6, none⟩ = some (.bool a1_6) ∧ w'.cell? ⟨gb367, 7, none⟩ = some (.int .i64 a1_7) ∧ w'.cell? ⟨gb367, 8, none⟩ = some (.int .u32 a1_8) ∧ w'.cell? ⟨gb367, 9, none⟩ = some (.int .u32 a1_9)) ∧ (w'.heap[gb367]? = some (.cells #[.int .i64 a1_0, .int .i64 a1_1, .int .i64 a1_2, .int .i64 a1_3, .int .i64 a1_4, .int .i64 a1_5, .bool a1_6, .int .i64 a1_7, .int .u32 a1_8, .int .u32 a1_9] 39 (0, 0))) ∧ (w'.heap[gb368]? = some (.cells #[.int .i64 0, .int .i64 0, .int .i64 0, .int .i64 0, .int .i64 0, .int .i64 0, .int .i64 0, .int .i64 0] 46 (0, 0))) ∧ (w'.heap[s_]? = some (.cells #[.int .i64 0, .int .i64 0, .int .i64 0, .int .i64 0, .int .i64 0, .int .i64 0, .int .i64 0, .int .i64 0] 46 (0, 0))) ∧ (w.heap.size ≤ s_) ∧ (w.heap.size ≤ s_) ∧ (gb367 ≠ s_) ∧ (s_ ≠ gb367) ∧ (gb368 ≠ s_) ∧ (s_ ≠ gb368) ∧ (Below w.heap.size w w')) ?_ ?_
    rotate_left
    · intro hCont
      refine two_ (i := 10) (j := 12) (Ni := some 31) (Nj := some 10) #[true, true, true, true, true, true, true, true, true, true, true, false, false, false] #[true, true, true, true, true, true, true, true, true, true, false, false, true, false] rfl rfl rfl rfl (two_of HT_.out (by kernel_rfl)) (by decide) (by decide) (fun K hK => ?_) (fun K hK => ?_)
      · skip
        refine goes_ Tryd.func53 (by kernel_rfl) rfl #[.int .i64 a1_4, .int .i64 a1_5] (by rfl) rfl rfl (by (try simp only [List.map_toArray, List.map_cons, List.map_nil]); rfl) ?_
        with_reducible refine (listsize_Words.calls a1_4 a1_5 t378 _ ?side1 A13.out).mono ?_
        (case side1 => exact Glob.below HG.out HB.out)
        rintro e w' ⟨rfl, ⟨nd, rfl⟩⟩
        refine ⟨_, rfl, ?_⟩
        refine hK.out _ _ ⟨(blk_cell BK367.out 0).trans rfl, (blk_cell BK367.out 1).trans rfl, (blk_cell BK367.out 2).trans rfl, (blk_cell BK367.out 3).trans rfl, (blk_cell BK367.out 4).trans rfl, (blk_cell BK367.out 5).trans rfl, (blk_cell BK367.out 6).trans rfl, (blk_cell BK367.out 7).trans rfl, (blk_cell BK367.out 8).trans rfl, (blk_cell BK367.out 9).trans rfl⟩ (fun hHeld => ?_)
        clear hK K
        refine norm_ (a' := ?_) ?_ ?_
        rotate_left
        · show Act.put _ (some 31) _ = _
          simp only [Act.put, List.setIfInBounds_toArray, List.set_cons_zero, List.set_cons_succ, i64_w, i32_w]
          rfl
        refine pure_ (i := 11) (N := some 32) (v := ?_) (a' := ?_) #[true, true, true, true, true, true, true, true, true, true, true, true, false, false] rfl rfl (any_of HT_.out (by kernel_rfl)) (fun _ _ _ h => h) (Or.inl ⟨by rfl, ?_⟩) ?_ ?_
        rotate_left
        · intro w'
          go_simp
          with_reducible rfl
        rotate_left
        · simp only [Act.put, List.setIfInBounds_toArray, List.set_cons_zero, List.set_cons_succ, i64_w, i32_w]
          rfl
        refine one_ (i := 12) (N := some 10) #[true, true, true, true, true, true, true, true, true, true, true, true, true, false] rfl rfl (one_of HT_.out (by kernel_rfl)) (by decide) (fun K hK => ?_)
        refine box_step ?hg (N := 10) ?hd (cs := #[.int .i64 0, .int .i64 0, .int .i64 0, .int .i64 0, .int .i64 0, .int .i64 0, .int .i64 0, .int .i64 0]) (t := 46) ?hr ?_; (case hd => rfl); (case hg => rfl); (case hr => (go_simp; done))
        intro gb379 hg w20 hbox hb
        have n0_ := Aside0.mk (blk_below (g := gb367) (o := .cells #[.int .i64 a1_0, .int .i64 a1_1, .int .i64 a1_2, .int .i64 a1_3, .int .i64 a1_4, .int .i64 a1_5, .bool a1_6, .int .i64 a1_7, .int .u32 a1_8, .int .u32 a1_9] 39 (0, 0)) (by (with_reducible repeat ((refine blk_drewN ?_ _))); exact BK367.out) hb)
        have n1_ := Aside0.mk (blk_below (g := gb368) (o := .cells #[.int .i64 0, .int .i64 0, .int .i64 0, .int .i64 0, .int .i64 0, .int .i64 0, .int .i64 0, .int .i64 0] 46 (0, 0)) (by (with_reducible repeat ((refine blk_drewN ?_ _))); exact BK368.out) hb)
        have n2_ := Aside0.mk (below_step (by repeat ((with_reducible first | exact HB.out | apply pw_below_drewN))) hb)
        have n3_ := Aside0.mk (hbox)
        have n4_ := Aside0.mk ((by rw [hg]; exact (below_size (by repeat ((with_reducible first | exact HB.out | apply pw_below_drewN)))) : w.heap.size ≤ gb379))
        have n5_ := Aside0.mk ((by rw [hg]; exact (below_size (by repeat ((with_reducible first | exact HB.out | apply pw_below_drewN)))) : w.heap.size ≤ gb379))
        have n6_ := Aside0.mk ((by rw [hg]; exact Nat.ne_of_lt (blk_lt (g := gb367) (o := .cells #[.int .i64 a1_0, .int .i64 a1_1, .int .i64 a1_2, .int .i64 a1_3, .int .i64 a1_4, .int .i64 a1_5, .bool a1_6, .int .i64 a1_7, .int .u32 a1_8, .int .u32 a1_9] 39 (0, 0)) (by (with_reducible repeat ((refine blk_drewN ?_ _))); exact BK367.out)) : gb367 ≠ gb379))
        have n7_ := Aside0.mk ((by rw [hg]; exact Nat.ne_of_gt (blk_lt (g := gb367) (o := .cells #[.int .i64 a1_0, .int .i64 a1_1, .int .i64 a1_2, .int .i64 a1_3, .int .i64 a1_4, .int .i64 a1_5, .bool a1_6, .int .i64 a1_7, .int .u32 a1_8, .int .u32 a1_9] 39 (0, 0)) (by (with_reducible repeat ((refine blk_drewN ?_ _))); exact BK367.out)) : gb379 ≠ gb367))
        have n8_ := Aside0.mk ((by rw [hg]; exact Nat.ne_of_lt (blk_lt (g := gb368) (o := .cells #[.int .i64 0, .int .i64 0, .int .i64 0, .int .i64 0, .int .i64 0, .int .i64 0, .int .i64 0, .int .i64 0] 46 (0, 0)) (by (with_reducible repeat ((refine blk_drewN ?_ _))); exact BK368.out)) : gb368 ≠ gb379))
        have n9_ := Aside0.mk ((by rw [hg]; exact Nat.ne_of_gt (blk_lt (g := gb368) (o := .cells #[.int .i64 0, .int .i64 0, .int .i64 0, .int .i64 0, .int .i64 0, .int .i64 0, .int .i64 0, .int .i64 0] 46 (0, 0)) (by (with_reducible repeat ((refine blk_drewN ?_ _))); exact BK368.out)) : gb379 ≠ gb368))
        (try clear BK367)
        clear BK368
        clear HB
        have BK367 := n0_
        have BK368 := n1_
        have HB := n2_
        have BK379 := n3_
        have GW379 := n4_
        have GE379 := n5_
        have NB367_379 := n6_
        have NB379_367 := n7_
        have NB368_379 := n8_
        have NB379_368 := n9_
        (try clear n0_; try clear n1_; try clear n2_; try clear n3_; try clear n4_; try clear n5_; try clear n6_; try clear n7_; try clear n8_; try clear n9_)
        clear hb hbox hg
        refine hK.out _ _ ⟨(blk_cell BK367.out 0).trans rfl, (blk_cell BK367.out 1).trans rfl, (blk_cell BK367.out 2).trans rfl, (blk_cell BK367.out 3).trans rfl, (blk_cell BK367.out 4).trans rfl, (blk_cell BK367.out 5).trans rfl, (blk_cell BK367.out 6).trans rfl, (blk_cell BK367.out 7).trans rfl, (blk_cell BK367.out 8).trans rfl, (blk_cell BK367.out 9).trans rfl⟩ (fun hHeld => ?_)
        clear hK K
        refine norm_ (a' := ?_) ?_ ?_
        rotate_left
        · show Act.put _ (some 10) _ = _
          simp only [Act.put, List.setIfInBounds_toArray, List.set_cons_zero, List.set_cons_succ, i64_w, i32_w]
          rfl
        exact norm_ (by simp only [putAll, Act.put, List.setIfInBounds_toArray, List.set_cons_zero, List.set_cons_succ]) (hCont (gb379) _ ⟨hHeld, BK367.out, BK368.out, BK379.out, GW379.out, GE379.out, NB367_379.out, NB379_367.out, NB368_379.out, NB379_368.out, HB.out⟩)
      · skip
        refine box_step ?hg (N := 10) ?hd (cs := #[.int .i64 0, .int .i64 0, .int .i64 0, .int .i64 0, .int .i64 0, .int .i64 0, .int .i64 0, .int .i64 0]) (t := 46) ?hr ?_; (case hd => rfl); (case hg => rfl); (case hr => (go_simp; done))
        intro gb379 hg w20 hbox hb
        have n0_ := Aside0.mk (blk_below BK367.out hb)
        have n1_ := Aside0.mk (blk_below BK368.out hb)
        have n2_ := Aside0.mk (below_step HB.out hb)
        have n3_ := Aside0.mk (hbox)
        have n4_ := Aside0.mk (ge_of HB.out hg)
        have n5_ := Aside0.mk (ge_of HB.out hg)
        have n6_ := Aside0.mk (ne_l BK367.out hg)
        have n7_ := Aside0.mk (ne_r BK367.out hg)
        have n8_ := Aside0.mk (ne_l BK368.out hg)
        have n9_ := Aside0.mk (ne_r BK368.out hg)
        (try clear BK367)
        clear BK368
        clear HB
        have BK367 := n0_
        have BK368 := n1_
        have HB := n2_
        have BK379 := n3_
        have GW379 := n4_
        have GE379 := n5_
        have NB367_379 := n6_
        have NB379_367 := n7_
        have NB368_379 := n8_
        have NB379_368 := n9_
        (try clear n0_; try clear n1_; try clear n2_; try clear n3_; try clear n4_; try clear n5_; try clear n6_; try clear n7_; try clear n8_; try clear n9_)
        clear hb hbox hg
        refine hK.out _ _ ⟨(blk_cell BK367.out 0).trans rfl, (blk_cell BK367.out 1).trans rfl, (blk_cell BK367.out 2).trans rfl, (blk_cell BK367.out 3).trans rfl, (blk_cell BK367.out 4).trans rfl, (blk_cell BK367.out 5).trans rfl, (blk_cell BK367.out 6).trans rfl, (blk_cell BK367.out 7).trans rfl, (blk_cell BK367.out 8).trans rfl, (blk_cell BK367.out 9).trans rfl⟩ (fun hHeld => ?_)
        clear hK K
        refine norm_ (a' := ?_) ?_ ?_
        rotate_left
        · show Act.put _ (some 10) _ = _
          simp only [Act.put, List.setIfInBounds_toArray, List.set_cons_zero, List.set_cons_succ, i64_w, i32_w]
          rfl
        refine one_ (i := 10) (N := some 31) #[true, true, true, true, true, true, true, true, true, true, true, false, true, false] rfl rfl (one_of HT_.out (by kernel_rfl)) (by decide) (fun K hK => ?_)
        refine goes_ Tryd.func53 (by kernel_rfl) rfl #[.int .i64 a1_4, .int .i64 a1_5] (by rfl) rfl rfl (by (try simp only [List.map_toArray, List.map_cons, List.map_nil]); rfl) ?_
        with_reducible refine (listsize_Words.calls a1_4 a1_5 t378 _ ?side1 A13.out).mono ?_
        (case side1 => exact Glob.below HG.out HB.out)
        rintro e w' ⟨rfl, ⟨nd, rfl⟩⟩
        refine ⟨_, rfl, ?_⟩
        refine hK.out _ _ ⟨(blk_cell BK367.out 0).trans rfl, (blk_cell BK367.out 1).trans rfl, (blk_cell BK367.out 2).trans rfl, (blk_cell BK367.out 3).trans rfl, (blk_cell BK367.out 4).trans rfl, (blk_cell BK367.out 5).trans rfl, (blk_cell BK367.out 6).trans rfl, (blk_cell BK367.out 7).trans rfl, (blk_cell BK367.out 8).trans rfl, (blk_cell BK367.out 9).trans rfl⟩ (fun hHeld => ?_)
        clear hK K
        refine norm_ (a' := ?_) ?_ ?_
        rotate_left
        · show Act.put _ (some 31) _ = _
          simp only [Act.put, List.setIfInBounds_toArray, List.set_cons_zero, List.set_cons_succ, i64_w, i32_w]
          rfl
        refine pure_ (i := 11) (N := some 32) (v := ?_) (a' := ?_) #[true, true, true, true, true, true, true, true, true, true, true, true, true, false] rfl rfl (any_of HT_.out (by kernel_rfl)) (fun _ _ _ h => h) (Or.inl ⟨by rfl, ?_⟩) ?_ ?_
        rotate_left
        · intro w'
          go_simp
          with_reducible rfl
        rotate_left
        · simp only [Act.put, List.setIfInBounds_toArray, List.set_cons_zero, List.set_cons_succ, i64_w, i32_w]
          rfl
        exact norm_ (by simp only [putAll, Act.put, List.setIfInBounds_toArray, List.set_cons_zero, List.set_cons_succ]) (hCont (gb379) _ ⟨hHeld, (by (with_reducible repeat ((refine blk_drewN ?_ _))); exact BK367.out), (by (with_reducible repeat ((refine blk_drewN ?_ _))); exact BK368.out), (by (with_reducible repeat ((refine blk_drewN ?_ _))); exact BK379.out), GW379.out, GE379.out, NB367_379.out, NB379_367.out, NB368_379.out, NB379_368.out, (by repeat ((with_reducible first | exact HB.out | apply pw_below_drewN)))⟩)
    rintro gb379 w21 ⟨hS_, h0_, h1_, h2_, h3_, h4_, h5_, h6_, h7_, h8_, h9_⟩
    have n1_ : Aside0 (w21.heap[gb368]? = some (.cells #[.int .i64 0, .int .i64 0, .int .i64 0, .int .i64 0, .int .i64 0, .int .i64 0, .int .i64 0, .int .i64 0] 46 (0, 0))) := ⟨h1_⟩
    have n2_ : Aside0 (w21.heap[gb379]? = some (.cells #[.int .i64 0, .int .i64 0, .int .i64 0, .int .i64 0, .int .i64 0, .int .i64 0, .int .i64 0, .int .i64 0] 46 (0, 0))) := ⟨h2_⟩
    have n4_ : Aside0 (w.heap.size ≤ gb379) := ⟨h4_⟩
    have n5_ : Aside0 (gb367 ≠ gb379) := ⟨h5_⟩
    have n7_ : Aside0 (gb368 ≠ gb379) := ⟨h7_⟩
    have n9_ : Aside0 (Below w.heap.size w w21) := ⟨h9_⟩
    (try clear BK367)
    clear BK368
    clear HB
    clear h0_ h1_ h2_ h3_ h4_ h5_ h6_ h7_ h8_ h9_
    have BK368 := n1_
    have BK379 := n2_
    have GE379 := n4_
    have NB367_379 := n5_
    have NB368_379 := n7_
    have HB := n9_
    (try clear n0_; try clear n1_; try clear n2_; try clear n3_; try clear n4_; try clear n5_; try clear n6_; try clear n7_; try clear n8_; try clear n9_)
    have hHeld : w21.cell? ⟨gb367, 0, none⟩ = some (.int .i64 a1_0) ∧ w21.cell? ⟨gb367, 1, none⟩ = some (.int .i64 a1_1) ∧ w21.cell? ⟨gb367, 2, none⟩ = some (.int .i64 a1_2) ∧ w21.cell? ⟨gb367, 3, none⟩ = some (.int .i64 a1_3) ∧ w21.cell? ⟨gb367, 4, none⟩ = some (.int .i64 a1_4) ∧ w21.cell? ⟨gb367, 5, none⟩ = some (.int .i64 a1_5) ∧ w21.cell? ⟨gb367, 6, none⟩ = some (.bool a1_6) ∧ w21.cell? ⟨gb367, 7, none⟩ = some (.int .i64 a1_7) ∧ w21.cell? ⟨gb367, 8, none⟩ = some (.int .u32 a1_8) ∧ w21.cell? ⟨gb367, 9, none⟩ = some (.int .u32 a1_9) := hS_
    refine norm_ (a' := ?_) ?_ ?_
    rotate_left
    · simp only [putAll, Act.put, List.setIfInBounds_toArray, List.set_cons_zero, List.set_cons_succ]
      rfl
    refine one_ (i := 13) (N := none) #[true, true, true, true, true, true, true, true, true, true, true, true, true, true] rfl rfl (one_of HT_.out (by kernel_rfl)) (by decide) (fun K hK => ?_)
    have hs22 : w21.cell? ⟨gb379, 0, none⟩ = some (.int .i64 0) := (blk_cell BK379.out 0).trans rfl
    have hfs22 := blk_frozen BK379.out 0
    have hs23 : w21.cell? ⟨gb379, 1, none⟩ = some (.int .i64 0) := (blk_cell BK379.out 1).trans rfl
    have hfs23 := blk_frozen BK379.out 1
    have hs24 : w21.cell? ⟨gb379, 2, none⟩ = some (.int .i64 0) := (blk_cell BK379.out 2).trans rfl
    have hfs24 := blk_frozen BK379.out 2
    have hs25 : w21.cell? ⟨gb379, 3, none⟩ = some (.int .i64 0) := (blk_cell BK379.out 3).trans rfl
    have hfs25 := blk_frozen BK379.out 3
    have hs26 : w21.cell? ⟨gb379, 4, none⟩ = some (.int .i64 0) := (blk_cell BK379.out 4).trans rfl
    have hfs26 := blk_frozen BK379.out 4
    have hs27 : w21.cell? ⟨gb379, 5, none⟩ = some (.int .i64 0) := (blk_cell BK379.out 5).trans rfl
    have hfs27 := blk_frozen BK379.out 5
    have hs28 : w21.cell? ⟨gb379, 6, none⟩ = some (.int .i64 0) := (blk_cell BK379.out 6).trans rfl
    have hfs28 := blk_frozen BK379.out 6
    have hs29 : w21.cell? ⟨gb379, 7, none⟩ = some (.int .i64 0) := (blk_cell BK379.out 7).trans rfl
    have hfs29 := blk_frozen BK379.out 7
    refine skip_ (w1 := ?_) (by rfl) rfl ?_ ?_
    rotate_left
    · go_simp
      rfl
    refine hK.out _ _ ⟨((cell_far (p := ⟨gb379, _, none⟩) NB367_379.out _).trans (((cell_far (p := ⟨gb379, _, none⟩) NB367_379.out _).trans (((cell_far (p := ⟨gb379, _, none⟩) NB367_379.out _).trans (((cell_far (p := ⟨gb379, _, none⟩) NB367_379.out _).trans (((cell_far (p := ⟨gb379, _, none⟩) NB367_379.out _).trans (((cell_far (p := ⟨gb379, _, none⟩) NB367_379.out _).trans (((cell_far (p := ⟨gb379, _, none⟩) NB367_379.out _).trans (((cell_far (p := ⟨gb379, _, none⟩) NB367_379.out _).trans (hHeld.1)))))))))))))))), ((cell_far (p := ⟨gb379, _, none⟩) NB367_379.out _).trans (((cell_far (p := ⟨gb379, _, none⟩) NB367_379.out _).trans (((cell_far (p := ⟨gb379, _, none⟩) NB367_379.out _).trans (((cell_far (p := ⟨gb379, _, none⟩) NB367_379.out _).trans (((cell_far (p := ⟨gb379, _, none⟩) NB367_379.out _).trans (((cell_far (p := ⟨gb379, _, none⟩) NB367_379.out _).trans (((cell_far (p := ⟨gb379, _, none⟩) NB367_379.out _).trans (((cell_far (p := ⟨gb379, _, none⟩) NB367_379.out _).trans (hHeld.2.1)))))))))))))))), ((cell_far (p := ⟨gb379, _, none⟩) NB367_379.out _).trans (((cell_far (p := ⟨gb379, _, none⟩) NB367_379.out _).trans (((cell_far (p := ⟨gb379, _, none⟩) NB367_379.out _).trans (((cell_far (p := ⟨gb379, _, none⟩) NB367_379.out _).trans (((cell_far (p := ⟨gb379, _, none⟩) NB367_379.out _).trans (((cell_far (p := ⟨gb379, _, none⟩) NB367_379.out _).trans (((cell_far (p := ⟨gb379, _, none⟩) NB367_379.out _).trans (((cell_far (p := ⟨gb379, _, none⟩) NB367_379.out _).trans (hHeld.2.2.1)))))))))))))))), ((cell_far (p := ⟨gb379, _, none⟩) NB367_379.out _).trans (((cell_far (p := ⟨gb379, _, none⟩) NB367_379.out _).trans (((cell_far (p := ⟨gb379, _, none⟩) NB367_379.out _).trans (((cell_far (p := ⟨gb379, _, none⟩) NB367_379.out _).trans (((cell_far (p := ⟨gb379, _, none⟩) NB367_379.out _).trans (((cell_far (p := ⟨gb379, _, none⟩) NB367_379.out _).trans (((cell_far (p := ⟨gb379, _, none⟩) NB367_379.out _).trans (((cell_far (p := ⟨gb379, _, none⟩) NB367_379.out _).trans (hHeld.2.2.2.1)))))))))))))))), ((cell_far (p := ⟨gb379, _, none⟩) NB367_379.out _).trans (((cell_far (p := ⟨gb379, _, none⟩) NB367_379.out _).trans (((cell_far (p := ⟨gb379, _, none⟩) NB367_379.out _).trans (((cell_far (p := ⟨gb379, _, none⟩) NB367_379.out _).trans (((cell_far (p := ⟨gb379, _, none⟩) NB367_379.out _).trans (((cell_far (p := ⟨gb379, _, none⟩) NB367_379.out _).trans (((cell_far (p := ⟨gb379, _, none⟩) NB367_379.out _).trans (((cell_far (p := ⟨gb379, _, none⟩) NB367_379.out _).trans (hHeld.2.2.2.2.1)))))))))))))))), ((cell_far (p := ⟨gb379, _, none⟩) NB367_379.out _).trans (((cell_far (p := ⟨gb379, _, none⟩) NB367_379.out _).trans (((cell_far (p := ⟨gb379, _, none⟩) NB367_379.out _).trans (((cell_far (p := ⟨gb379, _, none⟩) NB367_379.out _).trans (((cell_far (p := ⟨gb379, _, none⟩) NB367_379.out _).trans (((cell_far (p := ⟨gb379, _, none⟩) NB367_379.out _).trans (((cell_far (p := ⟨gb379, _, none⟩) NB367_379.out _).trans (((cell_far (p := ⟨gb379, _, none⟩) NB367_379.out _).trans (hHeld.2.2.2.2.2.1)))))))))))))))), ((cell_far (p := ⟨gb379, _, none⟩) NB367_379.out _).trans (((cell_far (p := ⟨gb379, _, none⟩) NB367_379.out _).trans (((cell_far (p := ⟨gb379, _, none⟩) NB367_379.out _).trans (((cell_far (p := ⟨gb379, _, none⟩) NB367_379.out _).trans (((cell_far (p := ⟨gb379, _, none⟩) NB367_379.out _).trans (((cell_far (p := ⟨gb379, _, none⟩) NB367_379.out _).trans (((cell_far (p := ⟨gb379, _, none⟩) NB367_379.out _).trans (((cell_far (p := ⟨gb379, _, none⟩) NB367_379.out _).trans (hHeld.2.2.2.2.2.2.1)))))))))))))))), ((cell_far (p := ⟨gb379, _, none⟩) NB367_379.out _).trans (((cell_far (p := ⟨gb379, _, none⟩) NB367_379.out _).trans (((cell_far (p := ⟨gb379, _, none⟩) NB367_379.out _).trans (((cell_far (p := ⟨gb379, _, none⟩) NB367_379.out _).trans (((cell_far (p := ⟨gb379, _, none⟩) NB367_379.out _).trans (((cell_far (p := ⟨gb379, _, none⟩) NB367_379.out _).trans (((cell_far (p := ⟨gb379, _, none⟩) NB367_379.out _).trans (((cell_far (p := ⟨gb379, _, none⟩) NB367_379.out _).trans (hHeld.2.2.2.2.2.2.2.1)))))))))))))))), ((cell_far (p := ⟨gb379, _, none⟩) NB367_379.out _).trans (((cell_far (p := ⟨gb379, _, none⟩) NB367_379.out _).trans (((cell_far (p := ⟨gb379, _, none⟩) NB367_379.out _).trans (((cell_far (p := ⟨gb379, _, none⟩) NB367_379.out _).trans (((cell_far (p := ⟨gb379, _, none⟩) NB367_379.out _).trans (((cell_far (p := ⟨gb379, _, none⟩) NB367_379.out _).trans (((cell_far (p := ⟨gb379, _, none⟩) NB367_379.out _).trans (((cell_far (p := ⟨gb379, _, none⟩) NB367_379.out _).trans (hHeld.2.2.2.2.2.2.2.2.1)))))))))))))))), ((cell_far (p := ⟨gb379, _, none⟩) NB367_379.out _).trans (((cell_far (p := ⟨gb379, _, none⟩) NB367_379.out _).trans (((cell_far (p := ⟨gb379, _, none⟩) NB367_379.out _).trans (((cell_far (p := ⟨gb379, _, none⟩) NB367_379.out _).trans (((cell_far (p := ⟨gb379, _, none⟩) NB367_379.out _).trans (((cell_far (p := ⟨gb379, _, none⟩) NB367_379.out _).trans (((cell_far (p := ⟨gb379, _, none⟩) NB367_379.out _).trans (((cell_far (p := ⟨gb379, _, none⟩) NB367_379.out _).trans (hHeld.2.2.2.2.2.2.2.2.2))))))))))))))))⟩ (fun hHeld => ?_)
    clear hK K
    refine done_ (done_of HT_.out (by kernel_rfl)) ?_
    try go_wp2_with (((with_reducible refine gate_callee (f := 51) rfl ?_); refine goesL_ (some 38) rfl rfl Tryd.func51 (by kernel_rfl) rfl #[.slice A0 l0.length c0, .agg #[.int .i64 2, .int .i64 a2, .int .i64 a3, .int .i64 0, .int .i64 0, .int .i64 a1_4, .int .i64 a1_5, .int .i64 t378], .int .i64 a3, .int .i64 t378] rfl (by (try simp only [List.map_toArray, List.map_cons, List.map_nil]); rfl) ?_; (with_reducible refine (resolve_within.calls _ _ l0 2 a2 a3 0 0 a1_4 a1_5 t378 a3 t378 t380 t381 t382 t383 t384 t385 t386 t387 t388 _ ?side1 ?side2 A14.out).mono ?_); (case side1 => exact Kd.C_below HR0.out (by repeat ((with_reducible first | exact HB.out | refine below_set ?_ GE379.out)))); (case side2 => exact HC0.out); rintro e w33 ⟨rfl, hb⟩; refine ⟨_, rfl, ?_⟩; replace BK368 := Aside0.mk (blk_below (g := gb368) (o := .cells #[.int .i64 0, .int .i64 0, .int .i64 0, .int .i64 0, .int .i64 0, .int .i64 0, .int .i64 0, .int .i64 0] 46 (0, 0)) (by (iterate 8 refine blk_far ?_ NB368_379.out _); exact BK368.out) hb); replace HB := Aside0.mk (below_step (by repeat ((with_reducible first | exact HB.out | refine below_set ?_ GE379.out))) hb); (try clear BK367); (try clear BK379); (try clear hb); obtain ⟨hcz34_0, hcz34_1, hcz34_2, hcz34_3, hcz34_4, hcz34_5, hcz34_6, hcz34_7⟩ := cells8 BK368.out; obtain ⟨hfz34_0, hfz34_1, hfz34_2, hfz34_3, hfz34_4, hfz34_5, hfz34_6, hfz34_7⟩ := frz8 BK368.out))
    refine bodyPost_ret (results_ct rfl _ _ gb368 46 #[.int .i64 t380, .int .i64 t381, .int .i64 t382, .int .i64 t383, .int .i64 t384, .int .i64 t385, .int .i64 t386, .int .i64 t387] (0, 0) _ rfl (by exact put8 BK368.out) Tryd.underlying46 rfl (by kernel_rfl)) rfl ?_
    exact ⟨by rfl, by repeat ((with_reducible first | exact HB.out | refine below_set ?_ GE368.out))⟩

end Go.Proofs.YtcjhejopcghgnaaDoor.P

namespace Go.Proofs.YtcjhejopcghgnaaDoor.P
open Go.RowKit Go.Proofs.YtcjhejopcghgnaaDoorW.PrintWords Go.Proofs.YtcjhejopcghgnaaDoorW.PrintLast Go.Proofs.YtcjhejopcghgnaaDoorW.PrintMore
attribute [local go_sem] max2_int min2_int max_two min_two max_three min_three max_four min_four   -- for this text's walks alone
set_option linter.unusedVariables false
set_option linter.unusedSimpArgs false

variable {gb : Bool}
/-! ### pointer_IsCapability: function 54 -/
def pointer_IsCapability.f (a0_0 a0_1 a0_2 a0_3 a0_4 a0_5 : Int) (a0_6 : Bool) (a0_7 a0_8 a0_9 : Int) : Option (Bool) := if a0_0 = 3 then (some (a0_9 == 0)) else (some false)
set_option maxHeartbeats 8000000 in
set_option maxRecDepth 100000 in
theorem pointer_IsCapability.calls (a0_0 a0_1 a0_2 a0_3 a0_4 a0_5 : Int) (a0_6 : Bool) (a0_7 a0_8 a0_9 : Int) (r : Bool) (w : World) (h : pointer_IsCapability.f a0_0 a0_1 a0_2 a0_3 a0_4 a0_5 a0_6 a0_7 a0_8 a0_9 = some r) :
    Calls Tryd.prog 54 #[.agg #[.int .i64 a0_0, .int .i64 a0_1, .int .i64 a0_2, .int .i64 a0_3, .int .i64 a0_4, .int .i64 a0_5, .bool a0_6, .int .i64 a0_7, .int .u32 a0_8, .int .u32 a0_9]] w fun e w' => e = .returned (.bool r) ∧ Below w.heap.size w w' := by
  have HB := Aside0.mk (Below.refl w.heap.size w)
  have H : (if a0_0 = 3 then (some (a0_9 == 0)) else (some false)) = some r := h
  clear h
  by_cases c2 : a0_0 = 3
  · rw [if_pos c2] at H
    have c2b0 : (a0_0 == 3) = true := beq_iff_eq.mpr c2
    clear c2
    obtain rfl := Option.some.inj H
    go_enter Tryd.func54, Tryd.ntmps54
    go_wp2_with (((with_reducible refine gate_dst (N := 1) rfl ?_); refine box_event ?hg (N := 1) ?hd (cs := #[.int .i64 a0_0, .int .i64 a0_1, .int .i64 a0_2, .int .i64 a0_3, .int .i64 a0_4, .int .i64 a0_5, .bool a0_6, .int .i64 a0_7, .int .u32 a0_8, .int .u32 a0_9]) (t := 39) ?hr ?_; (case hd => rfl); (case hg => rfl); (case hr => (go_simp; done)); intro gb389 hg w3 hbox hb; replace HB := Aside0.mk (below_step HB.out hb); replace BK389 := Aside0.mk (hbox); clear hb hbox hg; obtain ⟨hcz4_0, -, -, -, -, -, -, -, -, hcz4_9⟩ := cells10 BK389.out))
    go_ret
    exact ⟨by rfl, by repeat ((with_reducible exact HB.out))⟩
  · rw [if_neg c2] at H
    have c2b0 : (a0_0 == 3) = false := beq_eq_false_iff_ne.mpr c2
    obtain rfl := Option.some.inj H
    go_enter Tryd.func54, Tryd.ntmps54
    go_wp2_with (((with_reducible refine gate_dst (N := 1) rfl ?_); refine box_event ?hg (N := 1) ?hd (cs := #[.int .i64 a0_0, .int .i64 a0_1, .int .i64 a0_2, .int .i64 a0_3, .int .i64 a0_4, .int .i64 a0_5, .bool a0_6, .int .i64 a0_7, .int .u32 a0_8, .int .u32 a0_9]) (t := 39) ?hr ?_; (case hd => rfl); (case hg => rfl); (case hr => (go_simp; done)); intro gb389 hg w5 hbox hb; replace HB := Aside0.mk (below_step HB.out hb); replace BK389 := Aside0.mk (hbox); clear hb hbox hg; have hcz6_0 : w5.cell? ⟨gb389, 0, none⟩ = some (.int .i64 a0_0) := (blk_cell BK389.out 0).trans rfl))
    go_ret
    exact ⟨by rfl, by repeat ((with_reducible exact HB.out))⟩

end Go.Proofs.YtcjhejopcghgnaaDoor.P

namespace Go.Proofs.YtcjhejopcghgnaaDoor.P
open Go.RowKit Go.Proofs.YtcjhejopcghgnaaDoorW.PrintWords Go.Proofs.YtcjhejopcghgnaaDoorW.PrintLast Go.Proofs.YtcjhejopcghgnaaDoorW.PrintMore
attribute [local go_sem] max2_int min2_int max_two min_two max_three min_three max_four min_four   -- for this text's walks alone
set_option linter.unusedVariables false
set_option linter.unusedSimpArgs false

variable {gb : Bool}
/-! ### resolve_other: function 44 -/
def resolve_other.f (l0 : List (List Int)) (a1_0 a1_1 a1_2 a1_3 a1_4 a1_5 : Int) (a1_6 : Bool) (a1_7 a1_8 a1_9 a2 a3 : Int) : Option (Int × Int × Int × Int × Int × Int × Int × Int × Int) := (pointer_IsCapability.f a1_0 a1_1 a1_2 a1_3 a1_4 a1_5 a1_6 a1_7 a1_8 a1_9).bind fun t392 => (if t392 = true then (some (0, 0, 0, 0, 0, 0, 0, 0, 6)) else (some (0, 0, 0, 0, 0, 0, 0, 0, 4)))
set_option maxHeartbeats 8000000 in
set_option maxRecDepth 100000 in
theorem resolve_other.calls (A0 : Option Addr) (c0 : Nat) (l0 : List (List Int)) (a1_0 a1_1 a1_2 a1_3 a1_4 a1_5 : Int) (a1_6 : Bool) (a1_7 a1_8 a1_9 a2 a3 r1 r2 r3 r4 r5 r6 r7 r8 r9 : Int) (w : World) (hr0 : Kd.C (Kd.slice 23 (Kd.int .u64)) w A0 l0.length l0) (hc0 : l0.length ≤ c0) (h : resolve_other.f l0 a1_0 a1_1 a1_2 a1_3 a1_4 a1_5 a1_6 a1_7 a1_8 a1_9 a2 a3 = some (r1, r2, r3, r4, r5, r6, r7, r8, r9)) :
    Calls Tryd.prog 44 #[.slice A0 l0.length c0, .agg #[.int .i64 a1_0, .int .i64 a1_1, .int .i64 a1_2, .int .i64 a1_3, .int .i64 a1_4, .int .i64 a1_5, .bool a1_6, .int .i64 a1_7, .int .u32 a1_8, .int .u32 a1_9], .int .i64 a2, .int .i64 a3] w fun e w' => e = .returned (.tuple #[.agg #[.int .i64 r1, .int .i64 r2, .int .i64 r3, .int .i64 r4, .int .i64 r5, .int .i64 r6, .int .i64 r7, .int .i64 r8], .int .i64 r9]) ∧ Below w.heap.size w w' := by
  clear hr0 hc0
  have HB := Aside0.mk (Below.refl w.heap.size w)
  have H : ((pointer_IsCapability.f a1_0 a1_1 a1_2 a1_3 a1_4 a1_5 a1_6 a1_7 a1_8 a1_9).bind fun t392 => (if t392 = true then (some (0, 0, 0, 0, 0, 0, 0, 0, 6)) else (some (0, 0, 0, 0, 0, 0, 0, 0, 4)))) = some (r1, r2, r3, r4, r5, r6, r7, r8, r9) := h
  clear h
  replace H := Option.bind_eq_some_iff.mp H
  obtain ⟨t392, A50, H⟩ := H
  replace H : (if t392 = true then (some (0, 0, 0, 0, 0, 0, 0, 0, 6)) else (some (0, 0, 0, 0, 0, 0, 0, 0, 4))) = some (r1, r2, r3, r4, r5, r6, r7, r8, r9) := H
  have A5 := Aside0.mk A50
  clear A50
  by_cases c6 : t392 = true
  · subst c6
    have H1 : (some (0, 0, 0, 0, 0, 0, 0, 0, 6)) = some (r1, r2, r3, r4, r5, r6, r7, r8, r9) := by rw [if_pos rfl] at H; exact H
    clear H
    have H := H1
    clear H1
    simp only [Option.some.injEq, Prod.mk.injEq] at H
    obtain ⟨rfl, rfl, rfl, rfl, rfl, rfl, rfl, rfl, rfl⟩ := H
    go_enter Tryd.func44, Tryd.ntmps44
    go_wp2_with (first | ((with_reducible refine gate_dst (N := 5) rfl ?_); refine box_event ?hg (N := 5) ?hd (cs := #[.int .i64 a1_0, .int .i64 a1_1, .int .i64 a1_2, .int .i64 a1_3, .int .i64 a1_4, .int .i64 a1_5, .bool a1_6, .int .i64 a1_7, .int .u32 a1_8, .int .u32 a1_9]) (t := 39) ?hr ?_; (case hd => rfl); (case hg => rfl); (case hr => (go_simp; done)); intro gb390 hg w7 hbox hb; replace HB := Aside0.mk (below_step HB.out hb); replace BK390 := Aside0.mk (hbox); clear hb hbox hg) | ((with_reducible refine gate_dst (N := 8) rfl ?_); refine box_event ?hg (N := 8) ?hd (cs := #[.int .i64 0, .int .i64 0, .int .i64 0, .int .i64 0, .int .i64 0, .int .i64 0, .int .i64 0, .int .i64 0]) (t := 46) ?hr ?_; (case hd => rfl); (case hg => rfl); (case hr => (go_simp; done)); intro gb391 hg w8 hbox hb; replace BK390 := Aside0.mk (blk_below BK390.out hb); replace BK391 := Aside0.mk (hbox); replace GE391 := Aside0.mk (ge_of HB.out hg); replace HB := Aside0.mk (below_step HB.out hb); clear hb hbox hg; obtain ⟨hcz10_0, hcz10_1, hcz10_2, hcz10_3, hcz10_4, hcz10_5, hcz10_6, hcz10_7, hcz10_8, hcz10_9⟩ := cells10 BK390.out) | ((with_reducible refine gate_callee (f := 54) rfl ?_); refine goesL_ (some 11) rfl rfl Tryd.func54 (by kernel_rfl) rfl #[.agg #[.int .i64 a1_0, .int .i64 a1_1, .int .i64 a1_2, .int .i64 a1_3, .int .i64 a1_4, .int .i64 a1_5, .bool a1_6, .int .i64 a1_7, .int .u32 a1_8, .int .u32 a1_9]] rfl (by (try simp only [List.map_toArray, List.map_cons, List.map_nil]); rfl) ?_; (with_reducible refine (pointer_IsCapability.calls a1_0 a1_1 a1_2 a1_3 a1_4 a1_5 a1_6 a1_7 a1_8 a1_9 true _ A5.out).mono ?_); rintro e w11 ⟨rfl, hb⟩; refine ⟨_, rfl, ?_⟩; replace BK391 := Aside0.mk (blk_below BK391.out hb); replace HB := Aside0.mk (below_step HB.out hb); (try clear BK390); (try clear hb); obtain ⟨hcz12_0, hcz12_1, hcz12_2, hcz12_3, hcz12_4, hcz12_5, hcz12_6, hcz12_7⟩ := cells8 BK391.out; obtain ⟨hfz12_0, hfz12_1, hfz12_2, hfz12_3, hfz12_4, hfz12_5, hfz12_6, hfz12_7⟩ := frz8 BK391.out))
    refine bodyPost_ret (results_ct rfl _ _ gb391 46 #[.int .i64 0, .int .i64 0, .int .i64 0, .int .i64 0, .int .i64 0, .int .i64 0, .int .i64 0, .int .i64 0] (0, 0) _ rfl (by exact put8 BK391.out) Tryd.underlying46 rfl (by kernel_rfl)) rfl ?_
    exact ⟨by rfl, by repeat ((with_reducible first | exact HB.out | refine below_set ?_ GE391.out))⟩
  · replace c6 := Bool.eq_false_iff.mpr c6
    subst c6
    have H1 : (some (0, 0, 0, 0, 0, 0, 0, 0, 4)) = some (r1, r2, r3, r4, r5, r6, r7, r8, r9) := by rw [if_neg (show ¬ (false = true) by decide)] at H; exact H
    clear H
    have H := H1
    clear H1
    simp only [Option.some.injEq, Prod.mk.injEq] at H
    obtain ⟨rfl, rfl, rfl, rfl, rfl, rfl, rfl, rfl, rfl⟩ := H
    go_enter Tryd.func44, Tryd.ntmps44
    go_wp2_with (first | ((with_reducible refine gate_dst (N := 5) rfl ?_); refine box_event ?hg (N := 5) ?hd (cs := #[.int .i64 a1_0, .int .i64 a1_1, .int .i64 a1_2, .int .i64 a1_3, .int .i64 a1_4, .int .i64 a1_5, .bool a1_6, .int .i64 a1_7, .int .u32 a1_8, .int .u32 a1_9]) (t := 39) ?hr ?_; (case hd => rfl); (case hg => rfl); (case hr => (go_simp; done)); intro gb390 hg w13 hbox hb; replace HB := Aside0.mk (below_step HB.out hb); replace BK390 := Aside0.mk (hbox); clear hb hbox hg) | ((with_reducible refine gate_dst (N := 8) rfl ?_); refine box_event ?hg (N := 8) ?hd (cs := #[.int .i64 0, .int .i64 0, .int .i64 0, .int .i64 0, .int .i64 0, .int .i64 0, .int .i64 0, .int .i64 0]) (t := 46) ?hr ?_; (case hd => rfl); (case hg => rfl); (case hr => (go_simp; done)); intro gb391 hg w14 hbox hb; replace BK390 := Aside0.mk (blk_below BK390.out hb); replace BK391 := Aside0.mk (hbox); replace GE391 := Aside0.mk (ge_of HB.out hg); replace HB := Aside0.mk (below_step HB.out hb); clear hb hbox hg; obtain ⟨hcz16_0, hcz16_1, hcz16_2, hcz16_3, hcz16_4, hcz16_5, hcz16_6, hcz16_7, hcz16_8, hcz16_9⟩ := cells10 BK390.out) | ((with_reducible refine gate_callee (f := 54) rfl ?_); refine goesL_ (some 11) rfl rfl Tryd.func54 (by kernel_rfl) rfl #[.agg #[.int .i64 a1_0, .int .i64 a1_1, .int .i64 a1_2, .int .i64 a1_3, .int .i64 a1_4, .int .i64 a1_5, .bool a1_6, .int .i64 a1_7, .int .u32 a1_8, .int .u32 a1_9]] rfl (by (try simp only [List.map_toArray, List.map_cons, List.map_nil]); rfl) ?_; (with_reducible refine (pointer_IsCapability.calls a1_0 a1_1 a1_2 a1_3 a1_4 a1_5 a1_6 a1_7 a1_8 a1_9 false _ A5.out).mono ?_); rintro e w17 ⟨rfl, hb⟩; refine ⟨_, rfl, ?_⟩; replace BK391 := Aside0.mk (blk_below BK391.out hb); replace HB := Aside0.mk (below_step HB.out hb); (try clear BK390); (try clear hb); obtain ⟨hcz18_0, hcz18_1, hcz18_2, hcz18_3, hcz18_4, hcz18_5, hcz18_6, hcz18_7⟩ := cells8 BK391.out; obtain ⟨hfz18_0, hfz18_1, hfz18_2, hfz18_3, hfz18_4, hfz18_5, hfz18_6, hfz18_7⟩ := frz8 BK391.out))
    refine bodyPost_ret (results_ct rfl _ _ gb391 46 #[.int .i64 0, .int .i64 0, .int .i64 0, .int .i64 0, .int .i64 0, .int .i64 0, .int .i64 0, .int .i64 0] (0, 0) _ rfl (by exact put8 BK391.out) Tryd.underlying46 rfl (by kernel_rfl)) rfl ?_
    exact ⟨by rfl, by repeat ((with_reducible first | exact HB.out | refine below_set ?_ GE391.out))⟩

end Go.Proofs.YtcjhejopcghgnaaDoor.P

set_option linter.unusedVariables false
namespace Go.Proofs.YtcjhejopcghgnaaDoor.P
open Go.RowKit Go.Proofs.YtcjhejopcghgnaaDoorW.PrintWords Go.Proofs.YtcjhejopcghgnaaDoorW.PrintLast Go.Proofs.YtcjhejopcghgnaaDoorW.PrintMore
section
variable {α : Type} {d : Kd α} {W : World} {A : Option Addr} {n : Nat} {xs : List α}
theorem C_nil (d : Kd α) (W : World) (A : Option Addr) : d.C W A 0 [] := ⟨rfl, by decide, fun h => absurd h (by decide)⟩
theorem C_alloc (h : d.C W A n xs) (o : Obj) : d.C (W.alloc o) A n xs := Kd.C_below h (below_alloc (Below.refl _ _) o)
theorem C_drew (h : d.C W A n xs) : d.C W.drew A n xs := Kd.C_below h (below_drew (Below.refl _ _))
theorem C_drewN (h : d.C W A n xs) (m : Nat) : d.C (W.drewN m) A n xs := Kd.C_below h (pw_below_drewN (Below.refl _ _) m)
/-- A block that holds the list's cells reads as the list. -/
theorem C_blk {g : Nat} {cells : Array Value} {t : TypeId} (hb : W.heap[g]? = some (.cells cells t (0, 0))) (hr : Reps (d.K W) d.sz xs cells.toList) (hn : xs.length = n) (hl : n ≤ 9223372036854775807) : d.C W (some ⟨g, 0, none⟩) n xs := by
  subst hn
  refine ⟨rfl, hl, fun _ => ⟨_, rfl, fun j p hj => ?_⟩⟩
  have hjl : j < xs.length := (List.getElem?_eq_some_iff.1 hj).1
  have hle : (j + 1) * d.sz ≤ xs.length * d.sz := Nat.mul_le_mul_right _ (by omega)
  rw [Nat.add_mul, Nat.one_mul] at hle
  refine ⟨(cells.toList.drop (j * d.sz)).take d.sz, by rw [List.length_take, List.length_drop, hr.1]; omega, hr.2 j p hj, fun i u hu => ?_⟩
  rw [List.getElem?_take] at hu
  split at hu
  · rw [List.getElem?_drop, Array.getElem?_toList] at hu
    rw [add_plain, World.cell?, hb]
    simpa using hu
  · cases hu
theorem reps_nums (k : IntKind) : ∀ l : List Int, Reps ((Kd.int k).K W) 1 l (l.map fun x => .int k x)
  | [] => Reps.none _ _
  | x :: l => Reps.one rfl (reps_nums k l)
theorem C_ints {k : IntKind} {g : Nat} {t : TypeId} {l : List Int} {cells : Array Value} (hb : W.heap[g]? = some (.cells cells t (0, 0))) (hc : cells.toList = l.map fun x => .int k x) (hn : l.length = n) (hl : n ≤ 9223372036854775807) : (Kd.int k).C W (some ⟨g, 0, none⟩) n l :=
  C_blk hb (by rw [hc]; exact reps_nums k l) hn hl
end
end Go.Proofs.YtcjhejopcghgnaaDoor.P

set_option linter.unusedVariables false
namespace Go.Proofs.YtcjhejopcghgnaaDoor.P
open Go.RowKit Go.Proofs.YtcjhejopcghgnaaDoorW.PrintWords Go.Proofs.YtcjhejopcghgnaaDoorW.PrintLast Go.Proofs.YtcjhejopcghgnaaDoorW.PrintMore
/-- Old cells and old marks read as before. -/
theorem bcell {W w1 : World} (hb : Below W.heap.size W w1) : (∀ b o, b < W.heap.size → w1.cell? ⟨b, o, none⟩ = W.cell? ⟨b, o, none⟩) ∧ (∀ b o, b < W.heap.size → w1.frozen? ⟨b, o, none⟩ = W.frozen? ⟨b, o, none⟩) :=
  ⟨fun b o h => hb.cell (p := ⟨b, o, none⟩) h, fun b o h => hb.frozen (p := ⟨b, o, none⟩) h⟩
theorem c_alloc {w : World} {a : Addr} {v : Value} (h : w.cell? a = some v) (o : Obj) : (w.alloc o).cell? a = some v := pw_cell_below (below_alloc (Below.refl _ _) o) h
theorem c_drew {w : World} {a : Addr} {v : Value} (h : w.cell? a = some v) : w.drew.cell? a = some v := h
theorem c_far {w : World} {a p : Addr} {v : Value} (h : w.cell? a = some v) (hne : a.block ≠ p.block) (u : Value) : (w.setCell p u).cell? a = some v := (cell_far hne u).trans h
section
variable {α : Type} {d : Kd α} {W : World} {A : Option Addr} {n : Nat} {xs : List α}
/-- What is read, as what may be shared. -/
theorem V_of_C (hd : Kd.Heap d) {c : Nat} (hl : xs.length ≤ c) (hC : d.C W A xs.length xs) (e base : Nat) (ok : Nat → Prop) (hok : ∀ k, k < W.heap.size → ok k) : Kd.V d e W base ok (.slice A xs.length c) xs :=
  ⟨A, c, rfl, hl, fun W' hW => Kd.Heap.C hd (fun k hk => hW k (hok k hk) hk) hC⟩
/-- What was there at the begin, as what stays if that stays. -/
theorem F_of_base {w : World} (hd : Kd.Heap d) (hC : d.C w A n xs) (hb : Below w.heap.size w W) : Kd.F d W (fun b => b < w.heap.size) A n xs :=
  fun W' hW => Kd.Heap.C hd (fun k hk => (hW k hk (Nat.lt_of_lt_of_le hk hb.size)).trans (hb.block k hk)) hC
theorem V_read {e base : Nat} {ok : Nat → Prop} {v : Value} (h : Kd.V d e W base ok v xs) : ∃ A c, v = .slice A xs.length c ∧ xs.length ≤ c ∧ d.C W A xs.length xs := by
  obtain ⟨A, c, hv, hl, hF⟩ := h
  exact ⟨A, c, hv, hl, hF W (fun _ _ _ => rfl)⟩
end
end Go.Proofs.YtcjhejopcghgnaaDoor.P

namespace Go.Proofs.YtcjhejopcghgnaaDoor.P
open Go.RowKit Go.Proofs.YtcjhejopcghgnaaDoorW.PrintWords Go.Proofs.YtcjhejopcghgnaaDoorW.PrintLast Go.Proofs.YtcjhejopcghgnaaDoorW.PrintMore
attribute [local go_sem] max2_int min2_int max_two min_two max_three min_three max_four min_four   -- for this text's walks alone
set_option linter.unusedVariables false
set_option linter.unusedSimpArgs false

variable {gb : Bool}
/-! ### resolve_Object: function 24 -/
def resolve_Object.f (k : Nat) (l0 : List (List Int)) (a1 a2 : Int) : Option (Int × Int × Int × Int × Int × Int × Int × Int × Int) := (far_Follow.f l0 a1 a2).bind fun t => if t.2.2.2 = 0 then (if t.1 = 0 then some (0, 0, 0, 0, 0, 0, 0, 0, 0) else (pointer_Decode.f t.1).bind fun p => if p.1 = 0 then resolve_structure.f l0 p.1 p.2.1 p.2.2.1 p.2.2.2.1 p.2.2.2.2.1 p.2.2.2.2.2.1 p.2.2.2.2.2.2.1 p.2.2.2.2.2.2.2.1 p.2.2.2.2.2.2.2.2.1 p.2.2.2.2.2.2.2.2.2 t.2.1 (wrap64 (t.2.2.1 + p.2.1)) else if p.1 = 1 then resolve_list.f k l0 p.1 p.2.1 p.2.2.1 p.2.2.2.1 p.2.2.2.2.1 p.2.2.2.2.2.1 p.2.2.2.2.2.2.1 p.2.2.2.2.2.2.2.1 p.2.2.2.2.2.2.2.2.1 p.2.2.2.2.2.2.2.2.2 t.2.1 (wrap64 (t.2.2.1 + p.2.1)) else if p.1 = 2 then resolve_other.f l0 p.1 p.2.1 p.2.2.1 p.2.2.2.1 p.2.2.2.2.1 p.2.2.2.2.2.1 p.2.2.2.2.2.2.1 p.2.2.2.2.2.2.2.1 p.2.2.2.2.2.2.2.2.1 p.2.2.2.2.2.2.2.2.2 t.2.1 (wrap64 (t.2.2.1 + p.2.1)) else if p.1 = 3 then resolve_other.f l0 p.1 p.2.1 p.2.2.1 p.2.2.2.1 p.2.2.2.2.1 p.2.2.2.2.2.1 p.2.2.2.2.2.2.1 p.2.2.2.2.2.2.2.1 p.2.2.2.2.2.2.2.2.1 p.2.2.2.2.2.2.2.2.2 t.2.1 (wrap64 (t.2.2.1 + p.2.1)) else none) else some (0, 0, 0, 0, 0, 0, 0, 0, t.2.2.2)
theorem resolve_Object.mono : ∀ a0 a1 a2 k, LeO (resolve_Object.f k a0 a1 a2) (resolve_Object.f (k + 1) a0 a1 a2) := by
  intro a0 a1 a2 k r h
  unfold resolve_Object.f at h ⊢
  obtain ⟨t, ht, h⟩ := Option.bind_eq_some_iff.mp h
  rw [ht]
  simp only [Option.bind_some]
  split at h
  · rename_i c0
    rw [if_pos c0]
    split at h
    · rename_i c1
      rw [if_pos c1]
      exact h
    · rename_i c1
      rw [if_neg c1]
      obtain ⟨p, hp, h⟩ := Option.bind_eq_some_iff.mp h
      rw [hp]
      simp only [Option.bind_some]
      split at h
      · rename_i c2
        rw [if_pos c2]
        exact h
      · rename_i c2
        rw [if_neg c2]
        split at h
        · rename_i c3
          rw [if_pos c3]
          exact resolve_list.mono _ _ _ _ _ _ _ _ _ _ _ _ _ _ _ h
        · rename_i c3
          rw [if_neg c3]
          exact h
  · rename_i c0
    rw [if_neg c0]
    exact h
set_option maxHeartbeats 4000000 in
set_option maxRecDepth 100000 in
theorem resolve_Object.calls (k : Nat) (A0 : Option Addr) (c0 : Nat) (l0 : List (List Int)) (a1 a2 : Int) (r1 r2 r3 r4 r5 r6 r7 r8 r9 : Int) (w : World) (hG : Glob true w) (hr0 : Kd.C (Kd.slice 23 (Kd.int .u64)) w A0 l0.length l0) (hc0 : l0.length ≤ c0) (h : resolve_Object.f k l0 a1 a2 = some (r1, r2, r3, r4, r5, r6, r7, r8, r9)) :
    Calls Tryd.prog 24 #[.slice A0 l0.length c0, .int .i64 a1, .int .i64 a2] w fun e w' => e = .returned (.tuple #[.agg #[.int .i64 r1, .int .i64 r2, .int .i64 r3, .int .i64 r4, .int .i64 r5, .int .i64 r6, .int .i64 r7, .int .i64 r8], .int .i64 r9]) ∧ Below w.heap.size w w' := by
  unfold resolve_Object.f at h
  obtain ⟨⟨x, ts, ta, te⟩, ht, h⟩ := Option.bind_eq_some_iff.mp h
  dsimp only at h
  have HT := Aside0.mk ht
  have HC_s := Aside0.mk hr0
  have H0 := Aside0.mk hc0
  clear ht hr0 hc0
  have HG := Aside0.mk hG
  have HB := Aside0.mk (Below.refl w.heap.size w)
  clear hG
  by_cases he : te = 0
  · subst he
    rw [if_pos rfl] at h
    by_cases hx : x = 0
    · subst hx
      simp only [if_true, Option.some.injEq, Prod.mk.injEq] at h
      obtain ⟨rfl, rfl, rfl, rfl, rfl, rfl, rfl, rfl, rfl⟩ := h
      go_enter Tryd.func24, Tryd.ntmps24
      go_wp2_with fail
      have GE_o : Aside0 (w.heap.size ≤ w.heap.size) := ⟨by have := HB.out.size; exact this⟩
      refine (far_Follow.calls (gb := true) _ _ _ _ _ _ _ _ _ _ (HG.out.below (by with_reducible repeat (first | exact HB.out | apply below_alloc))) (Kd.C_below HC_s.out (by with_reducible repeat (first | exact HB.out | apply below_alloc))) H0.out HT.out).mono ?_
      rintro e w1 ⟨rfl, hb⟩
      have nB := Aside0.mk (below_step (by with_reducible repeat (first | exact HB.out | apply below_alloc)) hb)
      have nX_o := Aside0.mk (blk_below (g := w.heap.size) (by with_reducible repeat ((apply blk_newN; rfl))) hb)
      clear HB 
      have HB := nB
      clear nB
      have HX_o := nX_o
      clear nX_o
      clear hb
      go_wp2_with fail
      refine (pointer_IsNull.calls 0 true _ (show pointer_IsNull.f 0 = some true from rfl)).mono ?_
      rintro e w2 ⟨rfl, hd⟩
      have hb := hd.below
      clear hd
      have nB := Aside0.mk (below_step (by with_reducible repeat (exact HB.out)) hb)
      have nX_o := Aside0.mk (blk_below (g := w.heap.size) (by with_reducible repeat (exact HX_o.out)) hb)
      (try clear HB; try clear HX_o; try clear cs_o; try clear fr_o; try clear lt_o)
      have HB := nB
      clear nB
      have HX_o := nX_o
      clear nX_o
      have cs_o : ∀ i, w2.cell? ⟨w.heap.size, i, none⟩ = _ := fun i => blk_cell HX_o.out i
      have fr_o : ∀ i, w2.frozen? ⟨w.heap.size, i, none⟩ = false := fun i => blk_frozen HX_o.out i
      clear hb
      go_wp2
      refine bodyPost_ret (results_ct rfl _ _ w.heap.size 46 #[.int .i64 0, .int .i64 0, .int .i64 0, .int .i64 0, .int .i64 0, .int .i64 0, .int .i64 0, .int .i64 0] (0, 0) _ rfl (by exact put8 HX_o.out) Tryd.underlying46 rfl (by kernel_rfl)) rfl ?_
      refine ⟨rfl, ?_⟩
      exact (by with_reducible repeat (first | exact HB.out | refine below_set ?_ GE_o.out))
    rw [if_neg hx] at h
    have hx0 : (x == 0) = false := beq_eq_false_iff_ne.mpr hx
    obtain ⟨⟨p1, p2, p3, p4, p5, p6, p7, p8, p9, p10⟩, hp, h⟩ := Option.bind_eq_some_iff.mp h
    dsimp only at h
    have HP := Aside0.mk hp
    clear hp
    rw [show wrap64 (ta + p2) = IntKind.i64.wrap (ta + p2) by rw [IntKind.wrap_i64, wrap64]] at h
    by_cases c1 : p1 = 0
    · subst c1
      rw [if_pos rfl] at h
      have HR := Aside0.mk h
      clear h
      go_enter Tryd.func24, Tryd.ntmps24
      go_wp2_with fail
      have GE_o : Aside0 (w.heap.size ≤ w.heap.size) := ⟨by have := HB.out.size; exact this⟩
      refine (far_Follow.calls (gb := true) _ _ _ _ _ _ _ _ _ _ (HG.out.below (by with_reducible repeat (first | exact HB.out | apply below_alloc))) (Kd.C_below HC_s.out (by with_reducible repeat (first | exact HB.out | apply below_alloc))) H0.out HT.out).mono ?_
      rintro e w1 ⟨rfl, hb⟩
      have nB := Aside0.mk (below_step (by with_reducible repeat (first | exact HB.out | apply below_alloc)) hb)
      have nX_o := Aside0.mk (blk_below (g := w.heap.size) (by with_reducible repeat ((apply blk_newN; rfl))) hb)
      clear HB 
      have HB := nB
      clear nB
      have HX_o := nX_o
      clear nX_o
      clear hb
      go_wp2_with fail
      refine (pointer_IsNull.calls x false _ (show pointer_IsNull.f x = some false from congrArg some hx0)).mono ?_
      rintro e w2 ⟨rfl, hd⟩
      have hb := hd.below
      clear hd
      have nB := Aside0.mk (below_step (by with_reducible repeat (exact HB.out)) hb)
      have nX_o := Aside0.mk (blk_below (g := w.heap.size) (by with_reducible repeat (exact HX_o.out)) hb)
      (try clear HB; try clear HX_o; try clear cs_o; try clear fr_o; try clear lt_o)
      have HB := nB
      clear nB
      have HX_o := nX_o
      clear nX_o
      clear hb
      go_wp2_with fail
      refine (pointer_Decode.calls (gb := true) _ _ _ _ _ _ _ _ _ _ _ _ (HG.out.below (by with_reducible repeat (exact HB.out))) HP.out).mono ?_
      rintro e w3 ⟨rfl, hb⟩
      have nB := Aside0.mk (below_step (by with_reducible repeat (exact HB.out)) hb)
      have nX_o := Aside0.mk (blk_below (g := w.heap.size) (by with_reducible repeat (exact HX_o.out)) hb)
      (try clear HB; try clear HX_o; try clear cs_o; try clear fr_o; try clear lt_o)
      have HB := nB
      clear nB
      have HX_o := nX_o
      clear nX_o
      have lt_o := lt_of_block HX_o.out
      clear hb
      go_wp2_with fail
      have e0 : ((w3.alloc (.cells #[.int .i64 0, .int .i64 p2, .int .i64 p3, .int .i64 p4, .int .i64 p5, .int .i64 p6, .bool p7, .int .i64 p8, .int .u32 p9, .int .u32 p10] 39)).alloc (.cells #[.func (.func 42) #[] #[], .func (.func 43) #[] #[], .func (.func 44) #[] #[], .func (.func 44) #[] #[]] 68)).heap[w3.heap.size]? = some (.cells #[.int .i64 0, .int .i64 p2, .int .i64 p3, .int .i64 p4, .int .i64 p5, .int .i64 p6, .bool p7, .int .i64 p8, .int .u32 p9, .int .u32 p10] 39 (0, 0)) := by repeat (first | (apply blk_newN; rfl) | apply blk_alloc)
      have e1 : ((w3.alloc (.cells #[.int .i64 0, .int .i64 p2, .int .i64 p3, .int .i64 p4, .int .i64 p5, .int .i64 p6, .bool p7, .int .i64 p8, .int .u32 p9, .int .u32 p10] 39)).alloc (.cells #[.func (.func 42) #[] #[], .func (.func 43) #[] #[], .func (.func 44) #[] #[], .func (.func 44) #[] #[]] 68)).heap[w3.heap.size + 1]? = some (.cells #[.func (.func 42) #[] #[], .func (.func 43) #[] #[], .func (.func 44) #[] #[], .func (.func 44) #[] #[]] 68 (0, 0)) := by repeat ((apply blk_newN; (simp; done)))
      have hb9 : Below w3.heap.size w3 ((w3.alloc (.cells #[.int .i64 0, .int .i64 p2, .int .i64 p3, .int .i64 p4, .int .i64 p5, .int .i64 p6, .bool p7, .int .i64 p8, .int .u32 p9, .int .u32 p10] 39)).alloc (.cells #[.func (.func 42) #[] #[], .func (.func 43) #[] #[], .func (.func 44) #[] #[], .func (.func 44) #[] #[]] 68)) := by repeat (first | exact Below.refl _ _ | apply below_alloc)
      have NE_p_o : Aside0 (w3.heap.size ≠ w.heap.size) := ⟨by omega⟩
      have NE_q_o : Aside0 (w3.heap.size + 1 ≠ w.heap.size) := ⟨by omega⟩
      generalize ((w3.alloc (.cells #[.int .i64 0, .int .i64 p2, .int .i64 p3, .int .i64 p4, .int .i64 p5, .int .i64 p6, .bool p7, .int .i64 p8, .int .u32 p9, .int .u32 p10] 39)).alloc (.cells #[.func (.func 42) #[] #[], .func (.func 43) #[] #[], .func (.func 44) #[] #[], .func (.func 44) #[] #[]] 68)) = w4 at e0 e1 hb9 ⊢
      have nB := Aside0.mk (below_step (by with_reducible repeat (exact HB.out)) hb9)
      have nX_o := Aside0.mk (blk_below (g := w.heap.size) (by with_reducible repeat (exact HX_o.out)) hb9)
      (try clear HB; try clear HX_o; try clear cs_o; try clear fr_o; try clear lt_o)
      have HB := nB
      clear nB
      have HX_o := nX_o
      clear nX_o
      have HX_p := Aside0.mk e0
      have HX_q := Aside0.mk e1
      clear hb9 e0 e1
      go_region_held3 (fun w' => Below w.heap.size w w' ∧ w'.heap[w3.heap.size]? = some (.cells #[.int .i64 0, .int .i64 p2, .int .i64 p3, .int .i64 p4, .int .i64 p5, .int .i64 p6, .bool p7, .int .i64 p8, .int .u32 p9, .int .u32 p10] 39 (0, 0)) ∧ (∀ i, w'.cell? ⟨w3.heap.size, i, none⟩ = (#[.int .i64 0, .int .i64 p2, .int .i64 p3, .int .i64 p4, .int .i64 p5, .int .i64 p6, .bool p7, .int .i64 p8, .int .u32 p9, .int .u32 p10] : Array Value)[i]?) ∧ w'.heap[w3.heap.size + 1]? = some (.cells #[.func (.func 42) #[] #[], .func (.func 43) #[] #[], .func (.func 44) #[] #[], .func (.func 44) #[] #[]] 68 (0, 0)) ∧ (∀ i, w'.cell? ⟨w3.heap.size + 1, i, none⟩ = (#[.func (.func 42) #[] #[], .func (.func 43) #[] #[], .func (.func 44) #[] #[], .func (.func 44) #[] #[]] : Array Value)[i]?)) (first | with_reducible exact ⟨HB.out, HX_p.out, cs_p, HX_q.out, cs_q⟩ | exact ⟨(by with_reducible repeat (first | exact HB.out | apply below_drew1 | refine below_set ?_ GE_o.out)), (by with_reducible repeat (first | exact HX_p.out | apply blk_drew | refine blk_far ?_ NE_p_o.out _)), fun i => blk_cell (g := w3.heap.size) (by with_reducible repeat (first | exact HX_p.out | apply blk_drew | refine blk_far ?_ NE_p_o.out _)) i, (by with_reducible repeat (first | exact HX_q.out | apply blk_drew | refine blk_far ?_ NE_q_o.out _)), fun i => blk_cell (g := w3.heap.size + 1) (by with_reducible repeat (first | exact HX_q.out | apply blk_drew | refine blk_far ?_ NE_q_o.out _)) i⟩) ((go_at_call 42; (with_reducible refine (resolve_structure.calls _ _ _ 0 p2 p3 p4 p5 p6 p7 p8 p9 p10 _ _ _ _ _ _ _ _ _ _ _ _ (Kd.C_below HC_s.out (by with_reducible repeat (first | exact HB.out | apply below_drew1))) H0.out HR.out).mono ?_); rintro e w9 ⟨rfl, hb⟩; (have nB := Aside0.mk (below_step (by with_reducible repeat (first | exact HB.out | apply below_drew1)) hb)); (have nX_o := Aside0.mk (blk_below (g := w.heap.size) (by with_reducible repeat (first | exact HX_o.out | apply blk_drew)) hb)); (have nX_p := Aside0.mk (blk_below (g := w3.heap.size) (by with_reducible repeat (first | exact HX_p.out | apply blk_drew)) hb)); (have nX_q := Aside0.mk (blk_below (g := w3.heap.size + 1) (by with_reducible repeat (first | exact HX_q.out | apply blk_drew)) hb)); (try clear HB; try clear HX_o; try clear cs_o; try clear fr_o; try clear lt_o; try clear HX_p; try clear cs_p; try clear fr_p; try clear lt_p; try clear HX_q; try clear cs_q; try clear fr_q; try clear lt_q); (have HB := nB); clear nB; (have HX_o := nX_o); clear nX_o; (have cs_o : ∀ i, w9.cell? ⟨w.heap.size, i, none⟩ = _ := fun i => blk_cell HX_o.out i); (have fr_o : ∀ i, w9.frozen? ⟨w.heap.size, i, none⟩ = false := fun i => blk_frozen HX_o.out i); (have HX_p := nX_p); clear nX_p; (have cs_p : ∀ i, w9.cell? ⟨w3.heap.size, i, none⟩ = _ := fun i => blk_cell HX_p.out i); (have HX_q := nX_q); clear nX_q; (have cs_q : ∀ i, w9.cell? ⟨w3.heap.size + 1, i, none⟩ = _ := fun i => blk_cell HX_q.out i); clear hb))
      go_wp2
      refine bodyPost_ret (results_ct rfl _ _ w.heap.size 46 #[.int .i64 r1, .int .i64 r2, .int .i64 r3, .int .i64 r4, .int .i64 r5, .int .i64 r6, .int .i64 r7, .int .i64 r8] (0, 0) _ rfl (by exact put8 HX_o.out) Tryd.underlying46 rfl (by kernel_rfl)) rfl ?_
      refine ⟨rfl, ?_⟩
      exact (by with_reducible repeat (first | exact HB.out | refine below_set ?_ GE_o.out))
    rw [if_neg c1] at h
    by_cases c2 : p1 = 1
    · subst c2
      rw [if_pos rfl] at h
      have HR := Aside0.mk h
      clear h
      go_enter Tryd.func24, Tryd.ntmps24
      go_wp2_with fail
      have GE_o : Aside0 (w.heap.size ≤ w.heap.size) := ⟨by have := HB.out.size; exact this⟩
      refine (far_Follow.calls (gb := true) _ _ _ _ _ _ _ _ _ _ (HG.out.below (by with_reducible repeat (first | exact HB.out | apply below_alloc))) (Kd.C_below HC_s.out (by with_reducible repeat (first | exact HB.out | apply below_alloc))) H0.out HT.out).mono ?_
      rintro e w1 ⟨rfl, hb⟩
      have nB := Aside0.mk (below_step (by with_reducible repeat (first | exact HB.out | apply below_alloc)) hb)
      have nX_o := Aside0.mk (blk_below (g := w.heap.size) (by with_reducible repeat ((apply blk_newN; rfl))) hb)
      clear HB 
      have HB := nB
      clear nB
      have HX_o := nX_o
      clear nX_o
      clear hb
      go_wp2_with fail
      refine (pointer_IsNull.calls x false _ (show pointer_IsNull.f x = some false from congrArg some hx0)).mono ?_
      rintro e w2 ⟨rfl, hd⟩
      have hb := hd.below
      clear hd
      have nB := Aside0.mk (below_step (by with_reducible repeat (exact HB.out)) hb)
      have nX_o := Aside0.mk (blk_below (g := w.heap.size) (by with_reducible repeat (exact HX_o.out)) hb)
      (try clear HB; try clear HX_o; try clear cs_o; try clear fr_o; try clear lt_o)
      have HB := nB
      clear nB
      have HX_o := nX_o
      clear nX_o
      clear hb
      go_wp2_with fail
      refine (pointer_Decode.calls (gb := true) _ _ _ _ _ _ _ _ _ _ _ _ (HG.out.below (by with_reducible repeat (exact HB.out))) HP.out).mono ?_
      rintro e w3 ⟨rfl, hb⟩
      have nB := Aside0.mk (below_step (by with_reducible repeat (exact HB.out)) hb)
      have nX_o := Aside0.mk (blk_below (g := w.heap.size) (by with_reducible repeat (exact HX_o.out)) hb)
      (try clear HB; try clear HX_o; try clear cs_o; try clear fr_o; try clear lt_o)
      have HB := nB
      clear nB
      have HX_o := nX_o
      clear nX_o
      have lt_o := lt_of_block HX_o.out
      clear hb
      go_wp2_with fail
      have e0 : ((w3.alloc (.cells #[.int .i64 1, .int .i64 p2, .int .i64 p3, .int .i64 p4, .int .i64 p5, .int .i64 p6, .bool p7, .int .i64 p8, .int .u32 p9, .int .u32 p10] 39)).alloc (.cells #[.func (.func 42) #[] #[], .func (.func 43) #[] #[], .func (.func 44) #[] #[], .func (.func 44) #[] #[]] 68)).heap[w3.heap.size]? = some (.cells #[.int .i64 1, .int .i64 p2, .int .i64 p3, .int .i64 p4, .int .i64 p5, .int .i64 p6, .bool p7, .int .i64 p8, .int .u32 p9, .int .u32 p10] 39 (0, 0)) := by repeat (first | (apply blk_newN; rfl) | apply blk_alloc)
      have e1 : ((w3.alloc (.cells #[.int .i64 1, .int .i64 p2, .int .i64 p3, .int .i64 p4, .int .i64 p5, .int .i64 p6, .bool p7, .int .i64 p8, .int .u32 p9, .int .u32 p10] 39)).alloc (.cells #[.func (.func 42) #[] #[], .func (.func 43) #[] #[], .func (.func 44) #[] #[], .func (.func 44) #[] #[]] 68)).heap[w3.heap.size + 1]? = some (.cells #[.func (.func 42) #[] #[], .func (.func 43) #[] #[], .func (.func 44) #[] #[], .func (.func 44) #[] #[]] 68 (0, 0)) := by repeat ((apply blk_newN; (simp; done)))
      have hb9 : Below w3.heap.size w3 ((w3.alloc (.cells #[.int .i64 1, .int .i64 p2, .int .i64 p3, .int .i64 p4, .int .i64 p5, .int .i64 p6, .bool p7, .int .i64 p8, .int .u32 p9, .int .u32 p10] 39)).alloc (.cells #[.func (.func 42) #[] #[], .func (.func 43) #[] #[], .func (.func 44) #[] #[], .func (.func 44) #[] #[]] 68)) := by repeat (first | exact Below.refl _ _ | apply below_alloc)
      have NE_p_o : Aside0 (w3.heap.size ≠ w.heap.size) := ⟨by omega⟩
      have NE_q_o : Aside0 (w3.heap.size + 1 ≠ w.heap.size) := ⟨by omega⟩
      generalize ((w3.alloc (.cells #[.int .i64 1, .int .i64 p2, .int .i64 p3, .int .i64 p4, .int .i64 p5, .int .i64 p6, .bool p7, .int .i64 p8, .int .u32 p9, .int .u32 p10] 39)).alloc (.cells #[.func (.func 42) #[] #[], .func (.func 43) #[] #[], .func (.func 44) #[] #[], .func (.func 44) #[] #[]] 68)) = w4 at e0 e1 hb9 ⊢
      have nB := Aside0.mk (below_step (by with_reducible repeat (exact HB.out)) hb9)
      have nX_o := Aside0.mk (blk_below (g := w.heap.size) (by with_reducible repeat (exact HX_o.out)) hb9)
      (try clear HB; try clear HX_o; try clear cs_o; try clear fr_o; try clear lt_o)
      have HB := nB
      clear nB
      have HX_o := nX_o
      clear nX_o
      have HX_p := Aside0.mk e0
      have HX_q := Aside0.mk e1
      clear hb9 e0 e1
      go_region_held3 (fun w' => Below w.heap.size w w' ∧ w'.heap[w3.heap.size]? = some (.cells #[.int .i64 1, .int .i64 p2, .int .i64 p3, .int .i64 p4, .int .i64 p5, .int .i64 p6, .bool p7, .int .i64 p8, .int .u32 p9, .int .u32 p10] 39 (0, 0)) ∧ (∀ i, w'.cell? ⟨w3.heap.size, i, none⟩ = (#[.int .i64 1, .int .i64 p2, .int .i64 p3, .int .i64 p4, .int .i64 p5, .int .i64 p6, .bool p7, .int .i64 p8, .int .u32 p9, .int .u32 p10] : Array Value)[i]?) ∧ w'.heap[w3.heap.size + 1]? = some (.cells #[.func (.func 42) #[] #[], .func (.func 43) #[] #[], .func (.func 44) #[] #[], .func (.func 44) #[] #[]] 68 (0, 0)) ∧ (∀ i, w'.cell? ⟨w3.heap.size + 1, i, none⟩ = (#[.func (.func 42) #[] #[], .func (.func 43) #[] #[], .func (.func 44) #[] #[], .func (.func 44) #[] #[]] : Array Value)[i]?)) (first | with_reducible exact ⟨HB.out, HX_p.out, cs_p, HX_q.out, cs_q⟩ | exact ⟨(by with_reducible repeat (first | exact HB.out | apply below_drew1 | refine below_set ?_ GE_o.out)), (by with_reducible repeat (first | exact HX_p.out | apply blk_drew | refine blk_far ?_ NE_p_o.out _)), fun i => blk_cell (g := w3.heap.size) (by with_reducible repeat (first | exact HX_p.out | apply blk_drew | refine blk_far ?_ NE_p_o.out _)) i, (by with_reducible repeat (first | exact HX_q.out | apply blk_drew | refine blk_far ?_ NE_q_o.out _)), fun i => blk_cell (g := w3.heap.size + 1) (by with_reducible repeat (first | exact HX_q.out | apply blk_drew | refine blk_far ?_ NE_q_o.out _)) i⟩) ((go_at_call 43; (with_reducible refine (resolve_list.calls k _ _ _ 1 p2 p3 p4 p5 p6 p7 p8 p9 p10 _ _ _ _ _ _ _ _ _ _ _ _ (HG.out.below (by with_reducible repeat (first | exact HB.out | apply below_drew1))) (Kd.C_below HC_s.out (by with_reducible repeat (first | exact HB.out | apply below_drew1))) H0.out HR.out).mono ?_); rintro e w9 ⟨rfl, hb⟩; (have nB := Aside0.mk (below_step (by with_reducible repeat (first | exact HB.out | apply below_drew1)) hb)); (have nX_o := Aside0.mk (blk_below (g := w.heap.size) (by with_reducible repeat (first | exact HX_o.out | apply blk_drew)) hb)); (have nX_p := Aside0.mk (blk_below (g := w3.heap.size) (by with_reducible repeat (first | exact HX_p.out | apply blk_drew)) hb)); (have nX_q := Aside0.mk (blk_below (g := w3.heap.size + 1) (by with_reducible repeat (first | exact HX_q.out | apply blk_drew)) hb)); (try clear HB; try clear HX_o; try clear cs_o; try clear fr_o; try clear lt_o; try clear HX_p; try clear cs_p; try clear fr_p; try clear lt_p; try clear HX_q; try clear cs_q; try clear fr_q; try clear lt_q); (have HB := nB); clear nB; (have HX_o := nX_o); clear nX_o; (have cs_o : ∀ i, w9.cell? ⟨w.heap.size, i, none⟩ = _ := fun i => blk_cell HX_o.out i); (have fr_o : ∀ i, w9.frozen? ⟨w.heap.size, i, none⟩ = false := fun i => blk_frozen HX_o.out i); (have HX_p := nX_p); clear nX_p; (have cs_p : ∀ i, w9.cell? ⟨w3.heap.size, i, none⟩ = _ := fun i => blk_cell HX_p.out i); (have HX_q := nX_q); clear nX_q; (have cs_q : ∀ i, w9.cell? ⟨w3.heap.size + 1, i, none⟩ = _ := fun i => blk_cell HX_q.out i); clear hb))
      go_wp2
      refine bodyPost_ret (results_ct rfl _ _ w.heap.size 46 #[.int .i64 r1, .int .i64 r2, .int .i64 r3, .int .i64 r4, .int .i64 r5, .int .i64 r6, .int .i64 r7, .int .i64 r8] (0, 0) _ rfl (by exact put8 HX_o.out) Tryd.underlying46 rfl (by kernel_rfl)) rfl ?_
      refine ⟨rfl, ?_⟩
      exact (by with_reducible repeat (first | exact HB.out | refine below_set ?_ GE_o.out))
    rw [if_neg c2] at h
    by_cases c3 : p1 = 2
    · subst c3
      rw [if_pos rfl] at h
      have HR := Aside0.mk h
      clear h
      go_enter Tryd.func24, Tryd.ntmps24
      go_wp2_with fail
      have GE_o : Aside0 (w.heap.size ≤ w.heap.size) := ⟨by have := HB.out.size; exact this⟩
      refine (far_Follow.calls (gb := true) _ _ _ _ _ _ _ _ _ _ (HG.out.below (by with_reducible repeat (first | exact HB.out | apply below_alloc))) (Kd.C_below HC_s.out (by with_reducible repeat (first | exact HB.out | apply below_alloc))) H0.out HT.out).mono ?_
      rintro e w1 ⟨rfl, hb⟩
      have nB := Aside0.mk (below_step (by with_reducible repeat (first | exact HB.out | apply below_alloc)) hb)
      have nX_o := Aside0.mk (blk_below (g := w.heap.size) (by with_reducible repeat ((apply blk_newN; rfl))) hb)
      clear HB 
      have HB := nB
      clear nB
      have HX_o := nX_o
      clear nX_o
      clear hb
      go_wp2_with fail
      refine (pointer_IsNull.calls x false _ (show pointer_IsNull.f x = some false from congrArg some hx0)).mono ?_
      rintro e w2 ⟨rfl, hd⟩
      have hb := hd.below
      clear hd
      have nB := Aside0.mk (below_step (by with_reducible repeat (exact HB.out)) hb)
      have nX_o := Aside0.mk (blk_below (g := w.heap.size) (by with_reducible repeat (exact HX_o.out)) hb)
      (try clear HB; try clear HX_o; try clear cs_o; try clear fr_o; try clear lt_o)
      have HB := nB
      clear nB
      have HX_o := nX_o
      clear nX_o
      clear hb
      go_wp2_with fail
      refine (pointer_Decode.calls (gb := true) _ _ _ _ _ _ _ _ _ _ _ _ (HG.out.below (by with_reducible repeat (exact HB.out))) HP.out).mono ?_
      rintro e w3 ⟨rfl, hb⟩
      have nB := Aside0.mk (below_step (by with_reducible repeat (exact HB.out)) hb)
      have nX_o := Aside0.mk (blk_below (g := w.heap.size) (by with_reducible repeat (exact HX_o.out)) hb)
      (try clear HB; try clear HX_o; try clear cs_o; try clear fr_o; try clear lt_o)
      have HB := nB
      clear nB
      have HX_o := nX_o
      clear nX_o
      have lt_o := lt_of_block HX_o.out
      clear hb
      go_wp2_with fail
      have e0 : ((w3.alloc (.cells #[.int .i64 2, .int .i64 p2, .int .i64 p3, .int .i64 p4, .int .i64 p5, .int .i64 p6, .bool p7, .int .i64 p8, .int .u32 p9, .int .u32 p10] 39)).alloc (.cells #[.func (.func 42) #[] #[], .func (.func 43) #[] #[], .func (.func 44) #[] #[], .func (.func 44) #[] #[]] 68)).heap[w3.heap.size]? = some (.cells #[.int .i64 2, .int .i64 p2, .int .i64 p3, .int .i64 p4, .int .i64 p5, .int .i64 p6, .bool p7, .int .i64 p8, .int .u32 p9, .int .u32 p10] 39 (0, 0)) := by repeat (first | (apply blk_newN; rfl) | apply blk_alloc)
      have e1 : ((w3.alloc (.cells #[.int .i64 2, .int .i64 p2, .int .i64 p3, .int .i64 p4, .int .i64 p5, .int .i64 p6, .bool p7, .int .i64 p8, .int .u32 p9, .int .u32 p10] 39)).alloc (.cells #[.func (.func 42) #[] #[], .func (.func 43) #[] #[], .func (.func 44) #[] #[], .func (.func 44) #[] #[]] 68)).heap[w3.heap.size + 1]? = some (.cells #[.func (.func 42) #[] #[], .func (.func 43) #[] #[], .func (.func 44) #[] #[], .func (.func 44) #[] #[]] 68 (0, 0)) := by repeat ((apply blk_newN; (simp; done)))
      have hb9 : Below w3.heap.size w3 ((w3.alloc (.cells #[.int .i64 2, .int .i64 p2, .int .i64 p3, .int .i64 p4, .int .i64 p5, .int .i64 p6, .bool p7, .int .i64 p8, .int .u32 p9, .int .u32 p10] 39)).alloc (.cells #[.func (.func 42) #[] #[], .func (.func 43) #[] #[], .func (.func 44) #[] #[], .func (.func 44) #[] #[]] 68)) := by repeat (first | exact Below.refl _ _ | apply below_alloc)
      have NE_p_o : Aside0 (w3.heap.size ≠ w.heap.size) := ⟨by omega⟩
      have NE_q_o : Aside0 (w3.heap.size + 1 ≠ w.heap.size) := ⟨by omega⟩
      generalize ((w3.alloc (.cells #[.int .i64 2, .int .i64 p2, .int .i64 p3, .int .i64 p4, .int .i64 p5, .int .i64 p6, .bool p7, .int .i64 p8, .int .u32 p9, .int .u32 p10] 39)).alloc (.cells #[.func (.func 42) #[] #[], .func (.func 43) #[] #[], .func (.func 44) #[] #[], .func (.func 44) #[] #[]] 68)) = w4 at e0 e1 hb9 ⊢
      have nB := Aside0.mk (below_step (by with_reducible repeat (exact HB.out)) hb9)
      have nX_o := Aside0.mk (blk_below (g := w.heap.size) (by with_reducible repeat (exact HX_o.out)) hb9)
      (try clear HB; try clear HX_o; try clear cs_o; try clear fr_o; try clear lt_o)
      have HB := nB
      clear nB
      have HX_o := nX_o
      clear nX_o
      have HX_p := Aside0.mk e0
      have HX_q := Aside0.mk e1
      clear hb9 e0 e1
      go_region_held3 (fun w' => Below w.heap.size w w' ∧ w'.heap[w3.heap.size]? = some (.cells #[.int .i64 2, .int .i64 p2, .int .i64 p3, .int .i64 p4, .int .i64 p5, .int .i64 p6, .bool p7, .int .i64 p8, .int .u32 p9, .int .u32 p10] 39 (0, 0)) ∧ (∀ i, w'.cell? ⟨w3.heap.size, i, none⟩ = (#[.int .i64 2, .int .i64 p2, .int .i64 p3, .int .i64 p4, .int .i64 p5, .int .i64 p6, .bool p7, .int .i64 p8, .int .u32 p9, .int .u32 p10] : Array Value)[i]?) ∧ w'.heap[w3.heap.size + 1]? = some (.cells #[.func (.func 42) #[] #[], .func (.func 43) #[] #[], .func (.func 44) #[] #[], .func (.func 44) #[] #[]] 68 (0, 0)) ∧ (∀ i, w'.cell? ⟨w3.heap.size + 1, i, none⟩ = (#[.func (.func 42) #[] #[], .func (.func 43) #[] #[], .func (.func 44) #[] #[], .func (.func 44) #[] #[]] : Array Value)[i]?)) (first | with_reducible exact ⟨HB.out, HX_p.out, cs_p, HX_q.out, cs_q⟩ | exact ⟨(by with_reducible repeat (first | exact HB.out | apply below_drew1 | refine below_set ?_ GE_o.out)), (by with_reducible repeat (first | exact HX_p.out | apply blk_drew | refine blk_far ?_ NE_p_o.out _)), fun i => blk_cell (g := w3.heap.size) (by with_reducible repeat (first | exact HX_p.out | apply blk_drew | refine blk_far ?_ NE_p_o.out _)) i, (by with_reducible repeat (first | exact HX_q.out | apply blk_drew | refine blk_far ?_ NE_q_o.out _)), fun i => blk_cell (g := w3.heap.size + 1) (by with_reducible repeat (first | exact HX_q.out | apply blk_drew | refine blk_far ?_ NE_q_o.out _)) i⟩) ((go_at_call 44; (with_reducible refine (resolve_other.calls _ _ _ 2 p2 p3 p4 p5 p6 p7 p8 p9 p10 _ _ _ _ _ _ _ _ _ _ _ _ (Kd.C_below HC_s.out (by with_reducible repeat (first | exact HB.out | apply below_drew1))) H0.out HR.out).mono ?_); rintro e w9 ⟨rfl, hb⟩; (have nB := Aside0.mk (below_step (by with_reducible repeat (first | exact HB.out | apply below_drew1)) hb)); (have nX_o := Aside0.mk (blk_below (g := w.heap.size) (by with_reducible repeat (first | exact HX_o.out | apply blk_drew)) hb)); (have nX_p := Aside0.mk (blk_below (g := w3.heap.size) (by with_reducible repeat (first | exact HX_p.out | apply blk_drew)) hb)); (have nX_q := Aside0.mk (blk_below (g := w3.heap.size + 1) (by with_reducible repeat (first | exact HX_q.out | apply blk_drew)) hb)); (try clear HB; try clear HX_o; try clear cs_o; try clear fr_o; try clear lt_o; try clear HX_p; try clear cs_p; try clear fr_p; try clear lt_p; try clear HX_q; try clear cs_q; try clear fr_q; try clear lt_q); (have HB := nB); clear nB; (have HX_o := nX_o); clear nX_o; (have cs_o : ∀ i, w9.cell? ⟨w.heap.size, i, none⟩ = _ := fun i => blk_cell HX_o.out i); (have fr_o : ∀ i, w9.frozen? ⟨w.heap.size, i, none⟩ = false := fun i => blk_frozen HX_o.out i); (have HX_p := nX_p); clear nX_p; (have cs_p : ∀ i, w9.cell? ⟨w3.heap.size, i, none⟩ = _ := fun i => blk_cell HX_p.out i); (have HX_q := nX_q); clear nX_q; (have cs_q : ∀ i, w9.cell? ⟨w3.heap.size + 1, i, none⟩ = _ := fun i => blk_cell HX_q.out i); clear hb))
      go_wp2
      refine bodyPost_ret (results_ct rfl _ _ w.heap.size 46 #[.int .i64 r1, .int .i64 r2, .int .i64 r3, .int .i64 r4, .int .i64 r5, .int .i64 r6, .int .i64 r7, .int .i64 r8] (0, 0) _ rfl (by exact put8 HX_o.out) Tryd.underlying46 rfl (by kernel_rfl)) rfl ?_
      refine ⟨rfl, ?_⟩
      exact (by with_reducible repeat (first | exact HB.out | refine below_set ?_ GE_o.out))
    rw [if_neg c3] at h
    by_cases c4 : p1 = 3
    · subst c4
      rw [if_pos rfl] at h
      have HR := Aside0.mk h
      clear h
      go_enter Tryd.func24, Tryd.ntmps24
      go_wp2_with fail
      have GE_o : Aside0 (w.heap.size ≤ w.heap.size) := ⟨by have := HB.out.size; exact this⟩
      refine (far_Follow.calls (gb := true) _ _ _ _ _ _ _ _ _ _ (HG.out.below (by with_reducible repeat (first | exact HB.out | apply below_alloc))) (Kd.C_below HC_s.out (by with_reducible repeat (first | exact HB.out | apply below_alloc))) H0.out HT.out).mono ?_
      rintro e w1 ⟨rfl, hb⟩
      have nB := Aside0.mk (below_step (by with_reducible repeat (first | exact HB.out | apply below_alloc)) hb)
      have nX_o := Aside0.mk (blk_below (g := w.heap.size) (by with_reducible repeat ((apply blk_newN; rfl))) hb)
      clear HB 
      have HB := nB
      clear nB
      have HX_o := nX_o
      clear nX_o
      clear hb
      go_wp2_with fail
      refine (pointer_IsNull.calls x false _ (show pointer_IsNull.f x = some false from congrArg some hx0)).mono ?_
      rintro e w2 ⟨rfl, hd⟩
      have hb := hd.below
      clear hd
      have nB := Aside0.mk (below_step (by with_reducible repeat (exact HB.out)) hb)
      have nX_o := Aside0.mk (blk_below (g := w.heap.size) (by with_reducible repeat (exact HX_o.out)) hb)
      (try clear HB; try clear HX_o; try clear cs_o; try clear fr_o; try clear lt_o)
      have HB := nB
      clear nB
      have HX_o := nX_o
      clear nX_o
      clear hb
      go_wp2_with fail
      refine (pointer_Decode.calls (gb := true) _ _ _ _ _ _ _ _ _ _ _ _ (HG.out.below (by with_reducible repeat (exact HB.out))) HP.out).mono ?_
      rintro e w3 ⟨rfl, hb⟩
      have nB := Aside0.mk (below_step (by with_reducible repeat (exact HB.out)) hb)
      have nX_o := Aside0.mk (blk_below (g := w.heap.size) (by with_reducible repeat (exact HX_o.out)) hb)
      (try clear HB; try clear HX_o; try clear cs_o; try clear fr_o; try clear lt_o)
      have HB := nB
      clear nB
      have HX_o := nX_o
      clear nX_o
      have lt_o := lt_of_block HX_o.out
      clear hb
      go_wp2_with fail
      have e0 : ((w3.alloc (.cells #[.int .i64 3, .int .i64 p2, .int .i64 p3, .int .i64 p4, .int .i64 p5, .int .i64 p6, .bool p7, .int .i64 p8, .int .u32 p9, .int .u32 p10] 39)).alloc (.cells #[.func (.func 42) #[] #[], .func (.func 43) #[] #[], .func (.func 44) #[] #[], .func (.func 44) #[] #[]] 68)).heap[w3.heap.size]? = some (.cells #[.int .i64 3, .int .i64 p2, .int .i64 p3, .int .i64 p4, .int .i64 p5, .int .i64 p6, .bool p7, .int .i64 p8, .int .u32 p9, .int .u32 p10] 39 (0, 0)) := by repeat (first | (apply blk_newN; rfl) | apply blk_alloc)
      have e1 : ((w3.alloc (.cells #[.int .i64 3, .int .i64 p2, .int .i64 p3, .int .i64 p4, .int .i64 p5, .int .i64 p6, .bool p7, .int .i64 p8, .int .u32 p9, .int .u32 p10] 39)).alloc (.cells #[.func (.func 42) #[] #[], .func (.func 43) #[] #[], .func (.func 44) #[] #[], .func (.func 44) #[] #[]] 68)).heap[w3.heap.size + 1]? = some (.cells #[.func (.func 42) #[] #[], .func (.func 43) #[] #[], .func (.func 44) #[] #[], .func (.func 44) #[] #[]] 68 (0, 0)) := by repeat ((apply blk_newN; (simp; done)))
      have hb9 : Below w3.heap.size w3 ((w3.alloc (.cells #[.int .i64 3, .int .i64 p2, .int .i64 p3, .int .i64 p4, .int .i64 p5, .int .i64 p6, .bool p7, .int .i64 p8, .int .u32 p9, .int .u32 p10] 39)).alloc (.cells #[.func (.func 42) #[] #[], .func (.func 43) #[] #[], .func (.func 44) #[] #[], .func (.func 44) #[] #[]] 68)) := by repeat (first | exact Below.refl _ _ | apply below_alloc)
      have NE_p_o : Aside0 (w3.heap.size ≠ w.heap.size) := ⟨by omega⟩
      have NE_q_o : Aside0 (w3.heap.size + 1 ≠ w.heap.size) := ⟨by omega⟩
      generalize ((w3.alloc (.cells #[.int .i64 3, .int .i64 p2, .int .i64 p3, .int .i64 p4, .int .i64 p5, .int .i64 p6, .bool p7, .int .i64 p8, .int .u32 p9, .int .u32 p10] 39)).alloc (.cells #[.func (.func 42) #[] #[], .func (.func 43) #[] #[], .func (.func 44) #[] #[], .func (.func 44) #[] #[]] 68)) = w4 at e0 e1 hb9 ⊢
      have nB := Aside0.mk (below_step (by with_reducible repeat (exact HB.out)) hb9)
      have nX_o := Aside0.mk (blk_below (g := w.heap.size) (by with_reducible repeat (exact HX_o.out)) hb9)
      (try clear HB; try clear HX_o; try clear cs_o; try clear fr_o; try clear lt_o)
      have HB := nB
      clear nB
      have HX_o := nX_o
      clear nX_o
      have HX_p := Aside0.mk e0
      have HX_q := Aside0.mk e1
      clear hb9 e0 e1
      go_region_held3 (fun w' => Below w.heap.size w w' ∧ w'.heap[w3.heap.size]? = some (.cells #[.int .i64 3, .int .i64 p2, .int .i64 p3, .int .i64 p4, .int .i64 p5, .int .i64 p6, .bool p7, .int .i64 p8, .int .u32 p9, .int .u32 p10] 39 (0, 0)) ∧ (∀ i, w'.cell? ⟨w3.heap.size, i, none⟩ = (#[.int .i64 3, .int .i64 p2, .int .i64 p3, .int .i64 p4, .int .i64 p5, .int .i64 p6, .bool p7, .int .i64 p8, .int .u32 p9, .int .u32 p10] : Array Value)[i]?) ∧ w'.heap[w3.heap.size + 1]? = some (.cells #[.func (.func 42) #[] #[], .func (.func 43) #[] #[], .func (.func 44) #[] #[], .func (.func 44) #[] #[]] 68 (0, 0)) ∧ (∀ i, w'.cell? ⟨w3.heap.size + 1, i, none⟩ = (#[.func (.func 42) #[] #[], .func (.func 43) #[] #[], .func (.func 44) #[] #[], .func (.func 44) #[] #[]] : Array Value)[i]?)) (first | with_reducible exact ⟨HB.out, HX_p.out, cs_p, HX_q.out, cs_q⟩ | exact ⟨(by with_reducible repeat (first | exact HB.out | apply below_drew1 | refine below_set ?_ GE_o.out)), (by with_reducible repeat (first | exact HX_p.out | apply blk_drew | refine blk_far ?_ NE_p_o.out _)), fun i => blk_cell (g := w3.heap.size) (by with_reducible repeat (first | exact HX_p.out | apply blk_drew | refine blk_far ?_ NE_p_o.out _)) i, (by with_reducible repeat (first | exact HX_q.out | apply blk_drew | refine blk_far ?_ NE_q_o.out _)), fun i => blk_cell (g := w3.heap.size + 1) (by with_reducible repeat (first | exact HX_q.out | apply blk_drew | refine blk_far ?_ NE_q_o.out _)) i⟩) ((go_at_call 44; (with_reducible refine (resolve_other.calls _ _ _ 3 p2 p3 p4 p5 p6 p7 p8 p9 p10 _ _ _ _ _ _ _ _ _ _ _ _ (Kd.C_below HC_s.out (by with_reducible repeat (first | exact HB.out | apply below_drew1))) H0.out HR.out).mono ?_); rintro e w9 ⟨rfl, hb⟩; (have nB := Aside0.mk (below_step (by with_reducible repeat (first | exact HB.out | apply below_drew1)) hb)); (have nX_o := Aside0.mk (blk_below (g := w.heap.size) (by with_reducible repeat (first | exact HX_o.out | apply blk_drew)) hb)); (have nX_p := Aside0.mk (blk_below (g := w3.heap.size) (by with_reducible repeat (first | exact HX_p.out | apply blk_drew)) hb)); (have nX_q := Aside0.mk (blk_below (g := w3.heap.size + 1) (by with_reducible repeat (first | exact HX_q.out | apply blk_drew)) hb)); (try clear HB; try clear HX_o; try clear cs_o; try clear fr_o; try clear lt_o; try clear HX_p; try clear cs_p; try clear fr_p; try clear lt_p; try clear HX_q; try clear cs_q; try clear fr_q; try clear lt_q); (have HB := nB); clear nB; (have HX_o := nX_o); clear nX_o; (have cs_o : ∀ i, w9.cell? ⟨w.heap.size, i, none⟩ = _ := fun i => blk_cell HX_o.out i); (have fr_o : ∀ i, w9.frozen? ⟨w.heap.size, i, none⟩ = false := fun i => blk_frozen HX_o.out i); (have HX_p := nX_p); clear nX_p; (have cs_p : ∀ i, w9.cell? ⟨w3.heap.size, i, none⟩ = _ := fun i => blk_cell HX_p.out i); (have HX_q := nX_q); clear nX_q; (have cs_q : ∀ i, w9.cell? ⟨w3.heap.size + 1, i, none⟩ = _ := fun i => blk_cell HX_q.out i); clear hb))
      go_wp2
      refine bodyPost_ret (results_ct rfl _ _ w.heap.size 46 #[.int .i64 r1, .int .i64 r2, .int .i64 r3, .int .i64 r4, .int .i64 r5, .int .i64 r6, .int .i64 r7, .int .i64 r8] (0, 0) _ rfl (by exact put8 HX_o.out) Tryd.underlying46 rfl (by kernel_rfl)) rfl ?_
      refine ⟨rfl, ?_⟩
      exact (by with_reducible repeat (first | exact HB.out | refine below_set ?_ GE_o.out))
    rw [if_neg c4] at h
    exact absurd h (by simp)
  · rw [if_neg he] at h
    have he0 : (te != 0) = true := bne_iff_ne.mpr he
    simp only [Option.some.injEq, Prod.mk.injEq] at h
    obtain ⟨rfl, rfl, rfl, rfl, rfl, rfl, rfl, rfl, rfl⟩ := h
    go_enter Tryd.func24, Tryd.ntmps24
    go_wp2_with fail
    have GE_o : Aside0 (w.heap.size ≤ w.heap.size) := ⟨by have := HB.out.size; exact this⟩
    refine (far_Follow.calls (gb := true) _ _ _ _ _ _ _ _ _ _ (HG.out.below (by with_reducible repeat (first | exact HB.out | apply below_alloc))) (Kd.C_below HC_s.out (by with_reducible repeat (first | exact HB.out | apply below_alloc))) H0.out HT.out).mono ?_
    rintro e w1 ⟨rfl, hb⟩
    have nB := Aside0.mk (below_step (by with_reducible repeat (first | exact HB.out | apply below_alloc)) hb)
    have nX_o := Aside0.mk (blk_below (g := w.heap.size) (by with_reducible repeat ((apply blk_newN; rfl))) hb)
    clear HB 
    have HB := nB
    clear nB
    have HX_o := nX_o
    clear nX_o
    have cs_o : ∀ i, w1.cell? ⟨w.heap.size, i, none⟩ = _ := fun i => blk_cell HX_o.out i
    have fr_o : ∀ i, w1.frozen? ⟨w.heap.size, i, none⟩ = false := fun i => blk_frozen HX_o.out i
    clear hb
    go_wp2
    refine bodyPost_ret (results_ct rfl _ _ w.heap.size 46 #[.int .i64 0, .int .i64 0, .int .i64 0, .int .i64 0, .int .i64 0, .int .i64 0, .int .i64 0, .int .i64 0] (0, 0) _ rfl (by exact put8 HX_o.out) Tryd.underlying46 rfl (by kernel_rfl)) rfl ?_
    refine ⟨rfl, ?_⟩
    exact (by with_reducible repeat (first | exact HB.out | refine below_set ?_ GE_o.out))

end Go.Proofs.YtcjhejopcghgnaaDoor.P

namespace Go.Proofs.YtcjhejopcghgnaaDoor.P
open Go.RowKit Go.Proofs.YtcjhejopcghgnaaDoorW.PrintWords Go.Proofs.YtcjhejopcghgnaaDoorW.PrintLast Go.Proofs.YtcjhejopcghgnaaDoorW.PrintMore
attribute [local go_sem] max2_int min2_int max_two min_two max_three min_three max_four min_four   -- for this text's walks alone
set_option linter.unusedVariables false
set_option linter.unusedSimpArgs false

variable {gb : Bool}
/-! ### resolve_Pointers: function 26 -/
def resolve_Pointers.j0 : Nat → Bool → Int → Int → Int → Int → Int → Int → Int → Int → Option (Int × Int)
  | 0, _, _, _, _, _, _, _, _, _ => none
  | k + 1, x4, x394000, x394001, x394002, x394003, x394004, x394005, x394006, x394007 => if x4 = true then (some (wrap64 (x394002 + x394003), x394004)) else (if x394000 = 2 then (if x394005 = 6 then (if x394006 > 0 then (some (x394002, x394006)) else (some (0, 0))) else (some (0, 0))) else (some (0, 0)))
def resolve_Pointers.f (k : Nat) (a0_0 a0_1 a0_2 a0_3 a0_4 a0_5 a0_6 a0_7 : Int) : Option (Int × Int) := if a0_0 = 1 then (resolve_Pointers.j0 k (decide (a0_4 > 0)) a0_0 a0_1 a0_2 a0_3 a0_4 a0_5 a0_6 a0_7) else (resolve_Pointers.j0 k false a0_0 a0_1 a0_2 a0_3 a0_4 a0_5 a0_6 a0_7)
theorem resolve_Pointers.mono_l : ∀ k, (∀ y0 y1 y2 y3 y4 y5 y6 y7 y8, LeO (resolve_Pointers.j0 k y0 y1 y2 y3 y4 y5 y6 y7 y8) (resolve_Pointers.j0 (k + 1) y0 y1 y2 y3 y4 y5 y6 y7 y8))
  | 0 => fun _ _ _ _ _ _ _ _ _ r h => by simp [resolve_Pointers.j0] at h
  | k + 1 => by
    · intro y0 y1 y2 y3 y4 y5 y6 y7 y8
      unfold resolve_Pointers.j0
      repeat' (with_reducible exact LeO.refl _)
theorem resolve_Pointers.mono : ∀ a0 a1 a2 a3 a4 a5 a6 a7 k, LeO (resolve_Pointers.f k a0 a1 a2 a3 a4 a5 a6 a7) (resolve_Pointers.f (k + 1) a0 a1 a2 a3 a4 a5 a6 a7) := by
  intro a0 a1 a2 a3 a4 a5 a6 a7 k
  have ih0 := resolve_Pointers.mono_l k
  unfold resolve_Pointers.f
  repeat' first
      | (with_reducible apply ih0)
      | (with_reducible refine LeO.ite ?_ ?_)
set_option maxHeartbeats 8000000 in
set_option maxRecDepth 100000 in
theorem resolve_Pointers.calls (k : Nat) (a0_0 a0_1 a0_2 a0_3 a0_4 a0_5 a0_6 a0_7 r1 r2 : Int) (w : World) (h : resolve_Pointers.f k a0_0 a0_1 a0_2 a0_3 a0_4 a0_5 a0_6 a0_7 = some (r1, r2)) :
    Calls Tryd.prog 26 #[.agg #[.int .i64 a0_0, .int .i64 a0_1, .int .i64 a0_2, .int .i64 a0_3, .int .i64 a0_4, .int .i64 a0_5, .int .i64 a0_6, .int .i64 a0_7]] w fun e w' => e = .returned (.tuple #[.int .i64 r1, .int .i64 r2]) ∧ Below w.heap.size w w' := by
  have HB := Aside0.mk (Below.refl w.heap.size w)
  have H : (if a0_0 = 1 then (resolve_Pointers.j0 k (decide (a0_4 > 0)) a0_0 a0_1 a0_2 a0_3 a0_4 a0_5 a0_6 a0_7) else (resolve_Pointers.j0 k false a0_0 a0_1 a0_2 a0_3 a0_4 a0_5 a0_6 a0_7)) = some (r1, r2) := h
  clear h
  have HC2 := Aside0.mk H
  clear H
  go_enter Tryd.func26, Tryd.ntmps26
  go_upto_region 1 with (((with_reducible refine gate_dst (N := 1) rfl ?_); refine box_event ?hg (N := 1) ?hd (cs := #[.int .i64 a0_0, .int .i64 a0_1, .int .i64 a0_2, .int .i64 a0_3, .int .i64 a0_4, .int .i64 a0_5, .int .i64 a0_6, .int .i64 a0_7]) (t := 46) ?hr ?_; (case hd => rfl); (case hg => rfl); (case hr => (go_simp; done)); intro gb393 hg w3 hbox hb; replace HB := Aside0.mk (below_step HB.out hb); replace BK393 := Aside0.mk (hbox); clear hb hbox hg))
  repeat (go_quiet (first | ((with_reducible refine gate_dst (N := 1) rfl ?_); refine box_event ?hg (N := 1) ?hd (cs := #[.int .i64 a0_0, .int .i64 a0_1, .int .i64 a0_2, .int .i64 a0_3, .int .i64 a0_4, .int .i64 a0_5, .int .i64 a0_6, .int .i64 a0_7]) (t := 46) ?hr ?_; (case hd => rfl); (case hg => rfl); (case hr => first | (go_simp; done) | (go_simp; rfl)); intro gb393 hg w3 hbox hb; replace BK393 := Aside0.mk (hbox); replace GW393 := Aside0.mk ((by rw [hg]; exact (below_size (by repeat (first | (with_reducible first | exact HB.out | apply below_alloc | apply pw_below_drewN | apply below_drew1) | exact HB.out))) : w.heap.size ≤ gb393)); replace GE393 := Aside0.mk ((by rw [hg]; exact (below_size (by repeat (first | (with_reducible first | exact HB.out | apply below_alloc | apply pw_below_drewN | apply below_drew1) | exact HB.out))) : w.heap.size ≤ gb393)); replace HB := Aside0.mk (below_step (by repeat (first | (with_reducible first | exact HB.out | apply below_alloc | apply pw_below_drewN | apply below_drew1) | exact HB.out)) hb); clear hb hbox hg)); go_upto_region 1 with (first | ((with_reducible refine gate_dst (N := 1) rfl ?_); refine box_event ?hg (N := 1) ?hd (cs := #[.int .i64 a0_0, .int .i64 a0_1, .int .i64 a0_2, .int .i64 a0_3, .int .i64 a0_4, .int .i64 a0_5, .int .i64 a0_6, .int .i64 a0_7]) (t := 46) ?hr ?_; (case hd => rfl); (case hg => rfl); (case hr => first | (go_simp; done) | (go_simp; rfl)); intro gb393 hg w3 hbox hb; replace BK393 := Aside0.mk (hbox); replace GW393 := Aside0.mk ((by rw [hg]; exact (below_size (by repeat (first | (with_reducible first | exact HB.out | apply below_alloc | apply pw_below_drewN | apply below_drew1) | exact HB.out))) : w.heap.size ≤ gb393)); replace GE393 := Aside0.mk ((by rw [hg]; exact (below_size (by repeat (first | (with_reducible first | exact HB.out | apply below_alloc | apply pw_below_drewN | apply below_drew1) | exact HB.out))) : w.heap.size ≤ gb393)); replace HB := Aside0.mk (below_step (by repeat (first | (with_reducible first | exact HB.out | apply below_alloc | apply pw_below_drewN | apply below_drew1) | exact HB.out)) hb); clear hb hbox hg)))
  (skip)
  go_cut [4] (fun v4 wc => ∃ (kq : Nat) (x4_1 : Bool), v4 = .bool x4_1 ∧ Aside0 (resolve_Pointers.j0 kq x4_1 a0_0 a0_1 a0_2 a0_3 a0_4 a0_5 a0_6 a0_7 = some (r1, r2)) ∧ Aside0 (kq ≤ k) ∧ Aside0 (wc.heap[gb393]? = some (.cells #[.int .i64 a0_0, .int .i64 a0_1, .int .i64 a0_2, .int .i64 a0_3, .int .i64 a0_4, .int .i64 a0_5, .int .i64 a0_6, .int .i64 a0_7] 46 (0, 0))) ∧ Aside0 (Below w.heap.size w wc))
  case first =>
    have H := HC2.out
    clear HC2
    by_cases c4 : a0_0 = 1
    · rw [if_pos c4] at H
      have c4b0 : (a0_0 == 1) = true := beq_iff_eq.mpr c4
      clear c4
      (skip)
      have H' := Aside0.mk H
      clear H
      obtain ⟨hcz5_0, -, -, -, hcz5_4, -, -, -⟩ := cells8 BK393.out
      go_wp2
      repeat (go_quiet (fail); try go_wp2)
      go_meet
      case rel => exact ⟨_, (decide (a0_4 > 0)), (by rfl), H', ⟨by omega⟩, ⟨by exact BK393.out⟩, ⟨by repeat ((with_reducible exact HB.out))⟩⟩
    · rw [if_neg c4] at H
      have c4b0 : (a0_0 == 1) = false := beq_eq_false_iff_ne.mpr c4
      (skip)
      have H' := Aside0.mk H
      clear H
      have hcz6_0 : w3.cell? ⟨gb393, 0, none⟩ = some (.int .i64 a0_0) := (blk_cell BK393.out 0).trans rfl
      go_wp2
      repeat (go_quiet (fail); try go_wp2)
      go_meet
      case rel => exact ⟨_, (false), (by rfl), H', ⟨by omega⟩, ⟨by exact BK393.out⟩, ⟨by repeat ((with_reducible exact HB.out))⟩⟩
  case rest =>
    clear HC2
    skip
    skip
    skip
    skip
    skip
    skip
    skip
    skip
    skip
    skip
    skip
    skip
    skip
    skip
    skip
    skip
    skip
    skip
    skip
    skip
    skip
    skip
    skip
    skip
    skip
    skip
    skip
    skip
    skip
    skip
    skip
    skip
    skip
    skip
    skip
    skip
    skip
    obtain ⟨kq, x4_1, rfl, HA, HJ1, BK393, HB⟩ := hcut
    cases kq with
    | zero => exact absurd HA.out (by simp [resolve_Pointers.j0])
    | succ kj1 =>
      have H := HA.out
      clear HA
      simp only [resolve_Pointers.j0] at H
      by_cases c7 : x4_1 = true
      · subst c7
        have H1 : (some (wrap64 (a0_2 + a0_3), a0_4)) = some (r1, r2) := by rw [if_pos rfl] at H; exact H
        clear H
        have H := H1
        clear H1
        simp only [Option.some.injEq, Prod.mk.injEq] at H
        obtain ⟨rfl, rfl⟩ := H
        obtain ⟨-, -, hcz8_2, hcz8_3, hcz8_4, -, -, -⟩ := cells8 BK393.out
        go_wp2
        repeat (go_quiet (fail); try go_wp2)
        go_ret2
        exact ⟨by rfl, by repeat ((with_reducible first | exact HB.out | apply pw_below_drewN))⟩
      · replace c7 := Bool.eq_false_iff.mpr c7
        subst c7
        have H1 : (if a0_0 = 2 then (if a0_5 = 6 then (if a0_6 > 0 then (some (a0_2, a0_6)) else (some (0, 0))) else (some (0, 0))) else (some (0, 0))) = some (r1, r2) := by rw [if_neg (show ¬ (false = true) by decide)] at H; exact H
        clear H
        have H := H1
        clear H1
        by_cases c9 : a0_0 = 2
        · rw [if_pos c9] at H
          have c9b0 : (a0_0 == 2) = true := beq_iff_eq.mpr c9
          clear c9
          by_cases c10 : a0_5 = 6
          · rw [if_pos c10] at H
            have c10b0 : (a0_5 == 6) = true := beq_iff_eq.mpr c10
            clear c10
            by_cases c11 : a0_6 > 0
            · rw [if_pos c11] at H
              have c11b0 : decide (0 < a0_6) = true := decide_eq_true c11
              clear c11
              simp only [Option.some.injEq, Prod.mk.injEq] at H
              obtain ⟨rfl, rfl⟩ := H
              obtain ⟨hcz12_0, -, hcz12_2, -, -, hcz12_5, hcz12_6, -⟩ := cells8 BK393.out
              go_wp2
              repeat (go_quiet (fail); try go_wp2)
              go_ret2
              exact ⟨by rfl, by repeat ((with_reducible first | exact HB.out | apply pw_below_drewN))⟩
            · rw [if_neg c11] at H
              have c11b0 : decide (0 < a0_6) = false := decide_eq_false c11
              clear c11
              simp only [Option.some.injEq, Prod.mk.injEq] at H
              obtain ⟨rfl, rfl⟩ := H
              obtain ⟨hcz13_0, -, -, -, -, hcz13_5, hcz13_6, -⟩ := cells8 BK393.out
              go_wp2
              repeat (go_quiet (fail); try go_wp2)
              go_ret2
              exact ⟨by rfl, by repeat ((with_reducible exact HB.out))⟩
          · rw [if_neg c10] at H
            have c10b0 : (a0_5 == 6) = false := beq_eq_false_iff_ne.mpr c10
            simp only [Option.some.injEq, Prod.mk.injEq] at H
            obtain ⟨rfl, rfl⟩ := H
            obtain ⟨hcz14_0, -, -, -, -, hcz14_5, -, -⟩ := cells8 BK393.out
            go_wp2
            repeat (go_quiet (fail); try go_wp2)
            go_ret2
            exact ⟨by rfl, by repeat ((with_reducible exact HB.out))⟩
        · rw [if_neg c9] at H
          have c9b0 : (a0_0 == 2) = false := beq_eq_false_iff_ne.mpr c9
          simp only [Option.some.injEq, Prod.mk.injEq] at H
          obtain ⟨rfl, rfl⟩ := H
          have hcz15_0 : wc.cell? ⟨gb393, 0, none⟩ = some (.int .i64 a0_0) := (blk_cell BK393.out 0).trans rfl
          go_wp2
          repeat (go_quiet (fail); try go_wp2)
          go_ret2
          exact ⟨by rfl, by repeat ((with_reducible exact HB.out))⟩

end Go.Proofs.YtcjhejopcghgnaaDoor.P

namespace Go.Proofs.YtcjhejopcghgnaaDoor.P
open Go.RowKit Go.Proofs.YtcjhejopcghgnaaDoorW.PrintWords Go.Proofs.YtcjhejopcghgnaaDoorW.PrintLast Go.Proofs.YtcjhejopcghgnaaDoorW.PrintMore
attribute [local go_sem] max2_int min2_int max_two min_two max_three min_three max_four min_four   -- for this text's walks alone
set_option linter.unusedVariables false
set_option linter.unusedSimpArgs false

variable {gb : Bool}
/-! ### resolve_Element: function 28 -/
def resolve_Element.f (a0_0 a0_1 a0_2 a0_3 a0_4 a0_5 a0_6 a0_7 a1 : Int) : Option (Int × Int × Int × Int × Int × Int × Int × Int) := some (1, a0_1, wrap64 (a0_2 + (wrap64 (a1 * (wrap64 (a0_3 + a0_4))))), a0_3, a0_4, 0, 0, 0)
set_option maxHeartbeats 8000000 in
set_option maxRecDepth 100000 in
theorem resolve_Element.calls (a0_0 a0_1 a0_2 a0_3 a0_4 a0_5 a0_6 a0_7 a1 r1 r2 r3 r4 r5 r6 r7 r8 : Int) (w : World) (h : resolve_Element.f a0_0 a0_1 a0_2 a0_3 a0_4 a0_5 a0_6 a0_7 a1 = some (r1, r2, r3, r4, r5, r6, r7, r8)) :
    Calls Tryd.prog 28 #[.agg #[.int .i64 a0_0, .int .i64 a0_1, .int .i64 a0_2, .int .i64 a0_3, .int .i64 a0_4, .int .i64 a0_5, .int .i64 a0_6, .int .i64 a0_7], .int .i64 a1] w fun e w' => e = .returned (.agg #[.int .i64 r1, .int .i64 r2, .int .i64 r3, .int .i64 r4, .int .i64 r5, .int .i64 r6, .int .i64 r7, .int .i64 r8]) ∧ Below w.heap.size w w' := by
  have HB := Aside0.mk (Below.refl w.heap.size w)
  have H : (some (1, a0_1, wrap64 (a0_2 + (wrap64 (a1 * (wrap64 (a0_3 + a0_4))))), a0_3, a0_4, 0, 0, 0)) = some (r1, r2, r3, r4, r5, r6, r7, r8) := h
  clear h
  simp only [Option.some.injEq, Prod.mk.injEq] at H
  obtain ⟨rfl, rfl, rfl, rfl, rfl, rfl, rfl, rfl⟩ := H
  go_enter Tryd.func28, Tryd.ntmps28
  go_wp2_with (first | ((with_reducible refine gate_dst (N := 2) rfl ?_); refine box_event ?hg (N := 2) ?hd (cs := #[.int .i64 a0_0, .int .i64 a0_1, .int .i64 a0_2, .int .i64 a0_3, .int .i64 a0_4, .int .i64 a0_5, .int .i64 a0_6, .int .i64 a0_7]) (t := 46) ?hr ?_; (case hd => rfl); (case hg => rfl); (case hr => (go_simp; done)); intro gb394 hg w3 hbox hb; replace HB := Aside0.mk (below_step HB.out hb); replace BK394 := Aside0.mk (hbox); clear hb hbox hg) | ((with_reducible refine gate_dst (N := 4) rfl ?_); refine box_event ?hg (N := 4) ?hd (cs := #[.int .i64 0, .int .i64 0, .int .i64 0, .int .i64 0, .int .i64 0, .int .i64 0, .int .i64 0, .int .i64 0]) (t := 46) ?hr ?_; (case hd => rfl); (case hg => rfl); (case hr => (go_simp; done)); intro gb395 hg w4 hbox hb; replace BK394 := Aside0.mk (blk_below BK394.out hb); replace BK395 := Aside0.mk (hbox); replace GE395 := Aside0.mk (ge_of HB.out hg); replace HB := Aside0.mk (below_step HB.out hb); clear hb hbox hg; obtain ⟨-, hcz6_1, hcz6_2, hcz6_3, hcz6_4, -, -, -⟩ := cells8 BK394.out; obtain ⟨hcz7_0, hcz7_1, hcz7_2, hcz7_3, hcz7_4, hcz7_5, hcz7_6, hcz7_7⟩ := cells8 BK395.out; obtain ⟨hfz7_0, hfz7_1, hfz7_2, hfz7_3, hfz7_4, hfz7_5, hfz7_6, hfz7_7⟩ := frz8 BK395.out))
  refine bodyPost_ret (results_cell_row rfl _ _ gb395 46 #[.int .i64 1, .int .i64 a0_1, .int .i64 (wrap64 (a0_2 + (wrap64 (a1 * (wrap64 (a0_3 + a0_4)))))), .int .i64 a0_3, .int .i64 a0_4, .int .i64 0, .int .i64 0, .int .i64 0] (0, 0) _ rfl (by exact put8 BK395.out) Tryd.underlying46 rfl (by kernel_rfl)) rfl ?_
  exact ⟨by rfl, by repeat ((with_reducible first | exact HB.out | refine below_set ?_ GE395.out))⟩

end Go.Proofs.YtcjhejopcghgnaaDoor.P

namespace Go.Proofs.YtcjhejopcghgnaaDoor.P
open Go.RowKit Go.Proofs.YtcjhejopcghgnaaDoorW.PrintWords Go.Proofs.YtcjhejopcghgnaaDoorW.PrintLast Go.Proofs.YtcjhejopcghgnaaDoorW.PrintMore
attribute [local go_sem] max2_int min2_int max_two min_two max_three min_three max_four min_four   -- for this text's walks alone
set_option linter.unusedVariables false
set_option linter.unusedSimpArgs false

variable {gb : Bool}
theorem eqA39 (d : Nat) (w : World) (x0 y0 : Int) (x1 y1 : Int) (x2 y2 : Int) (x3 y3 : Int) (x4 y4 : Int) (x5 y5 : Int) (x6 y6 : Bool) (x7 y7 : Int) (x8 y8 : Int) (x9 y9 : Int) :
    (Op.equalIn (d + 2) 39 (.agg #[.int .i64 x0, .int .i64 x1, .int .i64 x2, .int .i64 x3, .int .i64 x4, .int .i64 x5, .bool x6, .int .i64 x7, .int .u32 x8, .int .u32 x9]) (.agg #[.int .i64 y0, .int .i64 y1, .int .i64 y2, .int .i64 y3, .int .i64 y4, .int .i64 y5, .bool y6, .int .i64 y7, .int .u32 y8, .int .u32 y9])).run Tryd.prog w = .ok (x0 == y0 && (x1 == y1 && (x2 == y2 && (x3 == y3 && (x4 == y4 && (x5 == y5 && (x6 == y6 && (x7 == y7 && (x8 == y8 && (x9 == y9)))))))))) w := by
  refine eqA_of Tryd.underlying39 (by kernel_rfl) ?_
  refine eqf_cons (by rfl) (by go_simp; rfl) (by go_simp; rfl) (by go_simp) ?_
  refine eqf_cons (by rfl) (by go_simp; rfl) (by go_simp; rfl) (by go_simp) ?_
  refine eqf_cons (by rfl) (by go_simp; rfl) (by go_simp; rfl) (by go_simp) ?_
  refine eqf_cons (by rfl) (by go_simp; rfl) (by go_simp; rfl) (by go_simp) ?_
  refine eqf_cons (by rfl) (by go_simp; rfl) (by go_simp; rfl) (by go_simp) ?_
  refine eqf_cons (by rfl) (by go_simp; rfl) (by go_simp; rfl) (by go_simp) ?_
  refine eqf_cons (by rfl) (by go_simp; rfl) (by go_simp; rfl) (by go_simp) ?_
  refine eqf_cons (by rfl) (by go_simp; rfl) (by go_simp; rfl) (by go_simp) ?_
  refine eqf_cons (by rfl) (by go_simp; rfl) (by go_simp; rfl) (by go_simp) ?_
  exact eqf_last (by rfl) (by go_simp; rfl) (by go_simp; rfl) (by go_simp)
end Go.Proofs.YtcjhejopcghgnaaDoor.P

namespace Go.Proofs.YtcjhejopcghgnaaDoor.P
open Go.RowKit Go.Proofs.YtcjhejopcghgnaaDoorW.PrintWords Go.Proofs.YtcjhejopcghgnaaDoorW.PrintLast Go.Proofs.YtcjhejopcghgnaaDoorW.PrintMore
attribute [local go_sem] max2_int min2_int max_two min_two max_three min_three max_four min_four   -- for this text's walks alone
set_option linter.unusedVariables false
set_option linter.unusedSimpArgs false

variable {gb : Bool}
/-! ### capnpref02_offset: function 57 -/
def capnpref02_offset.f (a0 : Int) : Option (Bool) := if a0 ≥ (-536870912) then (some (decide (a0 ≤ 536870911))) else (some false)
set_option maxHeartbeats 8000000 in
set_option maxRecDepth 100000 in
theorem capnpref02_offset.calls (a0 : Int) (r : Bool) (w : World) (h : capnpref02_offset.f a0 = some r) :
    Calls Tryd.prog 57 #[.int .i64 a0] w fun e w' => e = .returned (.bool r) ∧ Drawn0 w w' := by
  have H : (if a0 ≥ (-536870912) then (some (decide (a0 ≤ 536870911))) else (some false)) = some r := h
  clear h
  by_cases c2 : a0 ≥ (-536870912)
  · rw [if_pos c2] at H
    have c2b0 : decide ((-536870912) ≤ a0) = true := decide_eq_true c2
    clear c2
    obtain rfl := Option.some.inj H
    go_enter Tryd.func57, Tryd.ntmps57
    go_wp2
    go_ret
    exact ⟨by rfl, by repeat (exact Drawn0.refl _)⟩
  · rw [if_neg c2] at H
    have c2b0 : decide ((-536870912) ≤ a0) = false := decide_eq_false c2
    clear c2
    obtain rfl := Option.some.inj H
    go_enter Tryd.func57, Tryd.ntmps57
    go_wp2
    go_ret
    exact ⟨by rfl, by repeat (exact Drawn0.refl _)⟩

end Go.Proofs.YtcjhejopcghgnaaDoor.P

namespace Go.Proofs.YtcjhejopcghgnaaDoor.P
open Go.RowKit Go.Proofs.YtcjhejopcghgnaaDoorW.PrintWords Go.Proofs.YtcjhejopcghgnaaDoorW.PrintLast Go.Proofs.YtcjhejopcghgnaaDoorW.PrintMore
attribute [local go_sem] max2_int min2_int max_two min_two max_three min_three max_four min_four   -- for this text's walks alone
set_option linter.unusedVariables false
set_option linter.unusedSimpArgs false

variable {gb : Bool}
attribute [local go_sem high] eqA39
/-! ### capnpref02_Valid: function 49 -/
def capnpref02_Valid.f (a0_0 a0_1 a0_2 a0_3 a0_4 a0_5 : Int) (a0_6 : Bool) (a0_7 a0_8 a0_9 : Int) : Option (Bool) := if a0_0 = 0 then (if (0 == a0_4 && (0 == a0_5 && (!a0_6 && (0 == a0_7 && (0 == a0_8 && (0 == a0_9)))))) = true then ((capnpref02_offset.f a0_1).bind fun t163 => (if t163 = true then (if a0_2 ≥ 0 then (if a0_2 ≤ 65535 then (if a0_3 ≥ 0 then (some (decide (a0_3 ≤ 65535))) else (some false)) else (some false)) else (some false)) else (some false))) else (some false)) else (if a0_0 = 1 then (if (0 == a0_2 && (0 == a0_3 && (!a0_6 && (0 == a0_7 && (0 == a0_8 && (0 == a0_9)))))) = true then ((capnpref02_offset.f a0_1).bind fun t164 => (if t164 = true then (if a0_4 ≥ 0 then (if a0_4 ≤ 7 then (if a0_5 ≥ 0 then (some (decide (a0_5 ≤ 536870911))) else (some false)) else (some false)) else (some false)) else (some false))) else (some false)) else (if a0_0 = 2 then (if (0 == a0_1 && (0 == a0_2 && (0 == a0_3 && (0 == a0_4 && (0 == a0_5 && (0 == a0_9)))))) = true then (if a0_7 ≥ 0 then (some (decide (a0_7 ≤ 536870911))) else (some false)) else (some false)) else (if a0_0 = 3 then (if (0 == a0_1 && (0 == a0_2 && (0 == a0_3 && (0 == a0_4 && (0 == a0_5 && (!a0_6 && (0 == a0_7))))))) = true then (some (decide (a0_9 ≤ 1073741823))) else (some false)) else (some false))))
set_option maxHeartbeats 8000000 in
set_option maxRecDepth 100000 in
theorem capnpref02_Valid.calls (a0_0 a0_1 a0_2 a0_3 a0_4 a0_5 : Int) (a0_6 : Bool) (a0_7 a0_8 a0_9 : Int) (r : Bool) (w : World) (h : capnpref02_Valid.f a0_0 a0_1 a0_2 a0_3 a0_4 a0_5 a0_6 a0_7 a0_8 a0_9 = some r) :
    Calls Tryd.prog 49 #[.agg #[.int .i64 a0_0, .int .i64 a0_1, .int .i64 a0_2, .int .i64 a0_3, .int .i64 a0_4, .int .i64 a0_5, .bool a0_6, .int .i64 a0_7, .int .u32 a0_8, .int .u32 a0_9]] w fun e w' => e = .returned (.bool r) ∧ Below w.heap.size w w' := by
  have HB := Aside0.mk (Below.refl w.heap.size w)
  have H := h
  unfold capnpref02_Valid.f at H
  clear h
  by_cases c2 : a0_0 = 0
  · rw [if_pos c2] at H
    have c2b0 : (a0_0 == 0) = true := beq_iff_eq.mpr c2
    clear c2
    by_cases c3 : (0 == a0_4 && (0 == a0_5 && (!a0_6 && (0 == a0_7 && (0 == a0_8 && (0 == a0_9)))))) = true
    · rw [if_pos c3] at H
      have c3b0 : (0 == a0_4 && (0 == a0_5 && (!a0_6 && (0 == a0_7 && (0 == a0_8 && (0 == a0_9)))))) = true := c3
      (try (skip))
      (try (skip))
      clear c3
      replace H := Option.bind_eq_some_iff.mp H
      obtain ⟨t163, A40, H⟩ := H
      have A4 := Aside0.mk A40
      clear A40
      by_cases c5 : t163 = true
      · subst c5
        have H1 : (if a0_2 ≥ 0 then (if a0_2 ≤ 65535 then (if a0_3 ≥ 0 then (some (decide (a0_3 ≤ 65535))) else (some false)) else (some false)) else (some false)) = some r := by rw [if_pos rfl] at H; exact H
        clear H
        have H := H1
        clear H1
        by_cases c6 : a0_2 ≥ 0
        · rw [if_pos c6] at H
          have c6b0 : decide (0 ≤ a0_2) = true := decide_eq_true c6
          clear c6
          by_cases c7 : a0_2 ≤ 65535
          · rw [if_pos c7] at H
            have c7b0 : decide (a0_2 ≤ 65535) = true := decide_eq_true c7
            clear c7
            by_cases c8 : a0_3 ≥ 0
            · rw [if_pos c8] at H
              have c8b0 : decide (0 ≤ a0_3) = true := decide_eq_true c8
              clear c8
              obtain rfl := Option.some.inj H
              go_enter Tryd.func49, Tryd.ntmps49
              go_wp2_with (first | ((with_reducible refine gate_dst (N := 1) rfl ?_); refine box_event ?hg (N := 1) ?hd (cs := #[.int .i64 a0_0, .int .i64 a0_1, .int .i64 a0_2, .int .i64 a0_3, .int .i64 a0_4, .int .i64 a0_5, .bool a0_6, .int .i64 a0_7, .int .u32 a0_8, .int .u32 a0_9]) (t := 39) ?hr ?_; (case hd => rfl); (case hg => rfl); (case hr => (go_simp; done)); intro gb161 hg w9 hbox hb; replace HB := Aside0.mk (below_step HB.out hb); replace BK161 := Aside0.mk (hbox); clear hb hbox hg) | ((with_reducible refine gate_dst (N := 3) rfl ?_); refine box_event ?hg (N := 3) ?hd (cs := #[.int .i64 0, .int .i64 0, .int .i64 0, .int .i64 0, .int .i64 0, .int .i64 0, .bool false, .int .i64 0, .int .u32 0, .int .u32 0]) (t := 39) ?hr ?_; (case hd => rfl); (case hg => rfl); (case hr => (go_simp; done)); intro gb162 hg w10 hbox hb; replace BK162 := Aside0.mk (hbox); replace GE162 := Aside0.mk (ge_of HB.out hg); replace HB := Aside0.mk (below_step HB.out hb); replace NB162_161 := Aside0.mk (ne_r BK161.out hg); replace BK161 := Aside0.mk (blk_below BK161.out hb); clear hb hbox hg; have hnc11 := NB162_161.out; obtain ⟨hcz12_0, hcz12_1, hcz12_2, hcz12_3, hcz12_4, hcz12_5, hcz12_6, hcz12_7, hcz12_8, hcz12_9⟩ := cells10 BK161.out; obtain ⟨hcz13_0, hcz13_1, hcz13_2, hcz13_3, hcz13_4, hcz13_5, hcz13_6, hcz13_7, hcz13_8, hcz13_9⟩ := cells10 BK162.out; obtain ⟨hfz13_0, hfz13_1, hfz13_2, hfz13_3, -, -, -, -, -, -⟩ := frz10 BK162.out) | (go_at_call 57; (with_reducible refine (capnpref02_offset.calls a0_1 true _ A4.out).mono ?_); rintro e w' ⟨rfl, ⟨nd, rfl⟩⟩))
              go_ret
              exact ⟨by rfl, by repeat ((with_reducible first | exact HB.out | apply pw_below_drewN | refine below_set ?_ GE162.out))⟩
            · rw [if_neg c8] at H
              have c8b0 : decide (0 ≤ a0_3) = false := decide_eq_false c8
              clear c8
              obtain rfl := Option.some.inj H
              go_enter Tryd.func49, Tryd.ntmps49
              go_wp2_with (first | ((with_reducible refine gate_dst (N := 1) rfl ?_); refine box_event ?hg (N := 1) ?hd (cs := #[.int .i64 a0_0, .int .i64 a0_1, .int .i64 a0_2, .int .i64 a0_3, .int .i64 a0_4, .int .i64 a0_5, .bool a0_6, .int .i64 a0_7, .int .u32 a0_8, .int .u32 a0_9]) (t := 39) ?hr ?_; (case hd => rfl); (case hg => rfl); (case hr => (go_simp; done)); intro gb161 hg w14 hbox hb; replace HB := Aside0.mk (below_step HB.out hb); replace BK161 := Aside0.mk (hbox); clear hb hbox hg) | ((with_reducible refine gate_dst (N := 3) rfl ?_); refine box_event ?hg (N := 3) ?hd (cs := #[.int .i64 0, .int .i64 0, .int .i64 0, .int .i64 0, .int .i64 0, .int .i64 0, .bool false, .int .i64 0, .int .u32 0, .int .u32 0]) (t := 39) ?hr ?_; (case hd => rfl); (case hg => rfl); (case hr => (go_simp; done)); intro gb162 hg w15 hbox hb; replace BK162 := Aside0.mk (hbox); replace GE162 := Aside0.mk (ge_of HB.out hg); replace HB := Aside0.mk (below_step HB.out hb); replace NB162_161 := Aside0.mk (ne_r BK161.out hg); replace BK161 := Aside0.mk (blk_below BK161.out hb); clear hb hbox hg; have hnc16 := NB162_161.out; obtain ⟨hcz17_0, hcz17_1, hcz17_2, hcz17_3, hcz17_4, hcz17_5, hcz17_6, hcz17_7, hcz17_8, hcz17_9⟩ := cells10 BK161.out; obtain ⟨hcz18_0, hcz18_1, hcz18_2, hcz18_3, hcz18_4, hcz18_5, hcz18_6, hcz18_7, hcz18_8, hcz18_9⟩ := cells10 BK162.out; obtain ⟨hfz18_0, hfz18_1, hfz18_2, hfz18_3, -, -, -, -, -, -⟩ := frz10 BK162.out) | (go_at_call 57; (with_reducible refine (capnpref02_offset.calls a0_1 true _ A4.out).mono ?_); rintro e w' ⟨rfl, ⟨nd, rfl⟩⟩))
              go_ret
              exact ⟨by rfl, by repeat ((with_reducible first | exact HB.out | apply pw_below_drewN | refine below_set ?_ GE162.out))⟩
          · rw [if_neg c7] at H
            have c7b0 : decide (a0_2 ≤ 65535) = false := decide_eq_false c7
            clear c7
            obtain rfl := Option.some.inj H
            go_enter Tryd.func49, Tryd.ntmps49
            go_wp2_with (first | ((with_reducible refine gate_dst (N := 1) rfl ?_); refine box_event ?hg (N := 1) ?hd (cs := #[.int .i64 a0_0, .int .i64 a0_1, .int .i64 a0_2, .int .i64 a0_3, .int .i64 a0_4, .int .i64 a0_5, .bool a0_6, .int .i64 a0_7, .int .u32 a0_8, .int .u32 a0_9]) (t := 39) ?hr ?_; (case hd => rfl); (case hg => rfl); (case hr => (go_simp; done)); intro gb161 hg w19 hbox hb; replace HB := Aside0.mk (below_step HB.out hb); replace BK161 := Aside0.mk (hbox); clear hb hbox hg) | ((with_reducible refine gate_dst (N := 3) rfl ?_); refine box_event ?hg (N := 3) ?hd (cs := #[.int .i64 0, .int .i64 0, .int .i64 0, .int .i64 0, .int .i64 0, .int .i64 0, .bool false, .int .i64 0, .int .u32 0, .int .u32 0]) (t := 39) ?hr ?_; (case hd => rfl); (case hg => rfl); (case hr => (go_simp; done)); intro gb162 hg w20 hbox hb; replace BK162 := Aside0.mk (hbox); replace GE162 := Aside0.mk (ge_of HB.out hg); replace HB := Aside0.mk (below_step HB.out hb); replace NB162_161 := Aside0.mk (ne_r BK161.out hg); replace BK161 := Aside0.mk (blk_below BK161.out hb); clear hb hbox hg; have hnc21 := NB162_161.out; obtain ⟨hcz22_0, hcz22_1, hcz22_2, hcz22_3, hcz22_4, hcz22_5, hcz22_6, hcz22_7, hcz22_8, hcz22_9⟩ := cells10 BK161.out; obtain ⟨hcz23_0, hcz23_1, hcz23_2, hcz23_3, hcz23_4, hcz23_5, hcz23_6, hcz23_7, hcz23_8, hcz23_9⟩ := cells10 BK162.out; obtain ⟨hfz23_0, hfz23_1, hfz23_2, hfz23_3, -, -, -, -, -, -⟩ := frz10 BK162.out) | (go_at_call 57; (with_reducible refine (capnpref02_offset.calls a0_1 true _ A4.out).mono ?_); rintro e w' ⟨rfl, ⟨nd, rfl⟩⟩))
            go_ret
            exact ⟨by rfl, by repeat ((with_reducible first | exact HB.out | apply pw_below_drewN | refine below_set ?_ GE162.out))⟩
        · rw [if_neg c6] at H
          have c6b0 : decide (0 ≤ a0_2) = false := decide_eq_false c6
          clear c6
          obtain rfl := Option.some.inj H
          go_enter Tryd.func49, Tryd.ntmps49
          go_wp2_with (first | ((with_reducible refine gate_dst (N := 1) rfl ?_); refine box_event ?hg (N := 1) ?hd (cs := #[.int .i64 a0_0, .int .i64 a0_1, .int .i64 a0_2, .int .i64 a0_3, .int .i64 a0_4, .int .i64 a0_5, .bool a0_6, .int .i64 a0_7, .int .u32 a0_8, .int .u32 a0_9]) (t := 39) ?hr ?_; (case hd => rfl); (case hg => rfl); (case hr => (go_simp; done)); intro gb161 hg w24 hbox hb; replace HB := Aside0.mk (below_step HB.out hb); replace BK161 := Aside0.mk (hbox); clear hb hbox hg) | ((with_reducible refine gate_dst (N := 3) rfl ?_); refine box_event ?hg (N := 3) ?hd (cs := #[.int .i64 0, .int .i64 0, .int .i64 0, .int .i64 0, .int .i64 0, .int .i64 0, .bool false, .int .i64 0, .int .u32 0, .int .u32 0]) (t := 39) ?hr ?_; (case hd => rfl); (case hg => rfl); (case hr => (go_simp; done)); intro gb162 hg w25 hbox hb; replace BK162 := Aside0.mk (hbox); replace GE162 := Aside0.mk (ge_of HB.out hg); replace HB := Aside0.mk (below_step HB.out hb); replace NB162_161 := Aside0.mk (ne_r BK161.out hg); replace BK161 := Aside0.mk (blk_below BK161.out hb); clear hb hbox hg; have hnc26 := NB162_161.out; obtain ⟨hcz27_0, hcz27_1, hcz27_2, hcz27_3, hcz27_4, hcz27_5, hcz27_6, hcz27_7, hcz27_8, hcz27_9⟩ := cells10 BK161.out; obtain ⟨hcz28_0, hcz28_1, hcz28_2, hcz28_3, hcz28_4, hcz28_5, hcz28_6, hcz28_7, hcz28_8, hcz28_9⟩ := cells10 BK162.out; obtain ⟨hfz28_0, hfz28_1, hfz28_2, hfz28_3, -, -, -, -, -, -⟩ := frz10 BK162.out) | (go_at_call 57; (with_reducible refine (capnpref02_offset.calls a0_1 true _ A4.out).mono ?_); rintro e w' ⟨rfl, ⟨nd, rfl⟩⟩))
          go_ret
          exact ⟨by rfl, by repeat ((with_reducible first | exact HB.out | apply pw_below_drewN | refine below_set ?_ GE162.out))⟩
      · replace c5 := Bool.eq_false_iff.mpr c5
        subst c5
        have H1 : (some false) = some r := by rw [if_neg (show ¬ (false = true) by decide)] at H; exact H
        clear H
        have H := H1
        clear H1
        obtain rfl := Option.some.inj H
        go_enter Tryd.func49, Tryd.ntmps49
        go_wp2_with (first | ((with_reducible refine gate_dst (N := 1) rfl ?_); refine box_event ?hg (N := 1) ?hd (cs := #[.int .i64 a0_0, .int .i64 a0_1, .int .i64 a0_2, .int .i64 a0_3, .int .i64 a0_4, .int .i64 a0_5, .bool a0_6, .int .i64 a0_7, .int .u32 a0_8, .int .u32 a0_9]) (t := 39) ?hr ?_; (case hd => rfl); (case hg => rfl); (case hr => (go_simp; done)); intro gb161 hg w29 hbox hb; replace HB := Aside0.mk (below_step HB.out hb); replace BK161 := Aside0.mk (hbox); clear hb hbox hg) | ((with_reducible refine gate_dst (N := 3) rfl ?_); refine box_event ?hg (N := 3) ?hd (cs := #[.int .i64 0, .int .i64 0, .int .i64 0, .int .i64 0, .int .i64 0, .int .i64 0, .bool false, .int .i64 0, .int .u32 0, .int .u32 0]) (t := 39) ?hr ?_; (case hd => rfl); (case hg => rfl); (case hr => (go_simp; done)); intro gb162 hg w30 hbox hb; replace BK162 := Aside0.mk (hbox); replace GE162 := Aside0.mk (ge_of HB.out hg); replace HB := Aside0.mk (below_step HB.out hb); replace NB162_161 := Aside0.mk (ne_r BK161.out hg); replace BK161 := Aside0.mk (blk_below BK161.out hb); clear hb hbox hg; have hnc31 := NB162_161.out; obtain ⟨hcz32_0, hcz32_1, hcz32_2, hcz32_3, hcz32_4, hcz32_5, hcz32_6, hcz32_7, hcz32_8, hcz32_9⟩ := cells10 BK161.out; obtain ⟨hcz33_0, hcz33_1, hcz33_2, hcz33_3, hcz33_4, hcz33_5, hcz33_6, hcz33_7, hcz33_8, hcz33_9⟩ := cells10 BK162.out; obtain ⟨hfz33_0, hfz33_1, hfz33_2, hfz33_3, -, -, -, -, -, -⟩ := frz10 BK162.out) | (go_at_call 57; (with_reducible refine (capnpref02_offset.calls a0_1 false _ A4.out).mono ?_); rintro e w' ⟨rfl, ⟨nd, rfl⟩⟩))
        go_ret
        exact ⟨by rfl, by repeat ((with_reducible first | exact HB.out | apply pw_below_drewN | refine below_set ?_ GE162.out))⟩
    · rw [if_neg c3] at H
      have c3b0 : (0 == a0_4 && (0 == a0_5 && (!a0_6 && (0 == a0_7 && (0 == a0_8 && (0 == a0_9)))))) = false := by simpa using c3
      (try (skip))
      (try (skip))
      (try (skip))
      clear c3
      obtain rfl := Option.some.inj H
      go_enter Tryd.func49, Tryd.ntmps49
      go_wp2_with (first | ((with_reducible refine gate_dst (N := 1) rfl ?_); refine box_event ?hg (N := 1) ?hd (cs := #[.int .i64 a0_0, .int .i64 a0_1, .int .i64 a0_2, .int .i64 a0_3, .int .i64 a0_4, .int .i64 a0_5, .bool a0_6, .int .i64 a0_7, .int .u32 a0_8, .int .u32 a0_9]) (t := 39) ?hr ?_; (case hd => rfl); (case hg => rfl); (case hr => (go_simp; done)); intro gb161 hg w34 hbox hb; replace HB := Aside0.mk (below_step HB.out hb); replace BK161 := Aside0.mk (hbox); clear hb hbox hg) | ((with_reducible refine gate_dst (N := 3) rfl ?_); refine box_event ?hg (N := 3) ?hd (cs := #[.int .i64 0, .int .i64 0, .int .i64 0, .int .i64 0, .int .i64 0, .int .i64 0, .bool false, .int .i64 0, .int .u32 0, .int .u32 0]) (t := 39) ?hr ?_; (case hd => rfl); (case hg => rfl); (case hr => (go_simp; done)); intro gb162 hg w35 hbox hb; replace BK162 := Aside0.mk (hbox); replace GE162 := Aside0.mk (ge_of HB.out hg); replace HB := Aside0.mk (below_step HB.out hb); replace NB162_161 := Aside0.mk (ne_r BK161.out hg); replace BK161 := Aside0.mk (blk_below BK161.out hb); clear hb hbox hg; have hnc36 := NB162_161.out; obtain ⟨hcz37_0, hcz37_1, hcz37_2, hcz37_3, hcz37_4, hcz37_5, hcz37_6, hcz37_7, hcz37_8, hcz37_9⟩ := cells10 BK161.out; obtain ⟨hcz38_0, hcz38_1, hcz38_2, hcz38_3, hcz38_4, hcz38_5, hcz38_6, hcz38_7, hcz38_8, hcz38_9⟩ := cells10 BK162.out; obtain ⟨hfz38_0, hfz38_1, hfz38_2, hfz38_3, -, -, -, -, -, -⟩ := frz10 BK162.out))
      go_ret
      exact ⟨by rfl, by repeat ((with_reducible first | exact HB.out | refine below_set ?_ GE162.out))⟩
  · rw [if_neg c2] at H
    have c2b0 : (a0_0 == 0) = false := beq_eq_false_iff_ne.mpr c2
    by_cases c39 : a0_0 = 1
    · rw [if_pos c39] at H
      have c39b0 : (a0_0 == 1) = true := beq_iff_eq.mpr c39
      clear c39
      by_cases c40 : (0 == a0_2 && (0 == a0_3 && (!a0_6 && (0 == a0_7 && (0 == a0_8 && (0 == a0_9)))))) = true
      · rw [if_pos c40] at H
        have c40b0 : (0 == a0_2 && (0 == a0_3 && (!a0_6 && (0 == a0_7 && (0 == a0_8 && (0 == a0_9)))))) = true := c40
        (try (skip))
        (try (skip))
        clear c40
        replace H := Option.bind_eq_some_iff.mp H
        obtain ⟨t164, A410, H⟩ := H
        have A41 := Aside0.mk A410
        clear A410
        by_cases c42 : t164 = true
        · subst c42
          have H1 : (if a0_4 ≥ 0 then (if a0_4 ≤ 7 then (if a0_5 ≥ 0 then (some (decide (a0_5 ≤ 536870911))) else (some false)) else (some false)) else (some false)) = some r := by rw [if_pos rfl] at H; exact H
          clear H
          have H := H1
          clear H1
          by_cases c43 : a0_4 ≥ 0
          · rw [if_pos c43] at H
            have c43b0 : decide (0 ≤ a0_4) = true := decide_eq_true c43
            clear c43
            by_cases c44 : a0_4 ≤ 7
            · rw [if_pos c44] at H
              have c44b0 : decide (a0_4 ≤ 7) = true := decide_eq_true c44
              clear c44
              by_cases c45 : a0_5 ≥ 0
              · rw [if_pos c45] at H
                have c45b0 : decide (0 ≤ a0_5) = true := decide_eq_true c45
                clear c45
                obtain rfl := Option.some.inj H
                go_enter Tryd.func49, Tryd.ntmps49
                go_wp2_with (first | ((with_reducible refine gate_dst (N := 1) rfl ?_); refine box_event ?hg (N := 1) ?hd (cs := #[.int .i64 a0_0, .int .i64 a0_1, .int .i64 a0_2, .int .i64 a0_3, .int .i64 a0_4, .int .i64 a0_5, .bool a0_6, .int .i64 a0_7, .int .u32 a0_8, .int .u32 a0_9]) (t := 39) ?hr ?_; (case hd => rfl); (case hg => rfl); (case hr => (go_simp; done)); intro gb161 hg w46 hbox hb; replace HB := Aside0.mk (below_step HB.out hb); replace BK161 := Aside0.mk (hbox); clear hb hbox hg) | ((with_reducible refine gate_dst (N := 3) rfl ?_); refine box_event ?hg (N := 3) ?hd (cs := #[.int .i64 0, .int .i64 0, .int .i64 0, .int .i64 0, .int .i64 0, .int .i64 0, .bool false, .int .i64 0, .int .u32 0, .int .u32 0]) (t := 39) ?hr ?_; (case hd => rfl); (case hg => rfl); (case hr => (go_simp; done)); intro gb162 hg w47 hbox hb; replace BK162 := Aside0.mk (hbox); replace GE162 := Aside0.mk (ge_of HB.out hg); replace HB := Aside0.mk (below_step HB.out hb); replace NB162_161 := Aside0.mk (ne_r BK161.out hg); replace BK161 := Aside0.mk (blk_below BK161.out hb); clear hb hbox hg; have hnc48 := NB162_161.out; obtain ⟨hcz49_0, hcz49_1, hcz49_2, hcz49_3, hcz49_4, hcz49_5, hcz49_6, hcz49_7, hcz49_8, hcz49_9⟩ := cells10 BK161.out; obtain ⟨hcz50_0, hcz50_1, hcz50_2, hcz50_3, hcz50_4, hcz50_5, hcz50_6, hcz50_7, hcz50_8, hcz50_9⟩ := cells10 BK162.out; obtain ⟨hfz50_0, hfz50_1, -, -, hfz50_4, hfz50_5, -, -, -, -⟩ := frz10 BK162.out) | (go_at_call 57; (with_reducible refine (capnpref02_offset.calls a0_1 true _ A41.out).mono ?_); rintro e w' ⟨rfl, ⟨nd, rfl⟩⟩))
                go_ret
                exact ⟨by rfl, by repeat ((with_reducible first | exact HB.out | apply pw_below_drewN | refine below_set ?_ GE162.out))⟩
              · rw [if_neg c45] at H
                have c45b0 : decide (0 ≤ a0_5) = false := decide_eq_false c45
                clear c45
                obtain rfl := Option.some.inj H
                go_enter Tryd.func49, Tryd.ntmps49
                go_wp2_with (first | ((with_reducible refine gate_dst (N := 1) rfl ?_); refine box_event ?hg (N := 1) ?hd (cs := #[.int .i64 a0_0, .int .i64 a0_1, .int .i64 a0_2, .int .i64 a0_3, .int .i64 a0_4, .int .i64 a0_5, .bool a0_6, .int .i64 a0_7, .int .u32 a0_8, .int .u32 a0_9]) (t := 39) ?hr ?_; (case hd => rfl); (case hg => rfl); (case hr => (go_simp; done)); intro gb161 hg w51 hbox hb; replace HB := Aside0.mk (below_step HB.out hb); replace BK161 := Aside0.mk (hbox); clear hb hbox hg) | ((with_reducible refine gate_dst (N := 3) rfl ?_); refine box_event ?hg (N := 3) ?hd (cs := #[.int .i64 0, .int .i64 0, .int .i64 0, .int .i64 0, .int .i64 0, .int .i64 0, .bool false, .int .i64 0, .int .u32 0, .int .u32 0]) (t := 39) ?hr ?_; (case hd => rfl); (case hg => rfl); (case hr => (go_simp; done)); intro gb162 hg w52 hbox hb; replace BK162 := Aside0.mk (hbox); replace GE162 := Aside0.mk (ge_of HB.out hg); replace HB := Aside0.mk (below_step HB.out hb); replace NB162_161 := Aside0.mk (ne_r BK161.out hg); replace BK161 := Aside0.mk (blk_below BK161.out hb); clear hb hbox hg; have hnc53 := NB162_161.out; obtain ⟨hcz54_0, hcz54_1, hcz54_2, hcz54_3, hcz54_4, hcz54_5, hcz54_6, hcz54_7, hcz54_8, hcz54_9⟩ := cells10 BK161.out; obtain ⟨hcz55_0, hcz55_1, hcz55_2, hcz55_3, hcz55_4, hcz55_5, hcz55_6, hcz55_7, hcz55_8, hcz55_9⟩ := cells10 BK162.out; obtain ⟨hfz55_0, hfz55_1, -, -, hfz55_4, hfz55_5, -, -, -, -⟩ := frz10 BK162.out) | (go_at_call 57; (with_reducible refine (capnpref02_offset.calls a0_1 true _ A41.out).mono ?_); rintro e w' ⟨rfl, ⟨nd, rfl⟩⟩))
                go_ret
                exact ⟨by rfl, by repeat ((with_reducible first | exact HB.out | apply pw_below_drewN | refine below_set ?_ GE162.out))⟩
            · rw [if_neg c44] at H
              have c44b0 : decide (a0_4 ≤ 7) = false := decide_eq_false c44
              clear c44
              obtain rfl := Option.some.inj H
              go_enter Tryd.func49, Tryd.ntmps49
              go_wp2_with (first | ((with_reducible refine gate_dst (N := 1) rfl ?_); refine box_event ?hg (N := 1) ?hd (cs := #[.int .i64 a0_0, .int .i64 a0_1, .int .i64 a0_2, .int .i64 a0_3, .int .i64 a0_4, .int .i64 a0_5, .bool a0_6, .int .i64 a0_7, .int .u32 a0_8, .int .u32 a0_9]) (t := 39) ?hr ?_; (case hd => rfl); (case hg => rfl); (case hr => (go_simp; done)); intro gb161 hg w56 hbox hb; replace HB := Aside0.mk (below_step HB.out hb); replace BK161 := Aside0.mk (hbox); clear hb hbox hg) | ((with_reducible refine gate_dst (N := 3) rfl ?_); refine box_event ?hg (N := 3) ?hd (cs := #[.int .i64 0, .int .i64 0, .int .i64 0, .int .i64 0, .int .i64 0, .int .i64 0, .bool false, .int .i64 0, .int .u32 0, .int .u32 0]) (t := 39) ?hr ?_; (case hd => rfl); (case hg => rfl); (case hr => (go_simp; done)); intro gb162 hg w57 hbox hb; replace BK162 := Aside0.mk (hbox); replace GE162 := Aside0.mk (ge_of HB.out hg); replace HB := Aside0.mk (below_step HB.out hb); replace NB162_161 := Aside0.mk (ne_r BK161.out hg); replace BK161 := Aside0.mk (blk_below BK161.out hb); clear hb hbox hg; have hnc58 := NB162_161.out; obtain ⟨hcz59_0, hcz59_1, hcz59_2, hcz59_3, hcz59_4, hcz59_5, hcz59_6, hcz59_7, hcz59_8, hcz59_9⟩ := cells10 BK161.out; obtain ⟨hcz60_0, hcz60_1, hcz60_2, hcz60_3, hcz60_4, hcz60_5, hcz60_6, hcz60_7, hcz60_8, hcz60_9⟩ := cells10 BK162.out; obtain ⟨hfz60_0, hfz60_1, -, -, hfz60_4, hfz60_5, -, -, -, -⟩ := frz10 BK162.out) | (go_at_call 57; (with_reducible refine (capnpref02_offset.calls a0_1 true _ A41.out).mono ?_); rintro e w' ⟨rfl, ⟨nd, rfl⟩⟩))
              go_ret
              exact ⟨by rfl, by repeat ((with_reducible first | exact HB.out | apply pw_below_drewN | refine below_set ?_ GE162.out))⟩
          · rw [if_neg c43] at H
            have c43b0 : decide (0 ≤ a0_4) = false := decide_eq_false c43
            clear c43
            obtain rfl := Option.some.inj H
            go_enter Tryd.func49, Tryd.ntmps49
            go_wp2_with (first | ((with_reducible refine gate_dst (N := 1) rfl ?_); refine box_event ?hg (N := 1) ?hd (cs := #[.int .i64 a0_0, .int .i64 a0_1, .int .i64 a0_2, .int .i64 a0_3, .int .i64 a0_4, .int .i64 a0_5, .bool a0_6, .int .i64 a0_7, .int .u32 a0_8, .int .u32 a0_9]) (t := 39) ?hr ?_; (case hd => rfl); (case hg => rfl); (case hr => (go_simp; done)); intro gb161 hg w61 hbox hb; replace HB := Aside0.mk (below_step HB.out hb); replace BK161 := Aside0.mk (hbox); clear hb hbox hg) | ((with_reducible refine gate_dst (N := 3) rfl ?_); refine box_event ?hg (N := 3) ?hd (cs := #[.int .i64 0, .int .i64 0, .int .i64 0, .int .i64 0, .int .i64 0, .int .i64 0, .bool false, .int .i64 0, .int .u32 0, .int .u32 0]) (t := 39) ?hr ?_; (case hd => rfl); (case hg => rfl); (case hr => (go_simp; done)); intro gb162 hg w62 hbox hb; replace BK162 := Aside0.mk (hbox); replace GE162 := Aside0.mk (ge_of HB.out hg); replace HB := Aside0.mk (below_step HB.out hb); replace NB162_161 := Aside0.mk (ne_r BK161.out hg); replace BK161 := Aside0.mk (blk_below BK161.out hb); clear hb hbox hg; have hnc63 := NB162_161.out; obtain ⟨hcz64_0, hcz64_1, hcz64_2, hcz64_3, hcz64_4, hcz64_5, hcz64_6, hcz64_7, hcz64_8, hcz64_9⟩ := cells10 BK161.out; obtain ⟨hcz65_0, hcz65_1, hcz65_2, hcz65_3, hcz65_4, hcz65_5, hcz65_6, hcz65_7, hcz65_8, hcz65_9⟩ := cells10 BK162.out; obtain ⟨hfz65_0, hfz65_1, -, -, hfz65_4, hfz65_5, -, -, -, -⟩ := frz10 BK162.out) | (go_at_call 57; (with_reducible refine (capnpref02_offset.calls a0_1 true _ A41.out).mono ?_); rintro e w' ⟨rfl, ⟨nd, rfl⟩⟩))
            go_ret
            exact ⟨by rfl, by repeat ((with_reducible first | exact HB.out | apply pw_below_drewN | refine below_set ?_ GE162.out))⟩
        · replace c42 := Bool.eq_false_iff.mpr c42
          subst c42
          have H1 : (some false) = some r := by rw [if_neg (show ¬ (false = true) by decide)] at H; exact H
          clear H
          have H := H1
          clear H1
          obtain rfl := Option.some.inj H
          go_enter Tryd.func49, Tryd.ntmps49
          go_wp2_with (first | ((with_reducible refine gate_dst (N := 1) rfl ?_); refine box_event ?hg (N := 1) ?hd (cs := #[.int .i64 a0_0, .int .i64 a0_1, .int .i64 a0_2, .int .i64 a0_3, .int .i64 a0_4, .int .i64 a0_5, .bool a0_6, .int .i64 a0_7, .int .u32 a0_8, .int .u32 a0_9]) (t := 39) ?hr ?_; (case hd => rfl); (case hg => rfl); (case hr => (go_simp; done)); intro gb161 hg w66 hbox hb; replace HB := Aside0.mk (below_step HB.out hb); replace BK161 := Aside0.mk (hbox); clear hb hbox hg) | ((with_reducible refine gate_dst (N := 3) rfl ?_); refine box_event ?hg (N := 3) ?hd (cs := #[.int .i64 0, .int .i64 0, .int .i64 0, .int .i64 0, .int .i64 0, .int .i64 0, .bool false, .int .i64 0, .int .u32 0, .int .u32 0]) (t := 39) ?hr ?_; (case hd => rfl); (case hg => rfl); (case hr => (go_simp; done)); intro gb162 hg w67 hbox hb; replace BK162 := Aside0.mk (hbox); replace GE162 := Aside0.mk (ge_of HB.out hg); replace HB := Aside0.mk (below_step HB.out hb); replace NB162_161 := Aside0.mk (ne_r BK161.out hg); replace BK161 := Aside0.mk (blk_below BK161.out hb); clear hb hbox hg; have hnc68 := NB162_161.out; obtain ⟨hcz69_0, hcz69_1, hcz69_2, hcz69_3, hcz69_4, hcz69_5, hcz69_6, hcz69_7, hcz69_8, hcz69_9⟩ := cells10 BK161.out; obtain ⟨hcz70_0, hcz70_1, hcz70_2, hcz70_3, hcz70_4, hcz70_5, hcz70_6, hcz70_7, hcz70_8, hcz70_9⟩ := cells10 BK162.out; obtain ⟨hfz70_0, hfz70_1, -, -, hfz70_4, hfz70_5, -, -, -, -⟩ := frz10 BK162.out) | (go_at_call 57; (with_reducible refine (capnpref02_offset.calls a0_1 false _ A41.out).mono ?_); rintro e w' ⟨rfl, ⟨nd, rfl⟩⟩))
          go_ret
          exact ⟨by rfl, by repeat ((with_reducible first | exact HB.out | apply pw_below_drewN | refine below_set ?_ GE162.out))⟩
      · rw [if_neg c40] at H
        have c40b0 : (0 == a0_2 && (0 == a0_3 && (!a0_6 && (0 == a0_7 && (0 == a0_8 && (0 == a0_9)))))) = false := by simpa using c40
        (try (skip))
        (try (skip))
        (try (skip))
        clear c40
        obtain rfl := Option.some.inj H
        go_enter Tryd.func49, Tryd.ntmps49
        go_wp2_with (first | ((with_reducible refine gate_dst (N := 1) rfl ?_); refine box_event ?hg (N := 1) ?hd (cs := #[.int .i64 a0_0, .int .i64 a0_1, .int .i64 a0_2, .int .i64 a0_3, .int .i64 a0_4, .int .i64 a0_5, .bool a0_6, .int .i64 a0_7, .int .u32 a0_8, .int .u32 a0_9]) (t := 39) ?hr ?_; (case hd => rfl); (case hg => rfl); (case hr => (go_simp; done)); intro gb161 hg w71 hbox hb; replace HB := Aside0.mk (below_step HB.out hb); replace BK161 := Aside0.mk (hbox); clear hb hbox hg) | ((with_reducible refine gate_dst (N := 3) rfl ?_); refine box_event ?hg (N := 3) ?hd (cs := #[.int .i64 0, .int .i64 0, .int .i64 0, .int .i64 0, .int .i64 0, .int .i64 0, .bool false, .int .i64 0, .int .u32 0, .int .u32 0]) (t := 39) ?hr ?_; (case hd => rfl); (case hg => rfl); (case hr => (go_simp; done)); intro gb162 hg w72 hbox hb; replace BK162 := Aside0.mk (hbox); replace GE162 := Aside0.mk (ge_of HB.out hg); replace HB := Aside0.mk (below_step HB.out hb); replace NB162_161 := Aside0.mk (ne_r BK161.out hg); replace BK161 := Aside0.mk (blk_below BK161.out hb); clear hb hbox hg; have hnc73 := NB162_161.out; obtain ⟨hcz74_0, hcz74_1, hcz74_2, hcz74_3, hcz74_4, hcz74_5, hcz74_6, hcz74_7, hcz74_8, hcz74_9⟩ := cells10 BK161.out; obtain ⟨hcz75_0, hcz75_1, hcz75_2, hcz75_3, hcz75_4, hcz75_5, hcz75_6, hcz75_7, hcz75_8, hcz75_9⟩ := cells10 BK162.out; obtain ⟨hfz75_0, hfz75_1, -, -, hfz75_4, hfz75_5, -, -, -, -⟩ := frz10 BK162.out))
        go_ret
        exact ⟨by rfl, by repeat ((with_reducible first | exact HB.out | refine below_set ?_ GE162.out))⟩
    · rw [if_neg c39] at H
      have c39b0 : (a0_0 == 1) = false := beq_eq_false_iff_ne.mpr c39
      by_cases c76 : a0_0 = 2
      · rw [if_pos c76] at H
        have c76b0 : (a0_0 == 2) = true := beq_iff_eq.mpr c76
        clear c76
        by_cases c77 : (0 == a0_1 && (0 == a0_2 && (0 == a0_3 && (0 == a0_4 && (0 == a0_5 && (0 == a0_9)))))) = true
        · rw [if_pos c77] at H
          have c77b0 : (0 == a0_1 && (0 == a0_2 && (0 == a0_3 && (0 == a0_4 && (0 == a0_5 && (0 == a0_9)))))) = true := c77
          (try (skip))
          (try (skip))
          clear c77
          by_cases c78 : a0_7 ≥ 0
          · rw [if_pos c78] at H
            have c78b0 : decide (0 ≤ a0_7) = true := decide_eq_true c78
            clear c78
            obtain rfl := Option.some.inj H
            go_enter Tryd.func49, Tryd.ntmps49
            go_wp2_with (first | ((with_reducible refine gate_dst (N := 1) rfl ?_); refine box_event ?hg (N := 1) ?hd (cs := #[.int .i64 a0_0, .int .i64 a0_1, .int .i64 a0_2, .int .i64 a0_3, .int .i64 a0_4, .int .i64 a0_5, .bool a0_6, .int .i64 a0_7, .int .u32 a0_8, .int .u32 a0_9]) (t := 39) ?hr ?_; (case hd => rfl); (case hg => rfl); (case hr => (go_simp; done)); intro gb161 hg w79 hbox hb; replace HB := Aside0.mk (below_step HB.out hb); replace BK161 := Aside0.mk (hbox); clear hb hbox hg) | ((with_reducible refine gate_dst (N := 3) rfl ?_); refine box_event ?hg (N := 3) ?hd (cs := #[.int .i64 0, .int .i64 0, .int .i64 0, .int .i64 0, .int .i64 0, .int .i64 0, .bool false, .int .i64 0, .int .u32 0, .int .u32 0]) (t := 39) ?hr ?_; (case hd => rfl); (case hg => rfl); (case hr => (go_simp; done)); intro gb162 hg w80 hbox hb; replace BK162 := Aside0.mk (hbox); replace GE162 := Aside0.mk (ge_of HB.out hg); replace HB := Aside0.mk (below_step HB.out hb); replace NB162_161 := Aside0.mk (ne_r BK161.out hg); replace BK161 := Aside0.mk (blk_below BK161.out hb); clear hb hbox hg; have hnc81 := NB162_161.out; obtain ⟨hcz82_0, hcz82_1, hcz82_2, hcz82_3, hcz82_4, hcz82_5, hcz82_6, hcz82_7, hcz82_8, hcz82_9⟩ := cells10 BK161.out; obtain ⟨hcz83_0, hcz83_1, hcz83_2, hcz83_3, hcz83_4, hcz83_5, hcz83_6, hcz83_7, hcz83_8, hcz83_9⟩ := cells10 BK162.out; obtain ⟨hfz83_0, -, -, -, -, -, hfz83_6, hfz83_7, hfz83_8, -⟩ := frz10 BK162.out))
            go_ret
            exact ⟨by rfl, by repeat ((with_reducible first | exact HB.out | refine below_set ?_ GE162.out))⟩
          · rw [if_neg c78] at H
            have c78b0 : decide (0 ≤ a0_7) = false := decide_eq_false c78
            clear c78
            obtain rfl := Option.some.inj H
            go_enter Tryd.func49, Tryd.ntmps49
            go_wp2_with (first | ((with_reducible refine gate_dst (N := 1) rfl ?_); refine box_event ?hg (N := 1) ?hd (cs := #[.int .i64 a0_0, .int .i64 a0_1, .int .i64 a0_2, .int .i64 a0_3, .int .i64 a0_4, .int .i64 a0_5, .bool a0_6, .int .i64 a0_7, .int .u32 a0_8, .int .u32 a0_9]) (t := 39) ?hr ?_; (case hd => rfl); (case hg => rfl); (case hr => (go_simp; done)); intro gb161 hg w84 hbox hb; replace HB := Aside0.mk (below_step HB.out hb); replace BK161 := Aside0.mk (hbox); clear hb hbox hg) | ((with_reducible refine gate_dst (N := 3) rfl ?_); refine box_event ?hg (N := 3) ?hd (cs := #[.int .i64 0, .int .i64 0, .int .i64 0, .int .i64 0, .int .i64 0, .int .i64 0, .bool false, .int .i64 0, .int .u32 0, .int .u32 0]) (t := 39) ?hr ?_; (case hd => rfl); (case hg => rfl); (case hr => (go_simp; done)); intro gb162 hg w85 hbox hb; replace BK162 := Aside0.mk (hbox); replace GE162 := Aside0.mk (ge_of HB.out hg); replace HB := Aside0.mk (below_step HB.out hb); replace NB162_161 := Aside0.mk (ne_r BK161.out hg); replace BK161 := Aside0.mk (blk_below BK161.out hb); clear hb hbox hg; have hnc86 := NB162_161.out; obtain ⟨hcz87_0, hcz87_1, hcz87_2, hcz87_3, hcz87_4, hcz87_5, hcz87_6, hcz87_7, hcz87_8, hcz87_9⟩ := cells10 BK161.out; obtain ⟨hcz88_0, hcz88_1, hcz88_2, hcz88_3, hcz88_4, hcz88_5, hcz88_6, hcz88_7, hcz88_8, hcz88_9⟩ := cells10 BK162.out; obtain ⟨hfz88_0, -, -, -, -, -, hfz88_6, hfz88_7, hfz88_8, -⟩ := frz10 BK162.out))
            go_ret
            exact ⟨by rfl, by repeat ((with_reducible first | exact HB.out | refine below_set ?_ GE162.out))⟩
        · rw [if_neg c77] at H
          have c77b0 : (0 == a0_1 && (0 == a0_2 && (0 == a0_3 && (0 == a0_4 && (0 == a0_5 && (0 == a0_9)))))) = false := by simpa using c77
          (try (skip))
          (try (skip))
          (try (skip))
          clear c77
          obtain rfl := Option.some.inj H
          go_enter Tryd.func49, Tryd.ntmps49
          go_wp2_with (first | ((with_reducible refine gate_dst (N := 1) rfl ?_); refine box_event ?hg (N := 1) ?hd (cs := #[.int .i64 a0_0, .int .i64 a0_1, .int .i64 a0_2, .int .i64 a0_3, .int .i64 a0_4, .int .i64 a0_5, .bool a0_6, .int .i64 a0_7, .int .u32 a0_8, .int .u32 a0_9]) (t := 39) ?hr ?_; (case hd => rfl); (case hg => rfl); (case hr => (go_simp; done)); intro gb161 hg w89 hbox hb; replace HB := Aside0.mk (below_step HB.out hb); replace BK161 := Aside0.mk (hbox); clear hb hbox hg) | ((with_reducible refine gate_dst (N := 3) rfl ?_); refine box_event ?hg (N := 3) ?hd (cs := #[.int .i64 0, .int .i64 0, .int .i64 0, .int .i64 0, .int .i64 0, .int .i64 0, .bool false, .int .i64 0, .int .u32 0, .int .u32 0]) (t := 39) ?hr ?_; (case hd => rfl); (case hg => rfl); (case hr => (go_simp; done)); intro gb162 hg w90 hbox hb; replace BK162 := Aside0.mk (hbox); replace GE162 := Aside0.mk (ge_of HB.out hg); replace HB := Aside0.mk (below_step HB.out hb); replace NB162_161 := Aside0.mk (ne_r BK161.out hg); replace BK161 := Aside0.mk (blk_below BK161.out hb); clear hb hbox hg; have hnc91 := NB162_161.out; obtain ⟨hcz92_0, hcz92_1, hcz92_2, hcz92_3, hcz92_4, hcz92_5, hcz92_6, hcz92_7, hcz92_8, hcz92_9⟩ := cells10 BK161.out; obtain ⟨hcz93_0, hcz93_1, hcz93_2, hcz93_3, hcz93_4, hcz93_5, hcz93_6, hcz93_7, hcz93_8, hcz93_9⟩ := cells10 BK162.out; obtain ⟨hfz93_0, -, -, -, -, -, hfz93_6, hfz93_7, hfz93_8, -⟩ := frz10 BK162.out))
          go_ret
          exact ⟨by rfl, by repeat ((with_reducible first | exact HB.out | refine below_set ?_ GE162.out))⟩
      · rw [if_neg c76] at H
        have c76b0 : (a0_0 == 2) = false := beq_eq_false_iff_ne.mpr c76
        by_cases c94 : a0_0 = 3
        · rw [if_pos c94] at H
          have c94b0 : (a0_0 == 3) = true := beq_iff_eq.mpr c94
          clear c94
          by_cases c95 : (0 == a0_1 && (0 == a0_2 && (0 == a0_3 && (0 == a0_4 && (0 == a0_5 && (!a0_6 && (0 == a0_7))))))) = true
          · rw [if_pos c95] at H
            have c95b0 : (0 == a0_1 && (0 == a0_2 && (0 == a0_3 && (0 == a0_4 && (0 == a0_5 && (!a0_6 && (0 == a0_7))))))) = true := c95
            (try (skip))
            (try (skip))
            clear c95
            obtain rfl := Option.some.inj H
            go_enter Tryd.func49, Tryd.ntmps49
            go_wp2_with (first | ((with_reducible refine gate_dst (N := 1) rfl ?_); refine box_event ?hg (N := 1) ?hd (cs := #[.int .i64 a0_0, .int .i64 a0_1, .int .i64 a0_2, .int .i64 a0_3, .int .i64 a0_4, .int .i64 a0_5, .bool a0_6, .int .i64 a0_7, .int .u32 a0_8, .int .u32 a0_9]) (t := 39) ?hr ?_; (case hd => rfl); (case hg => rfl); (case hr => (go_simp; done)); intro gb161 hg w96 hbox hb; replace HB := Aside0.mk (below_step HB.out hb); replace BK161 := Aside0.mk (hbox); clear hb hbox hg) | ((with_reducible refine gate_dst (N := 3) rfl ?_); refine box_event ?hg (N := 3) ?hd (cs := #[.int .i64 0, .int .i64 0, .int .i64 0, .int .i64 0, .int .i64 0, .int .i64 0, .bool false, .int .i64 0, .int .u32 0, .int .u32 0]) (t := 39) ?hr ?_; (case hd => rfl); (case hg => rfl); (case hr => (go_simp; done)); intro gb162 hg w97 hbox hb; replace BK162 := Aside0.mk (hbox); replace GE162 := Aside0.mk (ge_of HB.out hg); replace HB := Aside0.mk (below_step HB.out hb); replace NB162_161 := Aside0.mk (ne_r BK161.out hg); replace BK161 := Aside0.mk (blk_below BK161.out hb); clear hb hbox hg; have hnc98 := NB162_161.out; obtain ⟨hcz99_0, hcz99_1, hcz99_2, hcz99_3, hcz99_4, hcz99_5, hcz99_6, hcz99_7, hcz99_8, hcz99_9⟩ := cells10 BK161.out; obtain ⟨hcz100_0, hcz100_1, hcz100_2, hcz100_3, hcz100_4, hcz100_5, hcz100_6, hcz100_7, hcz100_8, hcz100_9⟩ := cells10 BK162.out; obtain ⟨hfz100_0, -, -, -, -, -, -, -, hfz100_8, hfz100_9⟩ := frz10 BK162.out))
            go_ret
            exact ⟨by rfl, by repeat ((with_reducible first | exact HB.out | refine below_set ?_ GE162.out))⟩
          · rw [if_neg c95] at H
            have c95b0 : (0 == a0_1 && (0 == a0_2 && (0 == a0_3 && (0 == a0_4 && (0 == a0_5 && (!a0_6 && (0 == a0_7))))))) = false := by simpa using c95
            (try (skip))
            (try (skip))
            (try (skip))
            clear c95
            obtain rfl := Option.some.inj H
            go_enter Tryd.func49, Tryd.ntmps49
            go_wp2_with (first | ((with_reducible refine gate_dst (N := 1) rfl ?_); refine box_event ?hg (N := 1) ?hd (cs := #[.int .i64 a0_0, .int .i64 a0_1, .int .i64 a0_2, .int .i64 a0_3, .int .i64 a0_4, .int .i64 a0_5, .bool a0_6, .int .i64 a0_7, .int .u32 a0_8, .int .u32 a0_9]) (t := 39) ?hr ?_; (case hd => rfl); (case hg => rfl); (case hr => (go_simp; done)); intro gb161 hg w101 hbox hb; replace HB := Aside0.mk (below_step HB.out hb); replace BK161 := Aside0.mk (hbox); clear hb hbox hg) | ((with_reducible refine gate_dst (N := 3) rfl ?_); refine box_event ?hg (N := 3) ?hd (cs := #[.int .i64 0, .int .i64 0, .int .i64 0, .int .i64 0, .int .i64 0, .int .i64 0, .bool false, .int .i64 0, .int .u32 0, .int .u32 0]) (t := 39) ?hr ?_; (case hd => rfl); (case hg => rfl); (case hr => (go_simp; done)); intro gb162 hg w102 hbox hb; replace BK162 := Aside0.mk (hbox); replace GE162 := Aside0.mk (ge_of HB.out hg); replace HB := Aside0.mk (below_step HB.out hb); replace NB162_161 := Aside0.mk (ne_r BK161.out hg); replace BK161 := Aside0.mk (blk_below BK161.out hb); clear hb hbox hg; have hnc103 := NB162_161.out; obtain ⟨hcz104_0, hcz104_1, hcz104_2, hcz104_3, hcz104_4, hcz104_5, hcz104_6, hcz104_7, hcz104_8, hcz104_9⟩ := cells10 BK161.out; obtain ⟨hcz105_0, hcz105_1, hcz105_2, hcz105_3, hcz105_4, hcz105_5, hcz105_6, hcz105_7, hcz105_8, hcz105_9⟩ := cells10 BK162.out; obtain ⟨hfz105_0, -, -, -, -, -, -, -, hfz105_8, hfz105_9⟩ := frz10 BK162.out))
            go_ret
            exact ⟨by rfl, by repeat ((with_reducible first | exact HB.out | refine below_set ?_ GE162.out))⟩
        · rw [if_neg c94] at H
          have c94b0 : (a0_0 == 3) = false := beq_eq_false_iff_ne.mpr c94
          obtain rfl := Option.some.inj H
          go_enter Tryd.func49, Tryd.ntmps49
          go_wp2_with (first | ((with_reducible refine gate_dst (N := 1) rfl ?_); refine box_event ?hg (N := 1) ?hd (cs := #[.int .i64 a0_0, .int .i64 a0_1, .int .i64 a0_2, .int .i64 a0_3, .int .i64 a0_4, .int .i64 a0_5, .bool a0_6, .int .i64 a0_7, .int .u32 a0_8, .int .u32 a0_9]) (t := 39) ?hr ?_; (case hd => rfl); (case hg => rfl); (case hr => (go_simp; done)); intro gb161 hg w106 hbox hb; replace HB := Aside0.mk (below_step HB.out hb); replace BK161 := Aside0.mk (hbox); clear hb hbox hg) | ((with_reducible refine gate_dst (N := 3) rfl ?_); refine box_event ?hg (N := 3) ?hd (cs := #[.int .i64 0, .int .i64 0, .int .i64 0, .int .i64 0, .int .i64 0, .int .i64 0, .bool false, .int .i64 0, .int .u32 0, .int .u32 0]) (t := 39) ?hr ?_; (case hd => rfl); (case hg => rfl); (case hr => (go_simp; done)); intro gb162 hg w107 hbox hb; replace BK162 := Aside0.mk (hbox); replace GE162 := Aside0.mk (ge_of HB.out hg); replace HB := Aside0.mk (below_step HB.out hb); replace NB162_161 := Aside0.mk (ne_r BK161.out hg); replace BK161 := Aside0.mk (blk_below BK161.out hb); clear hb hbox hg; have hnc108 := NB162_161.out; have hcz109_0 : w107.cell? ⟨gb161, 0, none⟩ = some (.int .i64 a0_0) := (blk_cell BK161.out 0).trans rfl; have hcz110_0 : w107.cell? ⟨gb162, 0, none⟩ = some (.int .i64 0) := (blk_cell BK162.out 0).trans rfl; have hfz110_0 := blk_frozen BK162.out 0))
          go_ret
          exact ⟨by rfl, by repeat ((with_reducible first | exact HB.out | refine below_set ?_ GE162.out))⟩

end Go.Proofs.YtcjhejopcghgnaaDoor.P

namespace Go.Proofs.YtcjhejopcghgnaaDoor.P
open Go.RowKit Go.Proofs.YtcjhejopcghgnaaDoorW.PrintWords Go.Proofs.YtcjhejopcghgnaaDoorW.PrintLast Go.Proofs.YtcjhejopcghgnaaDoorW.PrintMore
attribute [local go_sem] max2_int min2_int max_two min_two max_three min_three max_four min_four   -- for this text's walks alone
set_option linter.unusedVariables false
set_option linter.unusedSimpArgs false

variable {gb : Bool}
/-! ### capnpref02_Encode: function 37 -/
def capnpref02_Encode.j0 : Nat → Int → Int → Int → Int → Int → Int → Int → Int → Bool → Int → Int → Int → Option (Int × Bool)
  | 0, _, _, _, _, _, _, _, _, _, _, _, _ => none
  | k + 1, x4, x5, x166000, x166001, x166002, x166003, x166004, x166005, x166006, x166007, x166008, x166009 => if x166000 = 0 then (some (IntKind.u64.wrap ((IntKind.u64.wrap ((IntKind.u64.wrap (x4 + (IntKind.u64.wrap (4 * (IntKind.u64.wrap (x5)))))) + (IntKind.u64.wrap (4294967296 * (IntKind.u64.wrap (x166002)))))) + (IntKind.u64.wrap (281474976710656 * (IntKind.u64.wrap (x166003))))), true)) else (if x166000 = 1 then (some (IntKind.u64.wrap ((IntKind.u64.wrap ((IntKind.u64.wrap (x4 + (IntKind.u64.wrap (4 * (IntKind.u64.wrap (x5)))))) + (IntKind.u64.wrap (4294967296 * (IntKind.u64.wrap (x166004)))))) + (IntKind.u64.wrap (34359738368 * (IntKind.u64.wrap (x166005))))), true)) else (if x166000 = 2 then (if x166006 = true then (some (IntKind.u64.wrap ((IntKind.u64.wrap ((IntKind.u64.wrap (x4 + 4)) + (IntKind.u64.wrap (8 * (IntKind.u64.wrap (x166007)))))) + (IntKind.u64.wrap (4294967296 * (IntKind.u64.wrap (x166008))))), true)) else (some (IntKind.u64.wrap ((IntKind.u64.wrap (x4 + (IntKind.u64.wrap (8 * (IntKind.u64.wrap (x166007)))))) + (IntKind.u64.wrap (4294967296 * (IntKind.u64.wrap (x166008))))), true))) else (some (IntKind.u64.wrap ((IntKind.u64.wrap (x4 + (IntKind.u64.wrap (4 * (IntKind.u64.wrap (x166009)))))) + (IntKind.u64.wrap (4294967296 * (IntKind.u64.wrap (x166008))))), true))))
def capnpref02_Encode.f (k : Nat) (a0_0 a0_1 a0_2 a0_3 a0_4 a0_5 : Int) (a0_6 : Bool) (a0_7 a0_8 a0_9 : Int) : Option (Int × Bool) := (capnpref02_Valid.f a0_0 a0_1 a0_2 a0_3 a0_4 a0_5 a0_6 a0_7 a0_8 a0_9).bind fun t166 => (if t166 = true then (if a0_1 < 0 then (capnpref02_Encode.j0 k (IntKind.u64.wrap (a0_0)) (wrap64 (a0_1 + 1073741824)) a0_0 a0_1 a0_2 a0_3 a0_4 a0_5 a0_6 a0_7 a0_8 a0_9) else (capnpref02_Encode.j0 k (IntKind.u64.wrap (a0_0)) a0_1 a0_0 a0_1 a0_2 a0_3 a0_4 a0_5 a0_6 a0_7 a0_8 a0_9)) else (some (0, false)))
theorem capnpref02_Encode.mono_l : ∀ k, (∀ y0 y1 y2 y3 y4 y5 y6 y7 y8 y9 y10 y11, LeO (capnpref02_Encode.j0 k y0 y1 y2 y3 y4 y5 y6 y7 y8 y9 y10 y11) (capnpref02_Encode.j0 (k + 1) y0 y1 y2 y3 y4 y5 y6 y7 y8 y9 y10 y11))
  | 0 => fun _ _ _ _ _ _ _ _ _ _ _ _ r h => by simp [capnpref02_Encode.j0] at h
  | k + 1 => by
    · intro y0 y1 y2 y3 y4 y5 y6 y7 y8 y9 y10 y11
      unfold capnpref02_Encode.j0
      repeat' (with_reducible exact LeO.refl _)
theorem capnpref02_Encode.mono : ∀ a0 a1 a2 a3 a4 a5 a6 a7 a8 a9 k, LeO (capnpref02_Encode.f k a0 a1 a2 a3 a4 a5 a6 a7 a8 a9) (capnpref02_Encode.f (k + 1) a0 a1 a2 a3 a4 a5 a6 a7 a8 a9) := by
  intro a0 a1 a2 a3 a4 a5 a6 a7 a8 a9 k
  have ih0 := capnpref02_Encode.mono_l k
  unfold capnpref02_Encode.f
  repeat' first
      | (with_reducible apply ih0)
      | (with_reducible exact LeO.refl _)
      | (with_reducible refine LeO.ite ?_ ?_)
      | (with_reducible refine LeO.bind ?_ (fun _ => ?_))
set_option maxHeartbeats 8000000 in
set_option maxRecDepth 100000 in
theorem capnpref02_Encode.calls (k : Nat) (a0_0 a0_1 a0_2 a0_3 a0_4 a0_5 : Int) (a0_6 : Bool) (a0_7 a0_8 a0_9 r1 : Int) (r2 : Bool) (w : World) (h : capnpref02_Encode.f k a0_0 a0_1 a0_2 a0_3 a0_4 a0_5 a0_6 a0_7 a0_8 a0_9 = some (r1, r2)) :
    Calls Tryd.prog 37 #[.agg #[.int .i64 a0_0, .int .i64 a0_1, .int .i64 a0_2, .int .i64 a0_3, .int .i64 a0_4, .int .i64 a0_5, .bool a0_6, .int .i64 a0_7, .int .u32 a0_8, .int .u32 a0_9]] w fun e w' => e = .returned (.tuple #[.int .u64 r1, .bool r2]) ∧ Below w.heap.size w w' := by
  have HB := Aside0.mk (Below.refl w.heap.size w)
  have H := h
  unfold capnpref02_Encode.f at H
  clear h
  replace H := Option.bind_eq_some_iff.mp H
  obtain ⟨t166, A20, H⟩ := H
  have A2 := Aside0.mk A20
  clear A20
  by_cases c3 : t166 = true
  · subst c3
    have H1 : (if a0_1 < 0 then (capnpref02_Encode.j0 k (IntKind.u64.wrap (a0_0)) (wrap64 (a0_1 + 1073741824)) a0_0 a0_1 a0_2 a0_3 a0_4 a0_5 a0_6 a0_7 a0_8 a0_9) else (capnpref02_Encode.j0 k (IntKind.u64.wrap (a0_0)) a0_1 a0_0 a0_1 a0_2 a0_3 a0_4 a0_5 a0_6 a0_7 a0_8 a0_9)) = some (r1, r2) := by rw [if_pos rfl] at H; exact H
    clear H
    have H := H1
    clear H1
    have HC4 := Aside0.mk H
    clear H
    go_enter Tryd.func37, Tryd.ntmps37
    go_upto_if 15 with (first | ((with_reducible refine gate_dst (N := 1) rfl ?_); refine box_event ?hg (N := 1) ?hd (cs := #[.int .i64 a0_0, .int .i64 a0_1, .int .i64 a0_2, .int .i64 a0_3, .int .i64 a0_4, .int .i64 a0_5, .bool a0_6, .int .i64 a0_7, .int .u32 a0_8, .int .u32 a0_9]) (t := 39) ?hr ?_; (case hd => rfl); (case hg => rfl); (case hr => (go_simp; done)); intro gb165 hg w5 hbox hb; replace HB := Aside0.mk (below_step HB.out hb); replace BK165 := Aside0.mk (hbox); clear hb hbox hg; obtain ⟨hcz6_0, hcz6_1, hcz6_2, hcz6_3, hcz6_4, hcz6_5, hcz6_6, hcz6_7, hcz6_8, hcz6_9⟩ := cells10 BK165.out) | ((with_reducible refine gate_callee (f := 49) rfl ?_); refine goesL_ (some 7) rfl rfl Tryd.func49 (by kernel_rfl) rfl #[.agg #[.int .i64 a0_0, .int .i64 a0_1, .int .i64 a0_2, .int .i64 a0_3, .int .i64 a0_4, .int .i64 a0_5, .bool a0_6, .int .i64 a0_7, .int .u32 a0_8, .int .u32 a0_9]] rfl (by (try simp only [List.map_toArray, List.map_cons, List.map_nil]); rfl) ?_; (with_reducible refine (capnpref02_Valid.calls a0_0 a0_1 a0_2 a0_3 a0_4 a0_5 a0_6 a0_7 a0_8 a0_9 true _ A2.out).mono ?_); rintro e w7 ⟨rfl, hb⟩; refine ⟨_, rfl, ?_⟩; replace BK165 := Aside0.mk (blk_below BK165.out hb); replace HB := Aside0.mk (below_step HB.out hb); (try clear hb); obtain ⟨hcz8_0, hcz8_1, -, -, -, -, -, -, -, -⟩ := cells10 BK165.out))
    (skip)
    go_cut [5] (fun v5 wc => ∃ (kq : Nat) (x5_3 : Int), v5 = .int .i64 x5_3 ∧ Aside0 (capnpref02_Encode.j0 kq (IntKind.u64.wrap (a0_0)) x5_3 a0_0 a0_1 a0_2 a0_3 a0_4 a0_5 a0_6 a0_7 a0_8 a0_9 = some (r1, r2)) ∧ Aside0 (kq ≤ k) ∧ Aside0 (wc.heap[gb165]? = some (.cells #[.int .i64 a0_0, .int .i64 a0_1, .int .i64 a0_2, .int .i64 a0_3, .int .i64 a0_4, .int .i64 a0_5, .bool a0_6, .int .i64 a0_7, .int .u32 a0_8, .int .u32 a0_9] 39 (0, 0))) ∧ Aside0 (Below w.heap.size w wc))
    case first =>
      have H := HC4.out
      clear HC4
      by_cases c9 : a0_1 < 0
      · rw [if_pos c9] at H
        have c9b0 : decide (a0_1 < 0) = true := decide_eq_true c9
        clear c9
        (rw [c9b0])
        have H' := Aside0.mk H
        clear H
        go_wp2
        go_meet
        case rel => exact ⟨_, (wrap64 (a0_1 + 1073741824)), (by rfl), H', ⟨by omega⟩, ⟨by exact BK165.out⟩, ⟨by repeat ((with_reducible exact HB.out))⟩⟩
      · rw [if_neg c9] at H
        have c9b0 : decide (a0_1 < 0) = false := decide_eq_false c9
        clear c9
        (rw [c9b0])
        have H' := Aside0.mk H
        clear H
        go_wp2
        go_meet
        case rel => exact ⟨_, (a0_1), (by rfl), H', ⟨by omega⟩, ⟨by exact BK165.out⟩, ⟨by repeat ((with_reducible exact HB.out))⟩⟩
    case rest =>
      clear HC4
      skip
      skip
      skip
      skip
      skip
      skip
      try clear hcz6_0
      try clear hcz6_1
      try clear hcz6_2
      try clear hcz6_3
      try clear hcz6_4
      try clear hcz6_5
      try clear hcz6_6
      try clear hcz6_7
      try clear hcz6_8
      try clear hcz6_9
      try clear hcz8_0
      try clear hcz8_1
      try clear hcz8_2
      try clear hcz8_3
      try clear hcz8_4
      try clear hcz8_5
      try clear hcz8_6
      try clear hcz8_7
      try clear hcz8_8
      try clear hcz8_9
      try clear hfz6_0
      try clear hfz6_1
      try clear hfz6_2
      try clear hfz6_3
      try clear hfz6_4
      try clear hfz6_5
      try clear hfz6_6
      try clear hfz6_7
      try clear hfz6_8
      try clear hfz6_9
      try clear hfz8_0
      try clear hfz8_1
      try clear hfz8_2
      try clear hfz8_3
      try clear hfz8_4
      try clear hfz8_5
      try clear hfz8_6
      try clear hfz8_7
      try clear hfz8_8
      try clear hfz8_9
      obtain ⟨kq, x5_3, rfl, HA, HJ3, BK165, HB⟩ := hcut
      cases kq with
      | zero => exact absurd HA.out (by simp [capnpref02_Encode.j0])
      | succ kj3 =>
        have H := HA.out
        clear HA
        simp only [capnpref02_Encode.j0] at H
        by_cases c10 : a0_0 = 0
        · rw [if_pos c10] at H
          have c10b0 : (a0_0 == 0) = true := beq_iff_eq.mpr c10
          clear c10
          simp only [Option.some.injEq, Prod.mk.injEq] at H
          obtain ⟨rfl, rfl⟩ := H
          obtain ⟨hcz11_0, -, hcz11_2, hcz11_3, -, -, -, -, -, -⟩ := cells10 BK165.out
          go_wp2
          go_ret2
          exact ⟨by rfl, by repeat ((with_reducible exact HB.out))⟩
        · rw [if_neg c10] at H
          have c10b0 : (a0_0 == 0) = false := beq_eq_false_iff_ne.mpr c10
          by_cases c12 : a0_0 = 1
          · rw [if_pos c12] at H
            have c12b0 : (a0_0 == 1) = true := beq_iff_eq.mpr c12
            clear c12
            simp only [Option.some.injEq, Prod.mk.injEq] at H
            obtain ⟨rfl, rfl⟩ := H
            obtain ⟨hcz13_0, -, -, -, hcz13_4, hcz13_5, -, -, -, -⟩ := cells10 BK165.out
            go_wp2
            go_ret2
            exact ⟨by rfl, by repeat ((with_reducible exact HB.out))⟩
          · rw [if_neg c12] at H
            have c12b0 : (a0_0 == 1) = false := beq_eq_false_iff_ne.mpr c12
            by_cases c14 : a0_0 = 2
            · rw [if_pos c14] at H
              have c14b0 : (a0_0 == 2) = true := beq_iff_eq.mpr c14
              clear c14
              by_cases c15 : a0_6 = true
              · subst c15
                have H1 : (some (IntKind.u64.wrap ((IntKind.u64.wrap ((IntKind.u64.wrap ((IntKind.u64.wrap (a0_0)) + 4)) + (IntKind.u64.wrap (8 * (IntKind.u64.wrap (a0_7)))))) + (IntKind.u64.wrap (4294967296 * (IntKind.u64.wrap (a0_8))))), true)) = some (r1, r2) := by rw [if_pos rfl] at H; exact H
                clear H
                have H := H1
                clear H1
                simp only [Option.some.injEq, Prod.mk.injEq] at H
                obtain ⟨rfl, rfl⟩ := H
                obtain ⟨hcz16_0, -, -, -, -, -, hcz16_6, hcz16_7, hcz16_8, -⟩ := cells10 BK165.out
                go_wp2
                go_ret2
                exact ⟨by rfl, by repeat ((with_reducible exact HB.out))⟩
              · replace c15 := Bool.eq_false_iff.mpr c15
                subst c15
                have H1 : (some (IntKind.u64.wrap ((IntKind.u64.wrap ((IntKind.u64.wrap (a0_0)) + (IntKind.u64.wrap (8 * (IntKind.u64.wrap (a0_7)))))) + (IntKind.u64.wrap (4294967296 * (IntKind.u64.wrap (a0_8))))), true)) = some (r1, r2) := by rw [if_neg (show ¬ (false = true) by decide)] at H; exact H
                clear H
                have H := H1
                clear H1
                simp only [Option.some.injEq, Prod.mk.injEq] at H
                obtain ⟨rfl, rfl⟩ := H
                obtain ⟨hcz17_0, -, -, -, -, -, hcz17_6, hcz17_7, hcz17_8, -⟩ := cells10 BK165.out
                go_wp2
                go_ret2
                exact ⟨by rfl, by repeat ((with_reducible exact HB.out))⟩
            · rw [if_neg c14] at H
              have c14b0 : (a0_0 == 2) = false := beq_eq_false_iff_ne.mpr c14
              simp only [Option.some.injEq, Prod.mk.injEq] at H
              obtain ⟨rfl, rfl⟩ := H
              obtain ⟨hcz18_0, -, -, -, -, -, -, -, hcz18_8, hcz18_9⟩ := cells10 BK165.out
              go_wp2
              go_ret2
              exact ⟨by rfl, by repeat ((with_reducible exact HB.out))⟩
  · replace c3 := Bool.eq_false_iff.mpr c3
    subst c3
    have H1 : (some (0, false)) = some (r1, r2) := by rw [if_neg (show ¬ (false = true) by decide)] at H; exact H
    clear H
    have H := H1
    clear H1
    simp only [Option.some.injEq, Prod.mk.injEq] at H
    obtain ⟨rfl, rfl⟩ := H
    go_enter Tryd.func37, Tryd.ntmps37
    go_wp2_with (first | ((with_reducible refine gate_dst (N := 1) rfl ?_); refine box_event ?hg (N := 1) ?hd (cs := #[.int .i64 a0_0, .int .i64 a0_1, .int .i64 a0_2, .int .i64 a0_3, .int .i64 a0_4, .int .i64 a0_5, .bool a0_6, .int .i64 a0_7, .int .u32 a0_8, .int .u32 a0_9]) (t := 39) ?hr ?_; (case hd => rfl); (case hg => rfl); (case hr => (go_simp; done)); intro gb165 hg w19 hbox hb; replace HB := Aside0.mk (below_step HB.out hb); replace BK165 := Aside0.mk (hbox); clear hb hbox hg; obtain ⟨hcz20_0, hcz20_1, hcz20_2, hcz20_3, hcz20_4, hcz20_5, hcz20_6, hcz20_7, hcz20_8, hcz20_9⟩ := cells10 BK165.out) | ((with_reducible refine gate_callee (f := 49) rfl ?_); refine goesL_ (some 7) rfl rfl Tryd.func49 (by kernel_rfl) rfl #[.agg #[.int .i64 a0_0, .int .i64 a0_1, .int .i64 a0_2, .int .i64 a0_3, .int .i64 a0_4, .int .i64 a0_5, .bool a0_6, .int .i64 a0_7, .int .u32 a0_8, .int .u32 a0_9]] rfl (by (try simp only [List.map_toArray, List.map_cons, List.map_nil]); rfl) ?_; (with_reducible refine (capnpref02_Valid.calls a0_0 a0_1 a0_2 a0_3 a0_4 a0_5 a0_6 a0_7 a0_8 a0_9 false _ A2.out).mono ?_); rintro e w21 ⟨rfl, hb⟩; refine ⟨_, rfl, ?_⟩; replace HB := Aside0.mk (below_step HB.out hb); (try clear BK165); (try clear hb)))
    go_ret2
    exact ⟨by rfl, by repeat ((with_reducible exact HB.out))⟩

end Go.Proofs.YtcjhejopcghgnaaDoor.P

namespace Go.Proofs.YtcjhejopcghgnaaDoor.P
open Go.RowKit Go.Proofs.YtcjhejopcghgnaaDoorW.PrintWords Go.Proofs.YtcjhejopcghgnaaDoorW.PrintLast Go.Proofs.YtcjhejopcghgnaaDoorW.PrintMore
attribute [local go_sem] max2_int min2_int max_two min_two max_three min_three max_four min_four   -- for this text's walks alone
set_option linter.unusedVariables false
set_option linter.unusedSimpArgs false

variable {gb : Bool}
/-! ### capnplaw08_word: function 31 -/
def capnplaw08_word.f (k : Nat) (a0_0 a0_1 a0_2 a0_3 a0_4 a0_5 : Int) (a0_6 : Bool) (a0_7 a0_8 a0_9 : Int) : Option (Int) := (capnpref02_Encode.f k a0_0 a0_1 a0_2 a0_3 a0_4 a0_5 a0_6 a0_7 a0_8 a0_9).bind fun bt397 => (some bt397.1)
theorem capnplaw08_word.mono : ∀ a0 a1 a2 a3 a4 a5 a6 a7 a8 a9 k, LeO (capnplaw08_word.f k a0 a1 a2 a3 a4 a5 a6 a7 a8 a9) (capnplaw08_word.f (k + 1) a0 a1 a2 a3 a4 a5 a6 a7 a8 a9) := by
  intro a0 a1 a2 a3 a4 a5 a6 a7 a8 a9 k
  unfold capnplaw08_word.f
  repeat' first
      | (with_reducible apply capnpref02_Encode.mono)
      | (with_reducible exact LeO.refl _)
      | (with_reducible refine LeO.bind ?_ (fun _ => ?_))
set_option maxHeartbeats 8000000 in
set_option maxRecDepth 100000 in
theorem capnplaw08_word.calls (k : Nat) (a0_0 a0_1 a0_2 a0_3 a0_4 a0_5 : Int) (a0_6 : Bool) (a0_7 a0_8 a0_9 r : Int) (w : World) (h : capnplaw08_word.f k a0_0 a0_1 a0_2 a0_3 a0_4 a0_5 a0_6 a0_7 a0_8 a0_9 = some r) :
    Calls Tryd.prog 31 #[.agg #[.int .i64 a0_0, .int .i64 a0_1, .int .i64 a0_2, .int .i64 a0_3, .int .i64 a0_4, .int .i64 a0_5, .bool a0_6, .int .i64 a0_7, .int .u32 a0_8, .int .u32 a0_9]] w fun e w' => e = .returned (.int .u64 r) ∧ Below w.heap.size w w' := by
  have HB := Aside0.mk (Below.refl w.heap.size w)
  have H : ((capnpref02_Encode.f k a0_0 a0_1 a0_2 a0_3 a0_4 a0_5 a0_6 a0_7 a0_8 a0_9).bind fun bt397 => (some bt397.1)) = some r := h
  clear h
  replace H := Option.bind_eq_some_iff.mp H
  obtain ⟨⟨t397, t398⟩, A20, H⟩ := H
  replace H : (some t397) = some r := H
  have A2 := Aside0.mk A20
  clear A20
  obtain rfl := Option.some.inj H
  go_enter Tryd.func31, Tryd.ntmps31
  go_wp2_with (first | ((with_reducible refine gate_dst (N := 1) rfl ?_); refine box_event ?hg (N := 1) ?hd (cs := #[.int .i64 a0_0, .int .i64 a0_1, .int .i64 a0_2, .int .i64 a0_3, .int .i64 a0_4, .int .i64 a0_5, .bool a0_6, .int .i64 a0_7, .int .u32 a0_8, .int .u32 a0_9]) (t := 39) ?hr ?_; (case hd => rfl); (case hg => rfl); (case hr => (go_simp; done)); intro gb396 hg w3 hbox hb; replace HB := Aside0.mk (below_step HB.out hb); replace BK396 := Aside0.mk (hbox); clear hb hbox hg; obtain ⟨hcz4_0, hcz4_1, hcz4_2, hcz4_3, hcz4_4, hcz4_5, hcz4_6, hcz4_7, hcz4_8, hcz4_9⟩ := cells10 BK396.out) | ((with_reducible refine gate_callee (f := 37) rfl ?_); refine goesL_ (some 7) rfl rfl Tryd.func37 (by kernel_rfl) rfl #[.agg #[.int .i64 a0_0, .int .i64 a0_1, .int .i64 a0_2, .int .i64 a0_3, .int .i64 a0_4, .int .i64 a0_5, .bool a0_6, .int .i64 a0_7, .int .u32 a0_8, .int .u32 a0_9]] rfl (by (try simp only [List.map_toArray, List.map_cons, List.map_nil]); rfl) ?_; (with_reducible refine (capnpref02_Encode.calls k a0_0 a0_1 a0_2 a0_3 a0_4 a0_5 a0_6 a0_7 a0_8 a0_9 t397 t398 _ A2.out).mono ?_); rintro e w5 ⟨rfl, hb⟩; refine ⟨_, rfl, ?_⟩; replace HB := Aside0.mk (below_step HB.out hb); (try clear BK396); (try clear hb)))
  go_ret
  exact ⟨by rfl, by repeat ((with_reducible exact HB.out))⟩

end Go.Proofs.YtcjhejopcghgnaaDoor.P

namespace Go.Proofs.YtcjhejopcghgnaaDoor.P
open Go.RowKit Go.Proofs.YtcjhejopcghgnaaDoorW.PrintWords Go.Proofs.YtcjhejopcghgnaaDoorW.PrintLast Go.Proofs.YtcjhejopcghgnaaDoorW.PrintMore
attribute [local go_sem] max2_int min2_int max_two min_two max_three min_three max_four min_four   -- for this text's walks alone
set_option linter.unusedVariables false
set_option linter.unusedSimpArgs false

variable {gb : Bool}
/-! ### capnplaw08_awake: function 23 -/
def capnplaw08_awake.f : Option Bool := some true
set_option maxHeartbeats 4000000 in
set_option maxRecDepth 100000 in
theorem capnplaw08_awake.calls (r : Bool) (w : World) (hG : Glob true w) (h : capnplaw08_awake.f = some r) :
    Calls Tryd.prog 23 #[] w fun e w' => e = .returned (.bool r) ∧ Below w.heap.size w w' := by
  obtain rfl := Option.some.inj h
  clear h
  have HG := Aside0.mk hG
  have HB := Aside0.mk (Below.refl w.heap.size w)
  clear hG
  go_enter Tryd.func23, Tryd.ntmps23
  go_wp2_with fail
  refine (capnplaw08_word.calls 300 0 (-1) 0 0 0 0 false 0 0 0 4294967292 _ (by kernel_rfl)).mono ?_
  rintro e w1 ⟨rfl, hb⟩
  have nB := Aside0.mk (below_step (by with_reducible repeat (exact HB.out)) hb)
  clear HB 
  have HB := nB
  clear nB
  clear hb
  go_wp2_with fail
  refine (capnplaw08_word.calls 300 0 1 1 1 0 0 false 0 0 0 281479271677956 _ (by kernel_rfl)).mono ?_
  rintro e w2 ⟨rfl, hb⟩
  have nB := Aside0.mk (below_step (by with_reducible repeat (exact HB.out)) hb)
  clear HB 
  have HB := nB
  clear nB
  clear hb
  go_wp2_with fail
  refine (capnplaw08_word.calls 300 1 0 0 0 7 1 false 0 0 0 64424509441 _ (by kernel_rfl)).mono ?_
  rintro e w3 ⟨rfl, hb⟩
  have nB := Aside0.mk (below_step (by with_reducible repeat (exact HB.out)) hb)
  clear HB 
  have HB := nB
  clear nB
  clear hb
  go_wp2_with fail
  refine (capnplaw08_word.calls 300 0 1 1 0 0 0 false 0 0 0 4294967300 _ (by kernel_rfl)).mono ?_
  rintro e w4 ⟨rfl, hb⟩
  have nB := Aside0.mk (below_step (by with_reducible repeat (exact HB.out)) hb)
  clear HB 
  have HB := nB
  clear nB
  clear hb
  go_wp2_with fail
  refine (capnplaw08_word.calls 300 0 9 1 0 0 0 false 0 0 0 4294967332 _ (by kernel_rfl)).mono ?_
  rintro e w5 ⟨rfl, hb⟩
  have nB := Aside0.mk (below_step (by with_reducible repeat (exact HB.out)) hb)
  clear HB 
  have HB := nB
  clear nB
  clear hb
  go_wp2_with fail
  refine (capnplaw08_word.calls 300 1 (-7) 0 0 7 0 false 0 0 0 34359738341 _ (by kernel_rfl)).mono ?_
  rintro e w6 ⟨rfl, hb⟩
  have nB := Aside0.mk (below_step (by with_reducible repeat (exact HB.out)) hb)
  clear HB 
  have HB := nB
  clear nB
  clear hb
  go_upto_region 2 with (fail)
  have e0 : ((w6.alloc (.cells #[.int .u64 4294967292, .int .u64 281479271677956, .int .u64 64424509441, .int .u64 4294967300, .int .u64 5, .int .u64 4294967332, .int .u64 3, .int .u64 7, .int .u64 34359738341] 23)).alloc (.cells #[.slice (some ⟨w6.heap.size, 0, none⟩) 9 9] 40)).heap[w6.heap.size]? = some (.cells #[.int .u64 4294967292, .int .u64 281479271677956, .int .u64 64424509441, .int .u64 4294967300, .int .u64 5, .int .u64 4294967332, .int .u64 3, .int .u64 7, .int .u64 34359738341] 23 (0, 0)) := by repeat (first | (apply blk_newN; rfl) | apply blk_alloc)
  have e1 : ((w6.alloc (.cells #[.int .u64 4294967292, .int .u64 281479271677956, .int .u64 64424509441, .int .u64 4294967300, .int .u64 5, .int .u64 4294967332, .int .u64 3, .int .u64 7, .int .u64 34359738341] 23)).alloc (.cells #[.slice (some ⟨w6.heap.size, 0, none⟩) 9 9] 40)).heap[w6.heap.size + 1]? = some (.cells #[.slice (some ⟨w6.heap.size, 0, none⟩) 9 9] 40 (0, 0)) := by repeat ((apply blk_newN; (simp; done)))
  have hb9 : Below w6.heap.size w6 ((w6.alloc (.cells #[.int .u64 4294967292, .int .u64 281479271677956, .int .u64 64424509441, .int .u64 4294967300, .int .u64 5, .int .u64 4294967332, .int .u64 3, .int .u64 7, .int .u64 34359738341] 23)).alloc (.cells #[.slice (some ⟨w6.heap.size, 0, none⟩) 9 9] 40)) := by repeat (first | exact Below.refl _ _ | apply below_alloc)
  generalize ((w6.alloc (.cells #[.int .u64 4294967292, .int .u64 281479271677956, .int .u64 64424509441, .int .u64 4294967300, .int .u64 5, .int .u64 4294967332, .int .u64 3, .int .u64 7, .int .u64 34359738341] 23)).alloc (.cells #[.slice (some ⟨w6.heap.size, 0, none⟩) 9 9] 40)) = w7 at e0 e1 hb9 ⊢
  have nB := Aside0.mk (below_step (by with_reducible repeat (exact HB.out)) hb9)
  clear HB 
  have HB := nB
  clear nB
  have HC_s := Aside0.mk (show Kd.C (Kd.slice 23 (Kd.int .u64)) w7 (some ⟨w6.heap.size + 1, 0, none⟩) 1 [[4294967292, 281479271677956, 64424509441, 4294967300, 5, 4294967332, 3, 7, 34359738341]] from C_blk e1 (Reps.one ⟨_, _, rfl, Nat.le_refl 9, C_ints (k := .u64) (l := [4294967292, 281479271677956, 64424509441, 4294967300, 5, 4294967332, 3, 7, 34359738341]) e0 rfl rfl (by decide)⟩ (Reps.none _ _)) rfl (by decide))
  go_wp2_with fail
  refine (resolve_Object.calls 300 _ _ [[4294967292, 281479271677956, 64424509441, 4294967300, 5, 4294967332, 3, 7, 34359738341]] 0 0 1 0 0 0 0 0 0 0 0 _ (HG.out.below (by with_reducible repeat (exact HB.out))) (by repeat (exact HC_s.out)) (by decide) (by kernel_rfl)).mono ?_
  rintro e w8 ⟨rfl, hb⟩
  have nB := Aside0.mk (below_step (by with_reducible repeat (exact HB.out)) hb)
  have nC_s := Aside0.mk (Kd.C_below (by repeat ((with_reducible exact HC_s.out))) hb)
  (try clear HB; try clear HC_s)
  have HB := nB
  clear nB
  have HC_s := nC_s
  (try clear nC_s)
  clear hb
  go_wp2_with fail
  refine (resolve_Object.calls 300 _ _ [[4294967292, 281479271677956, 64424509441, 4294967300, 5, 4294967332, 3, 7, 34359738341]] 0 1 1 0 3 1 1 0 0 2 0 _ (HG.out.below (by with_reducible repeat (first | exact HB.out | apply below_alloc))) (by repeat (first | (with_reducible apply C_alloc) | exact HC_s.out)) (by decide) (by kernel_rfl)).mono ?_
  rintro e w9 ⟨rfl, hb⟩
  have nB := Aside0.mk (below_step (by with_reducible repeat (first | exact HB.out | apply below_alloc)) hb)
  have nX_b0 := Aside0.mk (blk_below (g := w8.heap.size) (by with_reducible repeat ((apply blk_newN; rfl))) hb)
  have nC_s := Aside0.mk (Kd.C_below (by repeat ((with_reducible first | exact HC_s.out | apply C_alloc))) hb)
  (try clear HB; try clear HC_s)
  have HB := nB
  clear nB
  have HC_s := nC_s
  (try clear nC_s)
  have HX_b0 := nX_b0
  (try clear nX_b0)
  clear hb
  go_wp2_with fail
  refine (resolve_Object.calls 300 _ _ [[4294967292, 281479271677956, 64424509441, 4294967300, 5, 4294967332, 3, 7, 34359738341]] 0 2 2 0 4 1 0 7 1 2 0 _ (HG.out.below (by with_reducible repeat (first | exact HB.out | apply below_alloc))) (by repeat (first | (with_reducible apply C_alloc) | exact HC_s.out)) (by decide) (by kernel_rfl)).mono ?_
  rintro e w10 ⟨rfl, hb⟩
  have nB := Aside0.mk (below_step (by with_reducible repeat (first | exact HB.out | apply below_alloc)) hb)
  have nX_b0 := Aside0.mk (blk_below (g := w8.heap.size) (by with_reducible repeat (first | exact HX_b0.out | apply blk_alloc)) hb)
  have nX_b1 := Aside0.mk (blk_below (g := w9.heap.size) (by with_reducible repeat ((apply blk_newN; rfl))) hb)
  have nC_s := Aside0.mk (Kd.C_below (by repeat ((with_reducible first | exact HC_s.out | apply C_alloc))) hb)
  (try clear HB; try clear HC_s; try clear HX_b0; try clear cs_b0; try clear fr_b0; try clear lt_b0)
  have HB := nB
  clear nB
  have HC_s := nC_s
  (try clear nC_s)
  have HX_b0 := nX_b0
  (try clear nX_b0)
  have HX_b1 := nX_b1
  (try clear nX_b1)
  clear hb
  go_wp2_with fail
  refine (resolve_Object.calls 300 _ _ [[4294967292, 281479271677956, 64424509441, 4294967300, 5, 4294967332, 3, 7, 34359738341]] 0 5 0 0 0 0 0 0 0 0 2 _ (HG.out.below (by with_reducible repeat (first | exact HB.out | apply below_alloc))) (by repeat (first | (with_reducible apply C_alloc) | exact HC_s.out)) (by decide) (by kernel_rfl)).mono ?_
  rintro e w11 ⟨rfl, hb⟩
  have nB := Aside0.mk (below_step (by with_reducible repeat (first | exact HB.out | apply below_alloc)) hb)
  have nX_b0 := Aside0.mk (blk_below (g := w8.heap.size) (by with_reducible repeat (first | exact HX_b0.out | apply blk_alloc)) hb)
  have nX_b1 := Aside0.mk (blk_below (g := w9.heap.size) (by with_reducible repeat (first | exact HX_b1.out | apply blk_alloc)) hb)
  have nX_b2 := Aside0.mk (blk_below (g := w10.heap.size) (by with_reducible repeat ((apply blk_newN; rfl))) hb)
  have nC_s := Aside0.mk (Kd.C_below (by repeat ((with_reducible first | exact HC_s.out | apply C_alloc))) hb)
  (try clear HB; try clear HC_s; try clear HX_b0; try clear cs_b0; try clear fr_b0; try clear lt_b0; try clear HX_b1; try clear cs_b1; try clear fr_b1; try clear lt_b1)
  have HB := nB
  clear nB
  have HC_s := nC_s
  (try clear nC_s)
  have HX_b0 := nX_b0
  (try clear nX_b0)
  have HX_b1 := nX_b1
  (try clear nX_b1)
  have HX_b2 := nX_b2
  (try clear nX_b2)
  clear hb
  go_wp2_with fail
  refine (resolve_Object.calls 300 _ _ [[4294967292, 281479271677956, 64424509441, 4294967300, 5, 4294967332, 3, 7, 34359738341]] 0 6 0 0 0 0 0 0 0 0 6 _ (HG.out.below (by with_reducible repeat (first | exact HB.out | apply below_alloc))) (by repeat (first | (with_reducible apply C_alloc) | exact HC_s.out)) (by decide) (by kernel_rfl)).mono ?_
  rintro e w12 ⟨rfl, hb⟩
  have nB := Aside0.mk (below_step (by with_reducible repeat (first | exact HB.out | apply below_alloc)) hb)
  have nX_b0 := Aside0.mk (blk_below (g := w8.heap.size) (by with_reducible repeat (first | exact HX_b0.out | apply blk_alloc)) hb)
  have nX_b1 := Aside0.mk (blk_below (g := w9.heap.size) (by with_reducible repeat (first | exact HX_b1.out | apply blk_alloc)) hb)
  have nX_b2 := Aside0.mk (blk_below (g := w10.heap.size) (by with_reducible repeat (first | exact HX_b2.out | apply blk_alloc)) hb)
  have nC_s := Aside0.mk (Kd.C_below (by repeat ((with_reducible first | exact HC_s.out | apply C_alloc))) hb)
  (try clear HB; try clear HC_s; try clear HX_b0; try clear cs_b0; try clear fr_b0; try clear lt_b0; try clear HX_b1; try clear cs_b1; try clear fr_b1; try clear lt_b1; try clear HX_b2; try clear cs_b2; try clear fr_b2; try clear lt_b2)
  have HB := nB
  clear nB
  have HC_s := nC_s
  (try clear nC_s)
  have HX_b0 := nX_b0
  (try clear nX_b0)
  have HX_b1 := nX_b1
  (try clear nX_b1)
  have HX_b2 := nX_b2
  (try clear nX_b2)
  (try clear nX_b3)
  clear hb
  go_wp2_with fail
  refine (resolve_Object.calls 300 _ _ [[4294967292, 281479271677956, 64424509441, 4294967300, 5, 4294967332, 3, 7, 34359738341]] 0 7 0 0 0 0 0 0 0 0 4 _ (HG.out.below (by with_reducible repeat (first | exact HB.out | apply below_alloc))) (by repeat (first | (with_reducible apply C_alloc) | exact HC_s.out)) (by decide) (by kernel_rfl)).mono ?_
  rintro e w13 ⟨rfl, hb⟩
  have nB := Aside0.mk (below_step (by with_reducible repeat (first | exact HB.out | apply below_alloc)) hb)
  have nX_b0 := Aside0.mk (blk_below (g := w8.heap.size) (by with_reducible repeat (first | exact HX_b0.out | apply blk_alloc)) hb)
  have nX_b1 := Aside0.mk (blk_below (g := w9.heap.size) (by with_reducible repeat (first | exact HX_b1.out | apply blk_alloc)) hb)
  have nX_b2 := Aside0.mk (blk_below (g := w10.heap.size) (by with_reducible repeat (first | exact HX_b2.out | apply blk_alloc)) hb)
  have nC_s := Aside0.mk (Kd.C_below (by repeat ((with_reducible first | exact HC_s.out | apply C_alloc))) hb)
  (try clear HB; try clear HC_s; try clear HX_b0; try clear cs_b0; try clear fr_b0; try clear lt_b0; try clear HX_b1; try clear cs_b1; try clear fr_b1; try clear lt_b1; try clear HX_b2; try clear cs_b2; try clear fr_b2; try clear lt_b2; try clear HX_b3; try clear cs_b3; try clear fr_b3; try clear lt_b3)
  have HB := nB
  clear nB
  have HC_s := nC_s
  (try clear nC_s)
  have HX_b0 := nX_b0
  (try clear nX_b0)
  have HX_b1 := nX_b1
  (try clear nX_b1)
  have HX_b2 := nX_b2
  (try clear nX_b2)
  (try clear nX_b3)
  (try clear nX_b4)
  clear hb
  go_wp2_with fail
  refine (resolve_Object.calls 300 _ _ [[4294967292, 281479271677956, 64424509441, 4294967300, 5, 4294967332, 3, 7, 34359738341]] 0 8 0 0 0 0 0 0 0 0 5 _ (HG.out.below (by with_reducible repeat (first | exact HB.out | apply below_alloc))) (by repeat (first | (with_reducible apply C_alloc) | exact HC_s.out)) (by decide) (by kernel_rfl)).mono ?_
  rintro e w14 ⟨rfl, hb⟩
  have nB := Aside0.mk (below_step (by with_reducible repeat (first | exact HB.out | apply below_alloc)) hb)
  have nX_b0 := Aside0.mk (blk_below (g := w8.heap.size) (by with_reducible repeat (first | exact HX_b0.out | apply blk_alloc)) hb)
  have nX_b1 := Aside0.mk (blk_below (g := w9.heap.size) (by with_reducible repeat (first | exact HX_b1.out | apply blk_alloc)) hb)
  have nX_b2 := Aside0.mk (blk_below (g := w10.heap.size) (by with_reducible repeat (first | exact HX_b2.out | apply blk_alloc)) hb)
  (try clear HB; try clear HC_s; try clear HX_b0; try clear cs_b0; try clear fr_b0; try clear lt_b0; try clear HX_b1; try clear cs_b1; try clear fr_b1; try clear lt_b1; try clear HX_b2; try clear cs_b2; try clear fr_b2; try clear lt_b2; try clear HX_b3; try clear cs_b3; try clear fr_b3; try clear lt_b3; try clear HX_b4; try clear cs_b4; try clear fr_b4; try clear lt_b4)
  have HB := nB
  clear nB
  (try clear nC_s)
  have HX_b0 := nX_b0
  (try clear nX_b0)
  have HX_b1 := nX_b1
  (try clear nX_b1)
  have HX_b2 := nX_b2
  (try clear nX_b2)
  (try clear nX_b3)
  (try clear nX_b4)
  (try clear nX_b5)
  clear hb
  go_wp2_with fail
  have f0 : (((w14.alloc (.cells #[.int .i64 0, .int .i64 0, .int .i64 0, .int .i64 0, .int .i64 0, .int .i64 0, .int .i64 0, .int .i64 0] 46)).alloc (.cells #[.int .u64 0] 23)).alloc (.cells #[.slice (some ⟨w14.heap.size + 1, 0, none⟩) 1 1] 40)).heap[w14.heap.size]? = some (.cells #[.int .i64 0, .int .i64 0, .int .i64 0, .int .i64 0, .int .i64 0, .int .i64 0, .int .i64 0, .int .i64 0] 46 (0, 0)) := by repeat (first | (apply blk_newN; rfl) | apply blk_alloc)
  have f1 : (((w14.alloc (.cells #[.int .i64 0, .int .i64 0, .int .i64 0, .int .i64 0, .int .i64 0, .int .i64 0, .int .i64 0, .int .i64 0] 46)).alloc (.cells #[.int .u64 0] 23)).alloc (.cells #[.slice (some ⟨w14.heap.size + 1, 0, none⟩) 1 1] 40)).heap[w14.heap.size + 1]? = some (.cells #[.int .u64 0] 23 (0, 0)) := by repeat (first | (apply blk_newN; (simp; done)) | apply blk_alloc)
  have f2 : (((w14.alloc (.cells #[.int .i64 0, .int .i64 0, .int .i64 0, .int .i64 0, .int .i64 0, .int .i64 0, .int .i64 0, .int .i64 0] 46)).alloc (.cells #[.int .u64 0] 23)).alloc (.cells #[.slice (some ⟨w14.heap.size + 1, 0, none⟩) 1 1] 40)).heap[w14.heap.size + 1 + 1]? = some (.cells #[.slice (some ⟨w14.heap.size + 1, 0, none⟩) 1 1] 40 (0, 0)) := by repeat ((apply blk_newN; (simp; done)))
  have hc9 : Below w14.heap.size w14 (((w14.alloc (.cells #[.int .i64 0, .int .i64 0, .int .i64 0, .int .i64 0, .int .i64 0, .int .i64 0, .int .i64 0, .int .i64 0] 46)).alloc (.cells #[.int .u64 0] 23)).alloc (.cells #[.slice (some ⟨w14.heap.size + 1, 0, none⟩) 1 1] 40)) := by repeat (first | exact Below.refl _ _ | apply below_alloc)
  generalize (((w14.alloc (.cells #[.int .i64 0, .int .i64 0, .int .i64 0, .int .i64 0, .int .i64 0, .int .i64 0, .int .i64 0, .int .i64 0] 46)).alloc (.cells #[.int .u64 0] 23)).alloc (.cells #[.slice (some ⟨w14.heap.size + 1, 0, none⟩) 1 1] 40)) = w15 at f0 f1 f2 hc9 ⊢
  have nB := Aside0.mk (below_step (by with_reducible repeat (exact HB.out)) hc9)
  have nX_b0 := Aside0.mk (blk_below (g := w8.heap.size) (by with_reducible repeat (exact HX_b0.out)) hc9)
  have nX_b1 := Aside0.mk (blk_below (g := w9.heap.size) (by with_reducible repeat (exact HX_b1.out)) hc9)
  have nX_b2 := Aside0.mk (blk_below (g := w10.heap.size) (by with_reducible repeat (exact HX_b2.out)) hc9)
  (try clear HB; try clear HC_s; try clear HX_b0; try clear cs_b0; try clear fr_b0; try clear lt_b0; try clear HX_b1; try clear cs_b1; try clear fr_b1; try clear lt_b1; try clear HX_b2; try clear cs_b2; try clear fr_b2; try clear lt_b2; try clear HX_b3; try clear cs_b3; try clear fr_b3; try clear lt_b3; try clear HX_b4; try clear cs_b4; try clear fr_b4; try clear lt_b4; try clear HX_b5; try clear cs_b5; try clear fr_b5; try clear lt_b5)
  have HB := nB
  clear nB
  (try clear nC_s)
  have HX_b0 := nX_b0
  (try clear nX_b0)
  have HX_b1 := nX_b1
  (try clear nX_b1)
  have HX_b2 := nX_b2
  (try clear nX_b2)
  (try clear nX_b3)
  (try clear nX_b4)
  (try clear nX_b5)
  have HC_z := Aside0.mk (show Kd.C (Kd.slice 23 (Kd.int .u64)) w15 (some ⟨w14.heap.size + 1 + 1, 0, none⟩) 1 [[0]] from C_blk f2 (Reps.one ⟨_, _, rfl, Nat.le_refl 1, C_ints (k := .u64) (l := [0]) f1 rfl rfl (by decide)⟩ (Reps.none _ _)) rfl (by decide))
  clear hc9 f0 f1 f2
  refine (resolve_Object.calls 300 _ _ [[0]] 0 0 0 0 0 0 0 0 0 0 0 _ (HG.out.below (by with_reducible repeat (exact HB.out))) (by repeat (exact HC_z.out)) (by decide) (by kernel_rfl)).mono ?_
  rintro e w16 ⟨rfl, hb⟩
  have nB := Aside0.mk (below_step (by with_reducible repeat (exact HB.out)) hb)
  have nX_b0 := Aside0.mk (blk_below (g := w8.heap.size) (by with_reducible repeat (exact HX_b0.out)) hb)
  have nX_b1 := Aside0.mk (blk_below (g := w9.heap.size) (by with_reducible repeat (exact HX_b1.out)) hb)
  have nX_b2 := Aside0.mk (blk_below (g := w10.heap.size) (by with_reducible repeat (exact HX_b2.out)) hb)
  (try clear HB; try clear HC_s; try clear HC_z; try clear HX_b0; try clear cs_b0; try clear fr_b0; try clear lt_b0; try clear HX_b1; try clear cs_b1; try clear fr_b1; try clear lt_b1; try clear HX_b2; try clear cs_b2; try clear fr_b2; try clear lt_b2; try clear HX_b3; try clear cs_b3; try clear fr_b3; try clear lt_b3; try clear HX_b4; try clear cs_b4; try clear fr_b4; try clear lt_b4; try clear HX_b5; try clear cs_b5; try clear fr_b5; try clear lt_b5)
  have HB := nB
  clear nB
  (try clear nC_s)
  (try clear nC_z)
  have HX_b0 := nX_b0
  (try clear nX_b0)
  have HX_b1 := nX_b1
  (try clear nX_b1)
  have cs_b1 : ∀ i, w16.cell? ⟨w9.heap.size, i, none⟩ = _ := fun i => blk_cell HX_b1.out i
  have lt_b1 := lt_of_block HX_b1.out
  have HX_b2 := nX_b2
  (try clear nX_b2)
  (try clear nX_b3)
  (try clear nX_b4)
  (try clear nX_b5)
  clear hb
  go_wp2_with fail
  refine (resolve_Pointers.calls 300 1 0 3 1 1 0 0 2 4 1 _ (by kernel_rfl)).mono ?_
  rintro e w17 ⟨rfl, hb⟩
  have nB := Aside0.mk (below_step (by with_reducible repeat (first | exact HB.out | apply below_alloc)) hb)
  have nX_b0 := Aside0.mk (blk_below (g := w8.heap.size) (by with_reducible repeat (first | exact HX_b0.out | apply blk_alloc)) hb)
  have nX_b1 := Aside0.mk (blk_below (g := w9.heap.size) (by with_reducible repeat (first | exact HX_b1.out | apply blk_alloc)) hb)
  have nX_b2 := Aside0.mk (blk_below (g := w10.heap.size) (by with_reducible repeat (first | exact HX_b2.out | apply blk_alloc)) hb)
  have nX_b7 := Aside0.mk (blk_below (g := w16.heap.size) (by with_reducible repeat ((apply blk_newN; rfl))) hb)
  (try clear HB; try clear HC_s; try clear HC_z; try clear HX_b0; try clear cs_b0; try clear fr_b0; try clear lt_b0; try clear HX_b1; try clear cs_b1; try clear fr_b1; try clear lt_b1; try clear HX_b2; try clear cs_b2; try clear fr_b2; try clear lt_b2; try clear HX_b3; try clear cs_b3; try clear fr_b3; try clear lt_b3; try clear HX_b4; try clear cs_b4; try clear fr_b4; try clear lt_b4; try clear HX_b5; try clear cs_b5; try clear fr_b5; try clear lt_b5)
  have HB := nB
  clear nB
  (try clear nC_s)
  (try clear nC_z)
  have HX_b0 := nX_b0
  (try clear nX_b0)
  have cs_b0 : ∀ i, w17.cell? ⟨w8.heap.size, i, none⟩ = _ := fun i => blk_cell HX_b0.out i
  have HX_b1 := nX_b1
  (try clear nX_b1)
  have cs_b1 : ∀ i, w17.cell? ⟨w9.heap.size, i, none⟩ = _ := fun i => blk_cell HX_b1.out i
  have HX_b2 := nX_b2
  (try clear nX_b2)
  have cs_b2 : ∀ i, w17.cell? ⟨w10.heap.size, i, none⟩ = _ := fun i => blk_cell HX_b2.out i
  (try clear nX_b3)
  (try clear nX_b4)
  (try clear nX_b5)
  have HX_b7 := nX_b7
  (try clear nX_b7)
  have cs_b7 : ∀ i, w17.cell? ⟨w16.heap.size, i, none⟩ = _ := fun i => blk_cell HX_b7.out i
  clear hb
  go_wp2_with fail
  refine (resolve_Element.calls 2 0 4 1 0 7 1 2 0 1 0 4 1 0 0 0 0 _ (by kernel_rfl)).mono ?_
  rintro e w18 ⟨rfl, hb⟩
  have nB := Aside0.mk (below_step (by with_reducible repeat (exact HB.out)) hb)
  (try clear HB; try clear HC_s; try clear HC_z; try clear HX_b0; try clear cs_b0; try clear fr_b0; try clear lt_b0; try clear HX_b1; try clear cs_b1; try clear fr_b1; try clear lt_b1; try clear HX_b2; try clear cs_b2; try clear fr_b2; try clear lt_b2; try clear HX_b3; try clear cs_b3; try clear fr_b3; try clear lt_b3; try clear HX_b4; try clear cs_b4; try clear fr_b4; try clear lt_b4; try clear HX_b5; try clear cs_b5; try clear fr_b5; try clear lt_b5; try clear HX_b7; try clear cs_b7; try clear fr_b7; try clear lt_b7)
  have HB := nB
  clear nB
  (try clear nC_s)
  (try clear nC_z)
  (try clear nX_b0)
  (try clear nX_b1)
  (try clear nX_b2)
  (try clear nX_b3)
  (try clear nX_b4)
  (try clear nX_b5)
  (try clear nX_b7)
  clear hb
  go_wp2
  go_ret
  refine ⟨by rfl, ?_⟩
  exact (by with_reducible repeat (exact HB.out))

end Go.Proofs.YtcjhejopcghgnaaDoor.P

set_option linter.unusedVariables false
namespace Go.Proofs.YtcjhejopcghgnaaDoor.P
open Go.RowKit Go.Proofs.YtcjhejopcghgnaaDoorW.PrintWords Go.Proofs.YtcjhejopcghgnaaDoorW.PrintLast Go.Proofs.YtcjhejopcghgnaaDoorW.PrintMore
theorem wrap_u64_any (x : Int) : IntKind.u64.wrap x = x % 18446744073709551616 := by simp [IntKind.wrap, IntKind.bits, IntKind.signed]
theorem wrap_u64 {x : Int} (h : 0 ≤ x ∧ x < 18446744073709551616) : IntKind.u64.wrap x = x := by rw [wrap_u64_any]; omega
theorem wrap64_id {x : Int} (h : -9223372036854775808 ≤ x ∧ x < 9223372036854775808) : wrap64 x = x := by unfold wrap64; omega
/-- A list of words that a slice can hold; a list of segments. -/
def Words (xs : List Int) : Prop := xs.length ≤ 9223372036854775807 ∧ ∀ x ∈ xs, 0 ≤ x ∧ x ≤ 18446744073709551615
def Bytes (xs : List Int) : Prop := xs.length ≤ 9223372036854775807 ∧ ∀ x ∈ xs, 0 ≤ x ∧ x ≤ 255
def Segs (l : List (List Int)) : Prop := l.length ≤ 9223372036854775807 ∧ ∀ s ∈ l, Words s
end Go.Proofs.YtcjhejopcghgnaaDoor.P

namespace Go.Proofs.YtcjhejopcghgnaaDoor.P
open Go.RowKit Go.Proofs.YtcjhejopcghgnaaDoorW.PrintWords Go.Proofs.YtcjhejopcghgnaaDoorW.PrintLast Go.Proofs.YtcjhejopcghgnaaDoorW.PrintMore
attribute [local go_sem] max2_int min2_int max_two min_two max_three min_three max_four min_four   -- for this text's walks alone
set_option linter.unusedVariables false
set_option linter.unusedSimpArgs false

variable {gb : Bool}
/-! ### capnpref01_SameWords: function 40 -/
def capnpref01_SameWords.l0 : Nat → List Int → List Int → Int → Option (Bool)
  | 0, _, _, _ => none
  | k + 1, x0, x1, x5 => if x5 < (x0.length : Int) then (if 0 ≤ x5 then (if x5 < (x1.length : Int) then (if (rd x0 x5) = (rd x1 x5) then (capnpref01_SameWords.l0 k x0 x1 (wrap64 (x5 + 1))) else (some false)) else (none)) else (none)) else (some true)
def capnpref01_SameWords.f (k : Nat) (l0 l1 : List Int) : Option (Bool) := if (l0.length : Int) = (l1.length : Int) then (capnpref01_SameWords.l0 k l0 l1 0) else (some false)
theorem capnpref01_SameWords.mono_l : ∀ k, (∀ y0 y1 y2, LeO (capnpref01_SameWords.l0 k y0 y1 y2) (capnpref01_SameWords.l0 (k + 1) y0 y1 y2))
  | 0 => fun _ _ _ r h => by simp [capnpref01_SameWords.l0] at h
  | k + 1 => by
    have ih0 := capnpref01_SameWords.mono_l k
    · intro y0 y1 y2
      unfold capnpref01_SameWords.l0
      repeat' first
      | (with_reducible apply ih0)
      | (with_reducible exact LeO.refl _)
      | (with_reducible refine LeO.ite ?_ ?_)
theorem capnpref01_SameWords.mono : ∀ a0 a1 k, LeO (capnpref01_SameWords.f k a0 a1) (capnpref01_SameWords.f (k + 1) a0 a1) := by
  intro a0 a1 k
  have ih0 := capnpref01_SameWords.mono_l k
  unfold capnpref01_SameWords.f
  repeat' first
      | (with_reducible apply ih0)
      | (with_reducible exact LeO.refl _)
      | (with_reducible refine LeO.ite ?_ ?_)
set_option maxHeartbeats 8000000 in
set_option maxRecDepth 100000 in
theorem capnpref01_SameWords.calls (k : Nat) (A0 : Option Addr) (c0 : Nat) (l0 : List Int) (A1 : Option Addr) (c1 : Nat) (l1 : List Int) (r : Bool) (w : World) (hr0 : Kd.C (Kd.int .u64) w A0 l0.length l0) (hc0 : l0.length ≤ c0) (hr1 : Kd.C (Kd.int .u64) w A1 l1.length l1) (hc1 : l1.length ≤ c1) (h : capnpref01_SameWords.f k l0 l1 = some r) :
    Calls Tryd.prog 40 #[.slice A0 l0.length c0, .slice A1 l1.length c1] w fun e w' => e = .returned (.bool r) ∧ Drawn0 w w' := by
  have HR0 := Aside0.mk hr0
  clear hr0 hc0
  have HR1 := Aside0.mk hr1
  clear hr1 hc1
  have H : (if (l0.length : Int) = (l1.length : Int) then (capnpref01_SameWords.l0 k l0 l1 0) else (some false)) = some r := h
  clear h
  by_cases c3 : (l0.length : Int) = (l1.length : Int)
  · rw [if_pos c3] at H
    have c3b1 : ((l0.length : Int) != (l1.length : Int)) = false := bne_eq_false_iff_eq.mpr c3
    clear c3
    have H' := Aside0.mk H
    clear H
    go_enter Tryd.func40, Tryd.ntmps40
    go_wp2
    repeat (go_quiet (fail); try go_wp2)
    go_loopg [5] k (fun kq v5 w' => ∃ (x5_1 : Int), v5 = .int .i64 x5_1 ∧ Aside0 (capnpref01_SameWords.l0 kq l0 l1 x5_1 = some r) ∧ Aside0 (kq ≤ k) ∧ Drawn0 w w')
    case atStart => exact ⟨(0), (by rfl), H', ⟨Nat.le_refl _⟩, by repeat (exact Drawn0.refl _)⟩
    case round =>
      clear H'
      skip
      skip
      skip
      try clear c3b0
      try clear c3b1
      try clear c3b2
      obtain ⟨x5_1, rfl, HA, HK1, ⟨m1, rfl⟩⟩ := hrel
      cases gk with
      | zero => exact absurd HA.out (by simp [capnpref01_SameWords.l0])
      | succ k1 =>
        have H := HA.out
        clear HA
        simp only [capnpref01_SameWords.l0] at H
        by_cases c4 : x5_1 < (l0.length : Int)
        · rw [if_pos c4] at H
          have c4b0 : decide (x5_1 < (l0.length : Int)) = true := decide_eq_true c4
          clear c4
          by_cases c5 : 0 ≤ x5_1
          · rw [if_pos c5] at H
            have c5b0 : decide (0 ≤ x5_1) = true := decide_eq_true c5
            clear c5
            by_cases c6 : x5_1 < (l1.length : Int)
            · rw [if_pos c6] at H
              have c6b0 : decide (x5_1 < (l1.length : Int)) = true := decide_eq_true c6
              clear c6
              by_cases c7 : (rd l0 x5_1) = (rd l1 x5_1)
              · rw [if_pos c7] at H
                have c7b1 : ((rd l0 x5_1) != (rd l1 x5_1)) = false := bne_eq_false_iff_eq.mpr c7
                clear c7
                have H' := Aside0.mk H
                clear H
                have p305 : 0 ≤ (x5_1 : Int) := of_decide_eq_true (by (with_reducible assumption))
                have q305 : x5_1 < (l0.length : Int) := of_decide_eq_true (by (with_reducible assumption))
                obtain ⟨ad305, e305, hx305_0⟩ := Kd.at_int HR0.out x5_1 p305 q305
                cases e305
                replace p305 := eq_true p305
                replace q305 := eq_true q305
                have p306 : 0 ≤ (x5_1 : Int) := of_decide_eq_true (by (with_reducible assumption))
                have q306 : x5_1 < (l1.length : Int) := of_decide_eq_true (by (with_reducible assumption))
                obtain ⟨ad306, e306, hx306_0⟩ := Kd.at_int HR1.out x5_1 p306 q306
                cases e306
                replace p306 := eq_true p306
                replace q306 := eq_true q306
                go_wp2
                repeat (go_quiet (fail); try go_wp2)
                go_roundg k1
                case measure => omega
                case rel => exact ⟨(wrap64 (x5_1 + 1)), (by rfl), H', ⟨by have := HK1.out; omega⟩, by repeat (first | exact Drawn0.refl _ | apply Drawn0.step)⟩
              · rw [if_neg c7] at H
                have c7b1 : ((rd l0 x5_1) != (rd l1 x5_1)) = true := bne_iff_ne.mpr c7
                obtain rfl := Option.some.inj H
                have p305 : 0 ≤ (x5_1 : Int) := of_decide_eq_true (by (with_reducible assumption))
                have q305 : x5_1 < (l0.length : Int) := of_decide_eq_true (by (with_reducible assumption))
                obtain ⟨ad305, e305, hx305_0⟩ := Kd.at_int HR0.out x5_1 p305 q305
                cases e305
                replace p305 := eq_true p305
                replace q305 := eq_true q305
                have p306 : 0 ≤ (x5_1 : Int) := of_decide_eq_true (by (with_reducible assumption))
                have q306 : x5_1 < (l1.length : Int) := of_decide_eq_true (by (with_reducible assumption))
                obtain ⟨ad306, e306, hx306_0⟩ := Kd.at_int HR1.out x5_1 p306 q306
                cases e306
                replace p306 := eq_true p306
                replace q306 := eq_true q306
                go_wp2
                repeat (go_quiet (fail); try go_wp2)
                go_ret
                exact ⟨by rfl, by repeat (first | exact Drawn0.refl _ | apply Drawn0.step)⟩
            · rw [if_neg c6] at H
              exact absurd H (by simp)
          · rw [if_neg c5] at H
            exact absurd H (by simp)
        · rw [if_neg c4] at H
          have c4b0 : decide (x5_1 < (l0.length : Int)) = false := decide_eq_false c4
          clear c4
          obtain rfl := Option.some.inj H
          go_wp2
          repeat (go_quiet (fail); try go_wp2)
          go_ret
          exact ⟨by rfl, by repeat (first | exact Drawn0.refl _ | apply Drawn0.step)⟩
  · rw [if_neg c3] at H
    have c3b1 : ((l0.length : Int) != (l1.length : Int)) = true := bne_iff_ne.mpr c3
    obtain rfl := Option.some.inj H
    go_enter Tryd.func40, Tryd.ntmps40
    go_wp2
    repeat (go_quiet (fail); try go_wp2)
    go_ret
    exact ⟨by rfl, by repeat (exact Drawn0.refl _)⟩

end Go.Proofs.YtcjhejopcghgnaaDoor.P

namespace Go.Proofs.YtcjhejopcghgnaaDoor.P
open Go.RowKit Go.Proofs.YtcjhejopcghgnaaDoorW.PrintWords Go.Proofs.YtcjhejopcghgnaaDoorW.PrintLast Go.Proofs.YtcjhejopcghgnaaDoorW.PrintMore
attribute [local go_sem] max2_int min2_int max_two min_two max_three min_three max_four min_four   -- for this text's walks alone
set_option linter.unusedVariables false
set_option linter.unusedSimpArgs false

variable {gb : Bool}
/-! ### capnpref04_Few: function 13 -/
def capnpref04_Few.l0 : Nat → List (List Int) → Int → Option (Bool)
  | 0, _, _ => none
  | k + 1, x0, x3 => if x3 < (x0.length : Int) then (if 0 ≤ x3 then (if ((rd_L5 x0 x3).length : Int) > 300 then (some false) else (capnpref04_Few.l0 k x0 (wrap64 (x3 + 1)))) else (none)) else (some (decide ((x0.length : Int) ≤ 20)))
def capnpref04_Few.f (k : Nat) (l0 : List (List Int)) : Option (Bool) := capnpref04_Few.l0 k l0 0
theorem capnpref04_Few.mono_l : ∀ k, (∀ y0 y1, LeO (capnpref04_Few.l0 k y0 y1) (capnpref04_Few.l0 (k + 1) y0 y1))
  | 0 => fun _ _ r h => by simp [capnpref04_Few.l0] at h
  | k + 1 => by
    have ih0 := capnpref04_Few.mono_l k
    · intro y0 y1
      unfold capnpref04_Few.l0
      repeat' first
      | (with_reducible apply ih0)
      | (with_reducible exact LeO.refl _)
      | (with_reducible refine LeO.ite ?_ ?_)
theorem capnpref04_Few.mono : ∀ a0 k, LeO (capnpref04_Few.f k a0) (capnpref04_Few.f (k + 1) a0) := by
  intro a0 k
  have ih0 := capnpref04_Few.mono_l k
  unfold capnpref04_Few.f
  repeat' (with_reducible apply ih0)
set_option maxHeartbeats 8000000 in
set_option maxRecDepth 100000 in
theorem capnpref04_Few.calls (k : Nat) (A0 : Option Addr) (c0 : Nat) (l0 : List (List Int)) (r : Bool) (w : World) (hr0 : Kd.C (Kd.slice 23 (Kd.int .u64)) w A0 l0.length l0) (hc0 : l0.length ≤ c0) (h : capnpref04_Few.f k l0 = some r) :
    Calls Tryd.prog 13 #[.slice A0 l0.length c0] w fun e w' => e = .returned (.bool r) ∧ Drawn0 w w' := by
  have HR0 := Aside0.mk hr0
  clear hr0 hc0
  have H : (capnpref04_Few.l0 k l0 0) = some r := h
  clear h
  have H' := Aside0.mk H
  clear H
  go_enter Tryd.func13, Tryd.ntmps13
  go_wp2
  go_loopg [3] k (fun kq v3 w' => ∃ (x3_1 : Int), v3 = .int .i64 x3_1 ∧ Aside0 (capnpref04_Few.l0 kq l0 x3_1 = some r) ∧ Aside0 (kq ≤ k) ∧ Drawn0 w w')
  case atStart => exact ⟨(0), (by rfl), H', ⟨Nat.le_refl _⟩, by repeat (exact Drawn0.refl _)⟩
  case round =>
    clear H'
    skip
    obtain ⟨x3_1, rfl, HA, HK1, ⟨m1, rfl⟩⟩ := hrel
    cases gk with
    | zero => exact absurd HA.out (by simp [capnpref04_Few.l0])
    | succ k1 =>
      have H := HA.out
      clear HA
      simp only [capnpref04_Few.l0] at H
      by_cases c2 : x3_1 < (l0.length : Int)
      · rw [if_pos c2] at H
        have c2b0 : decide (x3_1 < (l0.length : Int)) = true := decide_eq_true c2
        clear c2
        by_cases c3 : 0 ≤ x3_1
        · rw [if_pos c3] at H
          have c3b0 : decide (0 ≤ x3_1) = true := decide_eq_true c3
          clear c3
          by_cases c4 : ((rd_L5 l0 x3_1).length : Int) > 300
          · rw [if_pos c4] at H
            have c4b0 : decide (300 < ((rd_L5 l0 x3_1).length : Int)) = true := decide_eq_true c4
            clear c4
            obtain rfl := Option.some.inj H
            have p215 : 0 ≤ (x3_1 : Int) := of_decide_eq_true (by (with_reducible assumption))
            have q215 : x3_1 < (l0.length : Int) := of_decide_eq_true (by (with_reducible assumption))
            obtain ⟨ad215, A215_0, c215_0, e215, hx215_0, hl215_0, hi215_0⟩ := at_L5 HR0.out x3_1 p215 q215
            cases e215
            clear hi215_0 hl215_0
            replace p215 := eq_true p215
            replace q215 := eq_true q215
            go_wp2
            go_ret
            exact ⟨by rfl, by repeat (first | exact Drawn0.refl _ | apply Drawn0.step)⟩
          · rw [if_neg c4] at H
            have c4b0 : decide (300 < ((rd_L5 l0 x3_1).length : Int)) = false := decide_eq_false c4
            clear c4
            have H' := Aside0.mk H
            clear H
            have p215 : 0 ≤ (x3_1 : Int) := of_decide_eq_true (by (with_reducible assumption))
            have q215 : x3_1 < (l0.length : Int) := of_decide_eq_true (by (with_reducible assumption))
            obtain ⟨ad215, A215_0, c215_0, e215, hx215_0, hl215_0, hi215_0⟩ := at_L5 HR0.out x3_1 p215 q215
            cases e215
            clear hi215_0 hl215_0
            replace p215 := eq_true p215
            replace q215 := eq_true q215
            go_wp2
            go_roundg k1
            case measure => omega
            case rel => exact ⟨(wrap64 (x3_1 + 1)), (by rfl), H', ⟨by have := HK1.out; omega⟩, by repeat (first | exact Drawn0.refl _ | apply Drawn0.step)⟩
        · rw [if_neg c3] at H
          exact absurd H (by simp)
      · rw [if_neg c2] at H
        have c2b0 : decide (x3_1 < (l0.length : Int)) = false := decide_eq_false c2
        clear c2
        obtain rfl := Option.some.inj H
        go_wp2
        go_ret
        exact ⟨by rfl, by repeat (first | exact Drawn0.refl _ | apply Drawn0.step)⟩

end Go.Proofs.YtcjhejopcghgnaaDoor.P

set_option linter.unusedVariables false
set_option linter.unusedSimpArgs false
namespace Go.Proofs.YtcjhejopcghgnaaDoor.P
open Go.RowKit Go.Proofs.YtcjhejopcghgnaaDoorW.PrintWords Go.Proofs.YtcjhejopcghgnaaDoorW.PrintLast Go.Proofs.YtcjhejopcghgnaaDoorW.PrintMore
theorem le_of_mono {α : Type} {f : Nat → Option α} (h : ∀ k, LeO (f k) (f (k + 1))) {n : Nat} {r : α} (h0 : f n = some r) : ∀ k, n ≤ k → f k = some r := by
  intro k hk
  induction k with
  | zero => obtain rfl : n = 0 := by omega
            exact h0
  | succ k ih =>
    rcases Nat.lt_or_ge k n with hn | hn
    · obtain rfl : n = k + 1 := by omega
      exact h0
    · exact h k _ (ih hn)
theorem rd_L1_nat {l : List (List Int)} {j : Nat} (h : j < l.length) : rd_L5 l (j : Int) = l[j] := by
  unfold rd_L5
  rw [Int.toNat_natCast, List.getD_eq_getElem?_getD, List.getElem?_eq_getElem h]
  rfl
theorem rd_nat {l : List Int} {j : Nat} (h : j < l.length) : rd l (j : Int) = l[j] := by
  unfold rd
  rw [Int.toNat_natCast, List.getD_eq_getElem?_getD, List.getElem?_eq_getElem h]
  rfl
theorem Segs.seg {l : List (List Int)} (h : Segs l) (s : Int) : Words (rd_L5 l s) := by
  unfold rd_L5
  rw [List.getD_eq_getElem?_getD]
  by_cases hs : s.toNat < l.length
  · rw [List.getElem?_eq_getElem hs]
    exact h.2 _ (List.getElem_mem hs)
  · rw [List.getElem?_eq_none (by omega)]
    exact ⟨by simp, fun x hx => by simp at hx⟩
/-- A range that is in bounds. -/
def inB (l : List (List Int)) (s a n : Int) : Prop := 0 ≤ s ∧ s < (l.length : Int) ∧ 0 ≤ a ∧ 0 ≤ n ∧ a + n ≤ ((rd_L5 l s).length : Int)
instance (l : List (List Int)) (s a n : Int) : Decidable (inB l s a n) := by unfold inB; infer_instance
theorem InBounds_eq {l : List (List Int)} (h : Segs l) (s a n : Int) : arena_InBounds.f l s a n = some (decide (inB l s a n)) := by
  have hw := (h.seg s).1
  unfold arena_InBounds.f
  by_cases hb : inB l s a n
  · obtain ⟨h1, h2, h3, h4, h5⟩ := hb
    rw [decide_eq_true (show inB l s a n from ⟨h1, h2, h3, h4, h5⟩), if_pos h1, if_pos h2, if_pos h3, if_pos h4, if_pos h1, if_pos (by omega), wrap64_id (by omega), decide_eq_true (by omega)]
  · rw [decide_eq_false hb]
    unfold inB at hb
    repeat' split
    all_goals first
      | rfl
      | (exfalso; omega)
      | (rw [wrap64_id (by omega), decide_eq_false (by omega)])
theorem Word_eq {l : List (List Int)} (h : Segs l) (s a : Int) : arena_Word.f l s a = some (if inB l s a 1 then (rd (rd_L5 l s) a, true) else (0, false)) := by
  unfold arena_Word.f
  rw [InBounds_eq h]
  simp only [Option.bind_some, decide_eq_true_eq]
  by_cases hb : inB l s a 1
  · have hb' := hb
    obtain ⟨h1, h2, h3, h4, h5⟩ := hb'
    rw [if_pos hb, if_pos h1, if_pos h2, if_pos h3, if_pos (by omega), if_pos hb]
  · rw [if_neg hb, if_neg hb]
/-- The words of a range. -/
def cut (l : List (List Int)) (s a n : Int) : List Int := ((rd_L5 l s).drop a.toNat).take n.toNat
theorem Slice_eq {l : List (List Int)} (h : Segs l) (s a n : Int) (hn : n < 17592186044416) : arena_Slice.f l s a n = some (if inB l s a n then (cut l s a n, true) else ([], false)) := by
  unfold arena_Slice.f
  rw [InBounds_eq h]
  simp only [Option.bind_some, decide_eq_true_eq]
  by_cases hb : inB l s a n
  · have hb' := hb
    obtain ⟨h1, h2, h3, h4, h5⟩ := hb'
    rw [if_pos hb, if_pos ⟨h1, h2, h3, h4, h5, hn⟩, if_pos hb]
    rfl
  · rw [if_neg hb, if_neg hb]
theorem Slice_no {l : List (List Int)} (h : Segs l) (s a n : Int) (hb : ¬ inB l s a n) : arena_Slice.f l s a n = some ([], false) := by
  unfold arena_Slice.f
  rw [InBounds_eq h]
  simp only [Option.bind_some, decide_eq_true_eq]
  rw [if_neg hb]
theorem same_loop (a b : List Int) (hl : a.length = b.length) (hm : a.length ≤ 9223372036854775807) : ∀ (d k j : Nat), j + d = a.length → d < k → capnpref01_SameWords.l0 k a b j = some (decide (a.drop j = b.drop j)) := by
  intro d
  induction d with
  | zero =>
    intro k j hj hk
    obtain ⟨k, rfl⟩ : ∃ q, k = q + 1 := ⟨k - 1, by omega⟩
    simp only [capnpref01_SameWords.l0]
    rw [if_neg (by omega), List.drop_eq_nil_of_le (by omega), List.drop_eq_nil_of_le (by omega)]
    rfl
  | succ d ih =>
    intro k j hj hk
    obtain ⟨k, rfl⟩ : ∃ q, k = q + 1 := ⟨k - 1, by omega⟩
    simp only [capnpref01_SameWords.l0]
    have ha : j < a.length := by omega
    have hb : j < b.length := by omega
    rw [if_pos (by omega), if_pos (by omega), if_pos (by omega), rd_nat ha, rd_nat hb, wrap64_id (by omega), show (j : Int) + 1 = ((j + 1 : Nat) : Int) by push_cast; rfl, ih k (j + 1) (by omega) (by omega), List.drop_eq_getElem_cons ha, List.drop_eq_getElem_cons hb]
    by_cases he : a[j] = b[j]
    · rw [if_pos he]
      simp only [Option.some.injEq, decide_eq_decide, List.cons.injEq, he, true_and]
    · rw [if_neg he, decide_eq_false (by rw [List.cons.injEq]; exact fun h => he h.1)]
theorem SameWords_eq (a b : List Int) (hm : a.length ≤ 9223372036854775807) (k : Nat) (hk : a.length < k) : capnpref01_SameWords.f k a b = some (decide (a = b)) := by
  unfold capnpref01_SameWords.f
  by_cases hl : a.length = b.length
  · rw [if_pos (by omega)]
    have := same_loop a b hl hm a.length k 0 (by omega) hk
    simpa using this
  · rw [if_neg (by omega), decide_eq_false (fun h => hl (by rw [h]))]
def Few (l : List (List Int)) : Prop := l.length ≤ 20 ∧ ∀ s ∈ l, s.length ≤ 300
theorem few_loop {l : List (List Int)} (h : Segs l) (hl : l.length ≤ 9223372036854775807) : ∀ (d k j : Nat), j + d = l.length → d < k → capnpref04_Few.l0 k l j = some (decide (l.length ≤ 20 ∧ ∀ s ∈ l.drop j, s.length ≤ 300)) := by
  intro d
  induction d with
  | zero =>
    intro k j hj hk
    obtain ⟨k, rfl⟩ : ∃ q, k = q + 1 := ⟨k - 1, by omega⟩
    simp only [capnpref04_Few.l0]
    rw [if_neg (by omega), List.drop_eq_nil_of_le (by omega)]
    simp only [Option.some.injEq, decide_eq_decide]
    constructor
    · intro h
      exact ⟨by omega, fun s hs => by simp at hs⟩
    · intro h
      have := h.1
      omega
  | succ d ih =>
    intro k j hj hk
    obtain ⟨k, rfl⟩ : ∃ q, k = q + 1 := ⟨k - 1, by omega⟩
    simp only [capnpref04_Few.l0]
    have ha : j < l.length := by omega
    rw [if_pos (by omega), if_pos (by omega), rd_L1_nat ha, wrap64_id (by omega), show (j : Int) + 1 = ((j + 1 : Nat) : Int) by push_cast; rfl, ih k (j + 1) (by omega) (by omega), List.drop_eq_getElem_cons ha]
    by_cases he : l[j].length ≤ 300
    · rw [if_neg (by omega)]
      simp only [Option.some.injEq, decide_eq_decide, List.mem_cons, forall_eq_or_imp, he, true_and]
    · rw [if_pos (by omega), decide_eq_false]
      intro hc
      exact he (hc.2 _ List.mem_cons_self)
instance (l : List (List Int)) : Decidable (Few l) := by unfold Few; infer_instance
theorem Few_eq {l : List (List Int)} (h : Segs l) (k : Nat) (hk : l.length + 1 < k) : capnpref04_Few.f k l = some (decide (Few l)) := by
  have := few_loop h h.1 l.length k 0 (by omega) (by omega)
  rw [List.drop_zero] at this
  exact this
/-- The number of all words. -/
def tot (l : List (List Int)) : Nat := (l.map List.length).sum
theorem tot_few {l : List (List Int)} (h : ∀ s ∈ l, s.length ≤ 300) : tot l ≤ 300 * l.length := by
  induction l with
  | nil => simp [tot]
  | cons s l ih =>
    have h1 := h s List.mem_cons_self
    have h2 := ih fun x hx => h x (List.mem_cons_of_mem _ hx)
    simp only [tot, List.map_cons, List.sum_cons, List.length_cons] at h2 ⊢
    omega
end Go.Proofs.YtcjhejopcghgnaaDoor.P

set_option linter.unusedVariables false
set_option linter.unusedSimpArgs false
namespace Go.Proofs.YtcjhejopcghgnaaDoor.P
open Go.RowKit Go.Proofs.YtcjhejopcghgnaaDoorW.PrintWords Go.Proofs.YtcjhejopcghgnaaDoorW.PrintLast Go.Proofs.YtcjhejopcghgnaaDoorW.PrintMore
theorem bits_and (x y : Int) : Go.bits .and .u64 x y = IntKind.u64.wrap (((BitVec.ofInt 64 x &&& BitVec.ofInt 64 y).toNat : Nat) : Int) := rfl
theorem bits_or (x y : Int) : Go.bits .or .u64 x y = IntKind.u64.wrap (((BitVec.ofInt 64 x ||| BitVec.ofInt 64 y).toNat : Nat) : Int) := rfl
theorem bits_andNot (x y : Int) : Go.bits .andNot .u64 x y = IntKind.u64.wrap (((BitVec.ofInt 64 x &&& ~~~BitVec.ofInt 64 y).toNat : Nat) : Int) := rfl
theorem ofInt_toNat {a : Nat} (h : a < 2 ^ 64) : (BitVec.ofInt 64 (a : Int)).toNat = a := by
  simp; omega
/-- 'and' with a mask of low bits. -/
theorem bits_and_low {a : Nat} (h : a < 2 ^ 64) {m : Nat} (hm : m ≤ 64) : Go.bits .and .u64 (a : Int) ((2 ^ m - 1 : Nat) : Int) = ((a % 2 ^ m : Nat) : Int) := by
  have hp : 2 ^ m ≤ 2 ^ 64 := Nat.pow_le_pow_right (by decide) hm
  have hq : 0 < 2 ^ m := Nat.pow_pos (by decide)
  rw [bits_and, BitVec.toNat_and, ofInt_toNat h, ofInt_toNat (show 2 ^ m - 1 < 2 ^ 64 by omega), Nat.and_two_pow_sub_one_eq_mod]
  have := Nat.mod_lt a hq
  exact wrap_u64 ⟨by omega, by omega⟩
theorem mask_eq (m : Nat) (h1 : 1 ≤ m) (h2 : m ≤ 64) : word_mask.f m = some ((2 ^ m - 1 : Nat) : Int) := by
  unfold word_mask.f
  have e1 : wrap64 (64 - (m : Int)) = ((64 - m : Nat) : Int) := by rw [wrap64_id (by omega)]; omega
  rw [e1, wrap_u64 (by omega), if_pos (by omega)]
  simp only [shr, IntKind.bits, Int.toNat_natCast, Option.some.injEq]
  rw [Nat.min_eq_left (by omega)]
  have hk : 2 ^ 64 = 2 ^ m * 2 ^ (64 - m) := by rw [← Nat.pow_add]; congr 1; omega
  have hp : 0 < 2 ^ (64 - m) := Nat.pow_pos (by decide)
  have hd : (18446744073709551615 : Nat) / 2 ^ (64 - m) = 2 ^ m - 1 := by
    rw [show (18446744073709551615 : Nat) = 2 ^ 64 - 1 from rfl, hk]
    rw [Nat.div_eq_iff hp]
    have hq : 0 < 2 ^ m := Nat.pow_pos (by decide)
    constructor
    · rw [Nat.sub_mul]; omega
    · have : (2 ^ m - 1) * 2 ^ (64 - m) = 2 ^ m * 2 ^ (64 - m) - 2 ^ (64 - m) := by rw [Nat.sub_mul, Nat.one_mul]
      have h3 : 2 ^ (64 - m) ≤ 2 ^ m * 2 ^ (64 - m) := Nat.le_mul_of_pos_left _ hq
      omega
  rw [← hd]
  simp
/-- A bit field of a word. -/
theorem field_eq (a : Nat) (h : a < 2 ^ 64) (i m : Nat) (h1 : 1 ≤ m) (h2 : i + m ≤ 64) : word_Field.f a i m = some ((a / 2 ^ i % 2 ^ m : Nat) : Int) := by
  unfold word_Field.f
  rw [wrap_u64 (by omega), if_pos (by omega), mask_eq m h1 (by omega)]
  simp only [Option.bind_some, shr, IntKind.bits, Int.toNat_natCast, Option.some.injEq]
  rw [Nat.min_eq_left (by omega)]
  have hc : ((a : Int) / 2 ^ i) = ((a / 2 ^ i : Nat) : Int) := by simp
  rw [hc]
  exact bits_and_low (Nat.lt_of_le_of_lt (Nat.div_le_self _ _) h) (by omega)
theorem shl_eq (a : Nat) (i : Nat) (hi : i < 64) : shl .u64 a i = ((a * 2 ^ i % 2 ^ 64 : Nat) : Int) := by
  simp only [shl, IntKind.bits, Int.toNat_natCast]
  rw [Nat.min_eq_left (by omega), wrap_u64_any]
  simp
theorem signed_eq (a : Nat) (h : a < 2 ^ 64) (i m : Nat) (h1 : 1 ≤ m) (h2 : i + m ≤ 64) (h3 : 1 ≤ i) :
    word_Signed.f a i m = some (if 2 ^ (m - 1) ≤ a / 2 ^ i % 2 ^ m then ((a / 2 ^ i % 2 ^ m : Nat) : Int) - ((2 ^ m : Nat) : Int) else ((a / 2 ^ i % 2 ^ m : Nat) : Int)) := by
  unfold word_Signed.f
  have e1 : wrap64 (wrap64 (64 - (i : Int)) - (m : Int)) = ((64 - i - m : Nat) : Int) := by rw [wrap64_id (x := 64 - (i : Int)) (by omega), wrap64_id (by omega)]; omega
  have e2 : wrap64 (64 - (m : Int)) = ((64 - m : Nat) : Int) := by rw [wrap64_id (by omega)]; omega
  rw [e1, e2, wrap_u64 (by omega), wrap_u64 (by omega), if_pos (by omega), if_pos (by omega), shl_eq _ _ (by omega)]
  simp only [shr, IntKind.bits, Int.toNat_natCast, Option.some.injEq]
  rw [Nat.min_eq_left (by omega)]
  -- the field stands at the top
  have key : a * 2 ^ (64 - i - m) % 2 ^ 64 = (a % 2 ^ (i + m)) * 2 ^ (64 - i - m) := by
    have : 2 ^ 64 = 2 ^ (i + m) * 2 ^ (64 - i - m) := by rw [← Nat.pow_add]; congr 1; omega
    rw [this, Nat.mul_mod_mul_right]
  have hv : a / 2 ^ i % 2 ^ m = a % 2 ^ (i + m) / 2 ^ i := by
    rw [Nat.pow_add, Nat.mod_mul_right_div_self]
  rw [key, hv]
  generalize hb : a % 2 ^ (i + m) = b
  have hb1 : b < 2 ^ (i + m) := by rw [← hb]; exact Nat.mod_lt _ (Nat.pow_pos (by decide))
  have p1 : 2 ^ (i + m) = 2 * 2 ^ (i + m - 1) := by rw [← Nat.pow_succ']; congr 1; omega
  have p2 : 2 ^ (i + m - 1) * 2 ^ (64 - i - m) = 2 ^ 63 := by rw [← Nat.pow_add]; congr 1; omega
  have p3 : 2 ^ (64 - m) = 2 ^ i * 2 ^ (64 - i - m) := by rw [← Nat.pow_add]; congr 1; omega
  have p4 : 2 ^ (i + m - 1) = 2 ^ i * 2 ^ (m - 1) := by rw [← Nat.pow_add]; congr 1; omega
  have p5 : 2 ^ (i + m) * 2 ^ (64 - i - m) = 2 ^ 64 := by rw [← Nat.pow_add]; congr 1; omega
  have p6 : 2 ^ (i + m) = 2 ^ i * 2 ^ m := by rw [← Nat.pow_add]
  have q1 : 0 < 2 ^ i := Nat.pow_pos (by decide)
  have q2 : 0 < 2 ^ (64 - i - m) := Nat.pow_pos (by decide)
  by_cases hneg : 2 ^ (i + m - 1) ≤ b
  · have hc : 2 ^ 63 ≤ b * 2 ^ (64 - i - m) := by rw [← p2]; exact Nat.mul_le_mul_right _ hneg
    have hc2 : b * 2 ^ (64 - i - m) < 2 ^ 64 := by rw [← p5]; exact Nat.mul_lt_mul_of_pos_right hb1 q2
    have hcond : 2 ^ (m - 1) ≤ b / 2 ^ i := by rw [Nat.le_div_iff_mul_le q1, Nat.mul_comm, ← p4]; exact hneg
    rw [if_pos hcond]
    have hw : wrap64 ((b * 2 ^ (64 - i - m) : Nat) : Int) = ((b * 2 ^ (64 - i - m) : Nat) : Int) - 18446744073709551616 := by
      unfold wrap64
      have : (2 : Nat) ^ 63 = 9223372036854775808 := rfl
      have : (2 : Nat) ^ 64 = 18446744073709551616 := rfl
      omega
    rw [hw]
    have h64 : (18446744073709551616 : Int) = ((2 ^ (i + m) * 2 ^ (64 - i - m) : Nat) : Int) := by rw [p5]; rfl
    rw [h64, p6]
    have e4 : ((2 : Int) ^ (64 - m)) = ((2 ^ i * 2 ^ (64 - i - m) : Nat) : Int) := by rw [← p3]; simp
    rw [e4]
    have e5 : ((b * 2 ^ (64 - i - m) : Nat) : Int) - ((2 ^ i * 2 ^ m * 2 ^ (64 - i - m) : Nat) : Int) = ((b : Int) - ((2 ^ i * 2 ^ m : Nat) : Int)) * ((2 ^ (64 - i - m) : Nat) : Int) := by push_cast; rw [Int.sub_mul]
    rw [e5, show ((2 ^ i * 2 ^ (64 - i - m) : Nat) : Int) = ((2 ^ i : Nat) : Int) * ((2 ^ (64 - i - m) : Nat) : Int) by push_cast; rfl]
    rw [Int.mul_ediv_mul_of_pos_left _ _ (by exact_mod_cast q2)]
    rw [show ((b : Int) - ((2 ^ i * 2 ^ m : Nat) : Int)) = (b : Int) + ((2 ^ i : Nat) : Int) * (-((2 ^ m : Nat) : Int)) by push_cast; rw [Int.mul_neg]; rfl]
    rw [Int.add_mul_ediv_left _ _ (by exact_mod_cast (Nat.pos_iff_ne_zero.mp q1))]
    push_cast
    rfl
  · have hcond : ¬ 2 ^ (m - 1) ≤ b / 2 ^ i := by rw [Nat.le_div_iff_mul_le q1, Nat.mul_comm, ← p4]; exact hneg
    rw [if_neg hcond]
    have hlt : b * 2 ^ (64 - i - m) < 2 ^ 63 := by rw [← p2]; exact Nat.mul_lt_mul_of_pos_right (by omega) q2
    have : (2 : Nat) ^ 63 = 9223372036854775808 := rfl
    rw [wrap64_id (by omega)]
    have e4 : ((2 : Int) ^ (64 - m)) = ((2 ^ i * 2 ^ (64 - i - m) : Nat) : Int) := by rw [← p3]; simp
    rw [e4, ← Int.natCast_ediv, Nat.mul_div_mul_right _ _ q2]
end Go.Proofs.YtcjhejopcghgnaaDoor.P

set_option linter.unusedVariables false
set_option linter.unusedSimpArgs false
namespace Go.Proofs.YtcjhejopcghgnaaDoor.P
open Go.RowKit Go.Proofs.YtcjhejopcghgnaaDoorW.PrintWords Go.Proofs.YtcjhejopcghgnaaDoorW.PrintLast Go.Proofs.YtcjhejopcghgnaaDoorW.PrintMore
abbrev PT := Int × Int × Int × Int × Int × Int × Bool × Int × Int × Int
def sgn30 (v : Int) : Int := if 536870912 ≤ v then v - 1073741824 else v
/-- What a word decodes to. -/
def decI (a : Int) : PT :=
  if a % 4 = 0 then (0, sgn30 (a / 4 % 1073741824), a / 4294967296 % 65536, a / 281474976710656 % 65536, 0, 0, false, 0, 0, 0)
  else if a % 4 = 1 then (1, sgn30 (a / 4 % 1073741824), 0, 0, a / 4294967296 % 8, a / 34359738368 % 536870912, false, 0, 0, 0)
  else if a % 4 = 2 then (2, 0, 0, 0, 0, 0, a / 4 % 2 == 1, a / 8 % 536870912, a / 4294967296 % 4294967296, 0)
  else (3, 0, 0, 0, 0, 0, false, 0, a / 4294967296 % 4294967296, a / 4 % 1073741824)
theorem fieldI {a : Int} (h : 0 ≤ a ∧ a < 18446744073709551616) (i m : Nat) (h1 : 1 ≤ m) (h2 : i + m ≤ 64) : word_Field.f a i m = some (a / 2 ^ i % 2 ^ m) := by
  obtain ⟨n, rfl⟩ := Int.eq_ofNat_of_zero_le h.1
  rw [field_eq n (by omega) i m h1 h2]
  simp
theorem signedI {a : Int} (h : 0 ≤ a ∧ a < 18446744073709551616) : word_Signed.f a 2 30 = some (sgn30 (a / 4 % 1073741824)) := by
  obtain ⟨n, rfl⟩ := Int.eq_ofNat_of_zero_le h.1
  refine (signed_eq n (by omega) 2 30 (by decide) (by decide) (by decide)).trans ?_
  unfold sgn30
  simp only [Option.some.injEq]
  rw [show (2 : Nat) ^ (30 - 1) = 536870912 from rfl, show (2 : Nat) ^ 2 = 4 from rfl, show (2 : Nat) ^ 30 = 1073741824 from rfl]
  split <;> split <;> omega
theorem Decode_eq {a : Int} (h : 0 ≤ a ∧ a < 18446744073709551616) : pointer_Decode.f a = some (decI a) := by
  have k0 : word_Field.f a 0 2 = some (a % 4) := by have := fieldI h 0 2 (by decide) (by decide); simpa using this
  have k1 : word_Field.f a 32 16 = some (a / 4294967296 % 65536) := fieldI h 32 16 (by decide) (by decide)
  have k2 : word_Field.f a 48 16 = some (a / 281474976710656 % 65536) := fieldI h 48 16 (by decide) (by decide)
  have k3 : word_Field.f a 32 3 = some (a / 4294967296 % 8) := fieldI h 32 3 (by decide) (by decide)
  have k4 : word_Field.f a 35 29 = some (a / 34359738368 % 536870912) := fieldI h 35 29 (by decide) (by decide)
  have k5 : word_Field.f a 2 1 = some (a / 4 % 2) := fieldI h 2 1 (by decide) (by decide)
  have k6 : word_Field.f a 3 29 = some (a / 8 % 536870912) := fieldI h 3 29 (by decide) (by decide)
  have k7 : word_Field.f a 32 32 = some (a / 4294967296 % 4294967296) := fieldI h 32 32 (by decide) (by decide)
  have k8 : word_Field.f a 2 30 = some (a / 4 % 1073741824) := fieldI h 2 30 (by decide) (by decide)
  unfold pointer_Decode.f pointer_decoders_1.f pointer_decoders_2.f pointer_decoders_3.f pointer_decoders_4.f decI
  rw [k0, k1, k2, k3, k4, k5, k6, k7, k8, signedI h]
  simp only [Option.bind_some]
  rw [wrap64_id (x := a / 4294967296 % 65536) (by omega), wrap64_id (x := a / 281474976710656 % 65536) (by omega), wrap64_id (x := a / 4294967296 % 8) (by omega), wrap64_id (x := a / 34359738368 % 536870912) (by omega), wrap64_id (x := a / 8 % 536870912) (by omega)]
  rw [show a / 4294967296 % 4294967296 % 4294967296 = a / 4294967296 % 4294967296 by omega, show a / 4 % 1073741824 % 4294967296 = a / 4 % 1073741824 by omega]
  by_cases c0 : a % 4 = 0
  · simp [c0]
  by_cases c1 : a % 4 = 1
  · simp [c1]
  by_cases c2 : a % 4 = 2
  · simp [c2]
  · have c3 : a % 4 = 3 := by omega
    simp [c3]
/-- The word of a pointer of one of the four kinds, its fields cut to their widths. -/
def pakI (p : PT) : Int :=
  if p.1 = 0 then p.2.1 % 1073741824 * 4 + p.2.2.1 % 65536 * 4294967296 + p.2.2.2.1 % 65536 * 281474976710656
  else if p.1 = 1 then 1 + p.2.1 % 1073741824 * 4 + p.2.2.2.2.1 % 8 * 4294967296 + p.2.2.2.2.2.1 % 536870912 * 34359738368
  else if p.1 = 2 then 2 + (if p.2.2.2.2.2.2.1 then 4 else 0) + p.2.2.2.2.2.2.2.1 % 536870912 * 8 + p.2.2.2.2.2.2.2.2.1 % 4294967296 * 4294967296
  else 3 + p.2.2.2.2.2.2.2.2.2 % 1073741824 * 4 + p.2.2.2.2.2.2.2.2.1 % 4294967296 * 4294967296
theorem pakI_range (p : PT) : 0 ≤ pakI p ∧ pakI p < 18446744073709551616 := by
  unfold pakI
  split
  · omega
  split
  · omega
  split
  · split <;> omega
  · omega
/-- Is a pointer valid? -/
def vldP (p : PT) : Prop :=
  (p.1 = 0 ∧ -536870912 ≤ p.2.1 ∧ p.2.1 ≤ 536870911 ∧ 0 ≤ p.2.2.1 ∧ p.2.2.1 ≤ 65535 ∧ 0 ≤ p.2.2.2.1 ∧ p.2.2.2.1 ≤ 65535 ∧ p.2.2.2.2.1 = 0 ∧ p.2.2.2.2.2.1 = 0 ∧ p.2.2.2.2.2.2.1 = false ∧ p.2.2.2.2.2.2.2.1 = 0 ∧ p.2.2.2.2.2.2.2.2.1 = 0 ∧ p.2.2.2.2.2.2.2.2.2 = 0) ∨
  (p.1 = 1 ∧ -536870912 ≤ p.2.1 ∧ p.2.1 ≤ 536870911 ∧ p.2.2.1 = 0 ∧ p.2.2.2.1 = 0 ∧ 0 ≤ p.2.2.2.2.1 ∧ p.2.2.2.2.1 ≤ 7 ∧ 0 ≤ p.2.2.2.2.2.1 ∧ p.2.2.2.2.2.1 ≤ 536870911 ∧ p.2.2.2.2.2.2.1 = false ∧ p.2.2.2.2.2.2.2.1 = 0 ∧ p.2.2.2.2.2.2.2.2.1 = 0 ∧ p.2.2.2.2.2.2.2.2.2 = 0) ∨
  (p.1 = 2 ∧ p.2.1 = 0 ∧ p.2.2.1 = 0 ∧ p.2.2.2.1 = 0 ∧ p.2.2.2.2.1 = 0 ∧ p.2.2.2.2.2.1 = 0 ∧ 0 ≤ p.2.2.2.2.2.2.2.1 ∧ p.2.2.2.2.2.2.2.1 ≤ 536870911 ∧ 0 ≤ p.2.2.2.2.2.2.2.2.1 ∧ p.2.2.2.2.2.2.2.2.1 ≤ 4294967295 ∧ p.2.2.2.2.2.2.2.2.2 = 0) ∨
  (p.1 = 3 ∧ p.2.1 = 0 ∧ p.2.2.1 = 0 ∧ p.2.2.2.1 = 0 ∧ p.2.2.2.2.1 = 0 ∧ p.2.2.2.2.2.1 = 0 ∧ p.2.2.2.2.2.2.1 = false ∧ p.2.2.2.2.2.2.2.1 = 0 ∧ 0 ≤ p.2.2.2.2.2.2.2.2.1 ∧ p.2.2.2.2.2.2.2.2.1 ≤ 4294967295 ∧ 0 ≤ p.2.2.2.2.2.2.2.2.2 ∧ p.2.2.2.2.2.2.2.2.2 ≤ 1073741823)
instance (p : PT) : Decidable (vldP p) := by unfold vldP; infer_instance
theorem decI_valid {a : Int} (h : 0 ≤ a ∧ a < 18446744073709551616) : vldP (decI a) := by
  unfold decI vldP sgn30
  split
  · refine .inl ⟨rfl, ?_, ?_, by simp; omega, by simp; omega, by simp; omega, by simp; omega, rfl, rfl, rfl, rfl, rfl, rfl⟩ <;> (simp only []; split <;> omega)
  split
  · refine .inr (.inl ⟨rfl, ?_, ?_, rfl, rfl, by simp; omega, by simp; omega, by simp; omega, by simp; omega, rfl, rfl, rfl, rfl⟩) <;> (simp only []; split <;> omega)
  split
  · exact .inr (.inr (.inl ⟨rfl, rfl, rfl, rfl, rfl, rfl, by simp; omega, by simp; omega, by simp; omega, by simp; omega, rfl⟩))
  · exact .inr (.inr (.inr ⟨rfl, rfl, rfl, rfl, rfl, rfl, rfl, rfl, by simp; omega, by simp; omega, by simp; omega, by simp; omega⟩))
theorem dec_pak {p : PT} (h : vldP p) : decI (pakI p) = p := by
  obtain ⟨k, o, d, q, e, c, b, pd, sg, lo⟩ := p
  unfold vldP at h
  simp only at h
  rcases h with ⟨rfl, h1, h2, h3, h4, h5, h6, rfl, rfl, rfl, rfl, rfl, rfl⟩ | ⟨rfl, h1, h2, rfl, rfl, h3, h4, h5, h6, rfl, rfl, rfl, rfl⟩ | ⟨rfl, rfl, rfl, rfl, rfl, rfl, h1, h2, h3, h4, rfl⟩ | ⟨rfl, rfl, rfl, rfl, rfl, rfl, rfl, rfl, h1, h2, h3, h4⟩
  · simp only [pakI, decI, if_true]
    rw [if_pos (by omega)]
    simp only [Prod.mk.injEq, and_true, true_and, sgn30]
    refine ⟨?_, by omega, by omega⟩
    split <;> omega
  · simp only [pakI, decI, if_true, show ¬ ((1 : Int) = 0) by decide, if_false]
    rw [if_neg (by omega), if_pos (by omega)]
    simp only [Prod.mk.injEq, and_true, true_and, sgn30]
    refine ⟨?_, by omega, by omega⟩
    split <;> omega
  · simp only [pakI, decI, if_true, show ¬ ((2 : Int) = 0) by decide, show ¬ ((2 : Int) = 1) by decide, if_false]
    cases b
    · simp only [Bool.false_eq_true, if_false]
      rw [if_neg (by omega), if_neg (by omega), if_pos (by omega)]
      simp only [Prod.mk.injEq, and_true, true_and]
      refine ⟨by rw [beq_eq_false_iff_ne]; omega, by omega, by omega⟩
    · simp only [if_true]
      rw [if_neg (by omega), if_neg (by omega), if_pos (by omega)]
      simp only [Prod.mk.injEq, and_true, true_and]
      refine ⟨by rw [beq_iff_eq]; omega, by omega, by omega⟩
  · simp only [pakI, decI, show ¬ ((3 : Int) = 0) by decide, show ¬ ((3 : Int) = 1) by decide, show ¬ ((3 : Int) = 2) by decide, if_false]
    rw [if_neg (by omega), if_neg (by omega), if_neg (by omega)]
    simp only [Prod.mk.injEq, and_true, true_and]
    omega
theorem pak_dec {a : Int} (h : 0 ≤ a ∧ a < 18446744073709551616) : pakI (decI a) = a := by
  unfold decI sgn30
  split
  · simp only [pakI, if_true]; split <;> omega
  split
  · simp only [pakI, if_true, show ¬ ((1 : Int) = 0) by decide, if_false]; split <;> omega
  split
  · simp only [pakI, if_true, show ¬ ((2 : Int) = 0) by decide, show ¬ ((2 : Int) = 1) by decide, if_false]
    by_cases hb : a / 4 % 2 = 1
    · rw [if_pos (by rw [beq_iff_eq]; exact hb)]; omega
    · rw [if_neg (by rw [beq_iff_eq]; exact hb)]; omega
  · simp only [pakI, show ¬ ((3 : Int) = 0) by decide, show ¬ ((3 : Int) = 1) by decide, show ¬ ((3 : Int) = 2) by decide, if_false]; omega
end Go.Proofs.YtcjhejopcghgnaaDoor.P

namespace Go.Proofs.YtcjhejopcghgnaaDoor.P
open Go.RowKit Go.Proofs.YtcjhejopcghgnaaDoorW.PrintWords Go.Proofs.YtcjhejopcghgnaaDoorW.PrintLast Go.Proofs.YtcjhejopcghgnaaDoorW.PrintMore
attribute [local go_sem] max2_int min2_int max_two min_two max_three min_three max_four min_four   -- for this text's walks alone
set_option linter.unusedVariables false
set_option linter.unusedSimpArgs false

variable {gb : Bool}
/-! ### capnpref01_Pow: function 50 -/
def capnpref01_Pow.l0 : Nat → Int → Int → Int → Option (Int)
  | 0, _, _, _ => none
  | k + 1, x0, x3, x4 => if x4 < x0 then (capnpref01_Pow.l0 k x0 (IntKind.u64.wrap (x3 * 2)) (wrap64 (x4 + 1))) else (some x3)
def capnpref01_Pow.f (k : Nat) (a0 : Int) : Option (Int) := capnpref01_Pow.l0 k a0 1 0
theorem capnpref01_Pow.mono_l : ∀ k, (∀ y0 y1 y2, LeO (capnpref01_Pow.l0 k y0 y1 y2) (capnpref01_Pow.l0 (k + 1) y0 y1 y2))
  | 0 => fun _ _ _ r h => by simp [capnpref01_Pow.l0] at h
  | k + 1 => by
    have ih0 := capnpref01_Pow.mono_l k
    · intro y0 y1 y2
      unfold capnpref01_Pow.l0
      repeat' first
      | (with_reducible apply ih0)
      | (with_reducible exact LeO.refl _)
      | (with_reducible refine LeO.ite ?_ ?_)
theorem capnpref01_Pow.mono : ∀ a0 k, LeO (capnpref01_Pow.f k a0) (capnpref01_Pow.f (k + 1) a0) := by
  intro a0 k
  have ih0 := capnpref01_Pow.mono_l k
  unfold capnpref01_Pow.f
  repeat' (with_reducible apply ih0)
set_option maxHeartbeats 8000000 in
set_option maxRecDepth 100000 in
theorem capnpref01_Pow.calls (k : Nat) (a0 r : Int) (w : World) (h : capnpref01_Pow.f k a0 = some r) :
    Calls Tryd.prog 50 #[.int .i64 a0] w fun e w' => e = .returned (.int .u64 r) ∧ Drawn0 w w' := by
  have H : (capnpref01_Pow.l0 k a0 1 0) = some r := h
  clear h
  have H' := Aside0.mk H
  clear H
  go_enter Tryd.func50, Tryd.ntmps50
  go_wp2
  go_loopg [3, 4] k (fun kq v3 v4 w' => ∃ (x3_1 x4_1 : Int), v3 = .int .u64 x3_1 ∧ v4 = .int .i64 x4_1 ∧ Aside0 (capnpref01_Pow.l0 kq a0 x3_1 x4_1 = some r) ∧ Aside0 (kq ≤ k) ∧ Drawn0 w w')
  case atStart => exact ⟨(1), (0), (by rfl), (by rfl), H', ⟨Nat.le_refl _⟩, by repeat (exact Drawn0.refl _)⟩
  case round =>
    clear H'
    obtain ⟨x3_1, x4_1, rfl, rfl, HA, HK1, ⟨m1, rfl⟩⟩ := hrel
    cases gk with
    | zero => exact absurd HA.out (by simp [capnpref01_Pow.l0])
    | succ k1 =>
      have H := HA.out
      clear HA
      simp only [capnpref01_Pow.l0] at H
      by_cases c2 : x4_1 < a0
      · rw [if_pos c2] at H
        have c2b0 : decide (x4_1 < a0) = true := decide_eq_true c2
        clear c2
        have H' := Aside0.mk H
        clear H
        go_wp2
        go_roundg k1
        case measure => omega
        case rel => exact ⟨(IntKind.u64.wrap (x3_1 * 2)), (wrap64 (x4_1 + 1)), (by rfl), (by rfl), H', ⟨by have := HK1.out; omega⟩, by repeat (first | exact Drawn0.refl _ | apply Drawn0.step)⟩
      · rw [if_neg c2] at H
        have c2b0 : decide (x4_1 < a0) = false := decide_eq_false c2
        clear c2
        obtain rfl := Option.some.inj H
        go_wp2
        go_ret
        exact ⟨by rfl, by repeat (first | exact Drawn0.refl _ | apply Drawn0.step)⟩

end Go.Proofs.YtcjhejopcghgnaaDoor.P

namespace Go.Proofs.YtcjhejopcghgnaaDoor.P
open Go.RowKit Go.Proofs.YtcjhejopcghgnaaDoorW.PrintWords Go.Proofs.YtcjhejopcghgnaaDoorW.PrintLast Go.Proofs.YtcjhejopcghgnaaDoorW.PrintMore
attribute [local go_sem] max2_int min2_int max_two min_two max_three min_three max_four min_four   -- for this text's walks alone
set_option linter.unusedVariables false
set_option linter.unusedSimpArgs false

variable {gb : Bool}
/-! ### capnpref01_Field: function 39 -/
def capnpref01_Field.l0 : Nat → Int → Int → Int → Int → Int → Option (Int)
  | 0, _, _, _, _, _ => none
  | k + 1, x0, x1, x2, x7, x8 => if x8 < x2 then ((capnpref01_Pow.f k (wrap64 (x1 + x8))).bind fun t216 => (if t216 = 0 then (none) else (if (Int.tmod (IntKind.u64.wrap (Int.tdiv x0 t216)) 2) = 1 then ((capnpref01_Pow.f k x8).bind fun t217 => (capnpref01_Field.l0 k x0 x1 x2 (IntKind.u64.wrap (x7 + t217)) (wrap64 (x8 + 1)))) else (capnpref01_Field.l0 k x0 x1 x2 x7 (wrap64 (x8 + 1)))))) else (some x7)
def capnpref01_Field.f (k : Nat) (a0 a1 a2 : Int) : Option (Int) := capnpref01_Field.l0 k a0 a1 a2 0 0
theorem capnpref01_Field.mono_l : ∀ k, (∀ y0 y1 y2 y3 y4, LeO (capnpref01_Field.l0 k y0 y1 y2 y3 y4) (capnpref01_Field.l0 (k + 1) y0 y1 y2 y3 y4))
  | 0 => fun _ _ _ _ _ r h => by simp [capnpref01_Field.l0] at h
  | k + 1 => by
    have ih0 := capnpref01_Field.mono_l k
    · intro y0 y1 y2 y3 y4
      unfold capnpref01_Field.l0
      repeat' first
      | (with_reducible apply ih0)
      | (with_reducible apply capnpref01_Pow.mono)
      | (with_reducible exact LeO.refl _)
      | (with_reducible refine LeO.ite ?_ ?_)
      | (with_reducible refine LeO.bind ?_ (fun _ => ?_))
theorem capnpref01_Field.mono : ∀ a0 a1 a2 k, LeO (capnpref01_Field.f k a0 a1 a2) (capnpref01_Field.f (k + 1) a0 a1 a2) := by
  intro a0 a1 a2 k
  have ih0 := capnpref01_Field.mono_l k
  unfold capnpref01_Field.f
  repeat' (with_reducible apply ih0)
set_option maxHeartbeats 8000000 in
set_option maxRecDepth 100000 in
theorem capnpref01_Field.calls (k : Nat) (a0 a1 a2 r : Int) (w : World) (h : capnpref01_Field.f k a0 a1 a2 = some r) :
    Calls Tryd.prog 39 #[.int .u64 a0, .int .i64 a1, .int .i64 a2] w fun e w' => e = .returned (.int .u64 r) ∧ Drawn0 w w' := by
  have H : (capnpref01_Field.l0 k a0 a1 a2 0 0) = some r := h
  clear h
  have H' := Aside0.mk H
  clear H
  go_enter Tryd.func39, Tryd.ntmps39
  go_wp2
  go_loopg [7, 8] k (fun kq v7 v8 w' => ∃ (x7_1 x8_1 : Int), v7 = .int .u64 x7_1 ∧ v8 = .int .i64 x8_1 ∧ Aside0 (capnpref01_Field.l0 kq a0 a1 a2 x7_1 x8_1 = some r) ∧ Aside0 (kq ≤ k) ∧ Drawn0 w w')
  case atStart => exact ⟨(0), (0), (by rfl), (by rfl), H', ⟨Nat.le_refl _⟩, by repeat (exact Drawn0.refl _)⟩
  case round =>
    clear H'
    skip
    skip
    obtain ⟨x7_1, x8_1, rfl, rfl, HA, HK1, ⟨m1, rfl⟩⟩ := hrel
    cases gk with
    | zero => exact absurd HA.out (by simp [capnpref01_Field.l0])
    | succ k1 =>
      have H := HA.out
      clear HA
      simp only [capnpref01_Field.l0] at H
      by_cases c4 : x8_1 < a2
      · rw [if_pos c4] at H
        have c4b0 : decide (x8_1 < a2) = true := decide_eq_true c4
        clear c4
        replace H := Option.bind_eq_some_iff.mp H
        obtain ⟨t216, A50, H⟩ := H
        have A5 := Aside0.mk A50
        clear A50
        by_cases c6 : t216 = 0
        · rw [if_pos c6] at H
          exact absurd H (by simp)
        · rw [if_neg c6] at H
          by_cases c7 : (Int.tmod (IntKind.u64.wrap (Int.tdiv a0 t216)) 2) = 1
          · rw [if_pos c7] at H
            have c7b0 : ((Int.tmod (IntKind.u64.wrap (Int.tdiv a0 t216)) 2) == 1) = true := beq_iff_eq.mpr c7
            clear c7
            replace H := Option.bind_eq_some_iff.mp H
            obtain ⟨t217, A80, H⟩ := H
            replace H : (capnpref01_Field.l0 k1 a0 a1 a2 (IntKind.u64.wrap (x7_1 + t217)) (wrap64 (x8_1 + 1))) = some r := H
            have A8 := Aside0.mk A80
            clear A80
            have H' := Aside0.mk H
            clear H
            go_wp2_with (first | ((with_reducible refine gate_callee (f := 50) rfl ?_); refine goesL_ (some 18) rfl rfl Tryd.func50 (by kernel_rfl) rfl #[.int .i64 (wrap64 (a1 + x8_1))] rfl (by (try simp only [List.map_toArray, List.map_cons, List.map_nil]); rfl) ?_; (with_reducible refine (capnpref01_Pow.calls k1 (wrap64 (a1 + x8_1)) t216 _ A5.out).mono ?_); rintro e w' ⟨rfl, ⟨nd, rfl⟩⟩; refine ⟨_, rfl, ?_⟩) | ((with_reducible refine gate_callee (f := 50) rfl ?_); refine goesL_ (some 24) rfl rfl Tryd.func50 (by kernel_rfl) rfl #[.int .i64 x8_1] rfl (by (try simp only [List.map_toArray, List.map_cons, List.map_nil]); rfl) ?_; (with_reducible refine (capnpref01_Pow.calls k1 x8_1 t217 _ A8.out).mono ?_); rintro e w' ⟨rfl, ⟨nd, rfl⟩⟩; refine ⟨_, rfl, ?_⟩))
            go_roundg k1
            case measure => omega
            case rel => exact ⟨(IntKind.u64.wrap (x7_1 + t217)), (wrap64 (x8_1 + 1)), (by rfl), (by rfl), H', ⟨by have := HK1.out; omega⟩, by repeat (first | exact Drawn0.refl _ | apply Drawn0.step)⟩
          · rw [if_neg c7] at H
            have c7b0 : ((Int.tmod (IntKind.u64.wrap (Int.tdiv a0 t216)) 2) == 1) = false := beq_eq_false_iff_ne.mpr c7
            have H' := Aside0.mk H
            clear H
            go_wp2_with (((with_reducible refine gate_callee (f := 50) rfl ?_); refine goesL_ (some 18) rfl rfl Tryd.func50 (by kernel_rfl) rfl #[.int .i64 (wrap64 (a1 + x8_1))] rfl (by (try simp only [List.map_toArray, List.map_cons, List.map_nil]); rfl) ?_; (with_reducible refine (capnpref01_Pow.calls k1 (wrap64 (a1 + x8_1)) t216 _ A5.out).mono ?_); rintro e w' ⟨rfl, ⟨nd, rfl⟩⟩; refine ⟨_, rfl, ?_⟩))
            go_roundg k1
            case measure => omega
            case rel => exact ⟨(x7_1), (wrap64 (x8_1 + 1)), (by rfl), (by rfl), H', ⟨by have := HK1.out; omega⟩, by repeat (first | exact Drawn0.refl _ | apply Drawn0.step)⟩
      · rw [if_neg c4] at H
        have c4b0 : decide (x8_1 < a2) = false := decide_eq_false c4
        clear c4
        obtain rfl := Option.some.inj H
        go_wp2
        go_ret
        exact ⟨by rfl, by repeat (first | exact Drawn0.refl _ | apply Drawn0.step)⟩

end Go.Proofs.YtcjhejopcghgnaaDoor.P

namespace Go.Proofs.YtcjhejopcghgnaaDoor.P
open Go.RowKit Go.Proofs.YtcjhejopcghgnaaDoorW.PrintWords Go.Proofs.YtcjhejopcghgnaaDoorW.PrintLast Go.Proofs.YtcjhejopcghgnaaDoorW.PrintMore
attribute [local go_sem] max2_int min2_int max_two min_two max_three min_three max_four min_four   -- for this text's walks alone
set_option linter.unusedVariables false
set_option linter.unusedSimpArgs false

variable {gb : Bool}
/-! ### capnpref01_Signed: function 38 -/
def capnpref01_Signed.f (k : Nat) (a0 a1 a2 : Int) : Option (Int) := (capnpref01_Field.f k a0 a1 a2).bind fun t218 => (if a2 = 64 then (some (wrap64 (t218))) else ((capnpref01_Pow.f k (wrap64 (a2 - 1))).bind fun t219 => (if t218 ≥ t219 then ((capnpref01_Pow.f k (wrap64 (a2 - 1))).bind fun t220 => ((capnpref01_Pow.f k (wrap64 (a2 - 1))).bind fun t221 => (some (wrap64 ((wrap64 ((wrap64 (t218)) - (wrap64 (t220)))) - (wrap64 (t221))))))) else (some (wrap64 (t218))))))
theorem capnpref01_Signed.mono : ∀ a0 a1 a2 k, LeO (capnpref01_Signed.f k a0 a1 a2) (capnpref01_Signed.f (k + 1) a0 a1 a2) := by
  intro a0 a1 a2 k
  unfold capnpref01_Signed.f
  repeat' first
      | (with_reducible apply capnpref01_Field.mono)
      | (with_reducible apply capnpref01_Pow.mono)
      | (with_reducible exact LeO.refl _)
      | (with_reducible refine LeO.ite ?_ ?_)
      | (with_reducible refine LeO.bind ?_ (fun _ => ?_))
set_option maxHeartbeats 8000000 in
set_option maxRecDepth 100000 in
theorem capnpref01_Signed.calls (k : Nat) (a0 a1 a2 r : Int) (w : World) (h : capnpref01_Signed.f k a0 a1 a2 = some r) :
    Calls Tryd.prog 38 #[.int .u64 a0, .int .i64 a1, .int .i64 a2] w fun e w' => e = .returned (.int .i64 r) ∧ Drawn0 w w' := by
  have H := h
  unfold capnpref01_Signed.f at H
  clear h
  replace H := Option.bind_eq_some_iff.mp H
  obtain ⟨t218, A40, H⟩ := H
  have A4 := Aside0.mk A40
  clear A40
  by_cases c5 : a2 = 64
  · rw [if_pos c5] at H
    have c5b0 : (a2 == 64) = true := beq_iff_eq.mpr c5
    clear c5
    obtain rfl := Option.some.inj H
    go_enter Tryd.func38, Tryd.ntmps38
    go_wp2_with (((with_reducible refine gate_callee (f := 39) rfl ?_); refine goesL_ (some 11) rfl rfl Tryd.func39 (by kernel_rfl) rfl #[.int .u64 a0, .int .i64 a1, .int .i64 a2] rfl (by (try simp only [List.map_toArray, List.map_cons, List.map_nil]); rfl) ?_; (with_reducible refine (capnpref01_Field.calls k a0 a1 a2 t218 _ A4.out).mono ?_); rintro e w' ⟨rfl, ⟨nd, rfl⟩⟩; refine ⟨_, rfl, ?_⟩))
    go_ret
    exact ⟨by rfl, by repeat (first | exact Drawn0.refl _ | apply Drawn0.step)⟩
  · rw [if_neg c5] at H
    have c5b0 : (a2 == 64) = false := beq_eq_false_iff_ne.mpr c5
    replace H := Option.bind_eq_some_iff.mp H
    obtain ⟨t219, A60, H⟩ := H
    have A6 := Aside0.mk A60
    clear A60
    by_cases c7 : t218 ≥ t219
    · rw [if_pos c7] at H
      have c7b0 : decide (t219 ≤ t218) = true := decide_eq_true c7
      clear c7
      replace H := Option.bind_eq_some_iff.mp H
      obtain ⟨t220, A80, H⟩ := H
      replace H : ((capnpref01_Pow.f k (wrap64 (a2 - 1))).bind fun t221 => (some (wrap64 ((wrap64 ((wrap64 (t218)) - (wrap64 (t220)))) - (wrap64 (t221)))))) = some r := H
      have A8 := Aside0.mk A80
      clear A80
      replace H := Option.bind_eq_some_iff.mp H
      obtain ⟨t221, A90, H⟩ := H
      replace H : (some (wrap64 ((wrap64 ((wrap64 (t218)) - (wrap64 (t220)))) - (wrap64 (t221))))) = some r := H
      have A9 := Aside0.mk A90
      clear A90
      obtain rfl := Option.some.inj H
      go_enter Tryd.func38, Tryd.ntmps38
      go_wp2_with (first | ((with_reducible refine gate_callee (f := 39) rfl ?_); refine goesL_ (some 11) rfl rfl Tryd.func39 (by kernel_rfl) rfl #[.int .u64 a0, .int .i64 a1, .int .i64 a2] rfl (by (try simp only [List.map_toArray, List.map_cons, List.map_nil]); rfl) ?_; (with_reducible refine (capnpref01_Field.calls k a0 a1 a2 t218 _ A4.out).mono ?_); rintro e w' ⟨rfl, ⟨nd, rfl⟩⟩; refine ⟨_, rfl, ?_⟩) | ((with_reducible refine gate_callee (f := 50) rfl ?_); refine goesL_ (some 19) rfl rfl Tryd.func50 (by kernel_rfl) rfl #[.int .i64 (wrap64 (a2 - 1))] rfl (by (try simp only [List.map_toArray, List.map_cons, List.map_nil]); rfl) ?_; (with_reducible refine (capnpref01_Pow.calls k (wrap64 (a2 - 1)) t219 _ A6.out).mono ?_); rintro e w' ⟨rfl, ⟨nd, rfl⟩⟩; refine ⟨_, rfl, ?_⟩) | ((with_reducible refine gate_callee (f := 50) rfl ?_); refine goesL_ (some 25) rfl rfl Tryd.func50 (by kernel_rfl) rfl #[.int .i64 (wrap64 (a2 - 1))] rfl (by (try simp only [List.map_toArray, List.map_cons, List.map_nil]); rfl) ?_; (with_reducible refine (capnpref01_Pow.calls k (wrap64 (a2 - 1)) t220 _ A8.out).mono ?_); rintro e w' ⟨rfl, ⟨nd, rfl⟩⟩; refine ⟨_, rfl, ?_⟩) | ((with_reducible refine gate_callee (f := 50) rfl ?_); refine goesL_ (some 30) rfl rfl Tryd.func50 (by kernel_rfl) rfl #[.int .i64 (wrap64 (a2 - 1))] rfl (by (try simp only [List.map_toArray, List.map_cons, List.map_nil]); rfl) ?_; (with_reducible refine (capnpref01_Pow.calls k (wrap64 (a2 - 1)) t221 _ A9.out).mono ?_); rintro e w' ⟨rfl, ⟨nd, rfl⟩⟩; refine ⟨_, rfl, ?_⟩))
      go_ret
      exact ⟨by rfl, by repeat (first | exact Drawn0.refl _ | apply Drawn0.step)⟩
    · rw [if_neg c7] at H
      have c7b0 : decide (t219 ≤ t218) = false := decide_eq_false c7
      clear c7
      obtain rfl := Option.some.inj H
      go_enter Tryd.func38, Tryd.ntmps38
      go_wp2_with (first | ((with_reducible refine gate_callee (f := 39) rfl ?_); refine goesL_ (some 11) rfl rfl Tryd.func39 (by kernel_rfl) rfl #[.int .u64 a0, .int .i64 a1, .int .i64 a2] rfl (by (try simp only [List.map_toArray, List.map_cons, List.map_nil]); rfl) ?_; (with_reducible refine (capnpref01_Field.calls k a0 a1 a2 t218 _ A4.out).mono ?_); rintro e w' ⟨rfl, ⟨nd, rfl⟩⟩; refine ⟨_, rfl, ?_⟩) | ((with_reducible refine gate_callee (f := 50) rfl ?_); refine goesL_ (some 19) rfl rfl Tryd.func50 (by kernel_rfl) rfl #[.int .i64 (wrap64 (a2 - 1))] rfl (by (try simp only [List.map_toArray, List.map_cons, List.map_nil]); rfl) ?_; (with_reducible refine (capnpref01_Pow.calls k (wrap64 (a2 - 1)) t219 _ A6.out).mono ?_); rintro e w' ⟨rfl, ⟨nd, rfl⟩⟩; refine ⟨_, rfl, ?_⟩))
      go_ret
      exact ⟨by rfl, by repeat (first | exact Drawn0.refl _ | apply Drawn0.step)⟩

end Go.Proofs.YtcjhejopcghgnaaDoor.P

namespace Go.Proofs.YtcjhejopcghgnaaDoor.P
open Go.RowKit Go.Proofs.YtcjhejopcghgnaaDoorW.PrintWords Go.Proofs.YtcjhejopcghgnaaDoorW.PrintLast Go.Proofs.YtcjhejopcghgnaaDoorW.PrintMore
attribute [local go_sem] max2_int min2_int max_two min_two max_three min_three max_four min_four   -- for this text's walks alone
set_option linter.unusedVariables false
set_option linter.unusedSimpArgs false

variable {gb : Bool}
/-! ### capnpref02_Decode: function 21 -/
def capnpref02_Decode.f (k : Nat) (a0 : Int) : Option (Int × Int × Int × Int × Int × Int × Bool × Int × Int × Int) := if (wrap64 (Int.tmod a0 4)) = 0 then ((capnpref01_Signed.f k a0 2 30).bind fun t224 => ((capnpref01_Field.f k a0 32 16).bind fun t225 => ((capnpref01_Field.f k a0 48 16).bind fun t226 => (some (wrap64 (Int.tmod a0 4), t224, wrap64 (t225), wrap64 (t226), 0, 0, false, 0, 0, 0))))) else (if (wrap64 (Int.tmod a0 4)) = 1 then ((capnpref01_Signed.f k a0 2 30).bind fun t227 => ((capnpref01_Field.f k a0 32 3).bind fun t228 => ((capnpref01_Field.f k a0 35 29).bind fun t229 => (some (wrap64 (Int.tmod a0 4), t227, 0, 0, wrap64 (t228), wrap64 (t229), false, 0, 0, 0))))) else (if (wrap64 (Int.tmod a0 4)) = 2 then ((capnpref01_Field.f k a0 2 1).bind fun t230 => ((capnpref01_Field.f k a0 3 29).bind fun t231 => (some (wrap64 (Int.tmod a0 4), 0, 0, 0, 0, 0, (t230 == 1), wrap64 (t231), (IntKind.u64.wrap (Int.tdiv a0 4294967296)) % 4294967296, 0)))) else (if (wrap64 (Int.tmod a0 4)) = 3 then ((capnpref01_Field.f k a0 2 30).bind fun t232 => (some (wrap64 (Int.tmod a0 4), 0, 0, 0, 0, 0, false, 0, (IntKind.u64.wrap (Int.tdiv a0 4294967296)) % 4294967296, (t232) % 4294967296))) else (some (wrap64 (Int.tmod a0 4), 0, 0, 0, 0, 0, false, 0, 0, 0)))))
theorem capnpref02_Decode.mono : ∀ a0 k, LeO (capnpref02_Decode.f k a0) (capnpref02_Decode.f (k + 1) a0) := by
  intro a0 k
  unfold capnpref02_Decode.f
  repeat' first
      | (with_reducible apply capnpref01_Field.mono)
      | (with_reducible apply capnpref01_Signed.mono)
      | (with_reducible exact LeO.refl _)
      | (with_reducible refine LeO.ite ?_ ?_)
      | (with_reducible refine LeO.bind ?_ (fun _ => ?_))
set_option maxHeartbeats 8000000 in
set_option maxRecDepth 100000 in
theorem capnpref02_Decode.calls (k : Nat) (a0 r1 r2 r3 r4 r5 r6 : Int) (r7 : Bool) (r8 r9 r10 : Int) (w : World) (h : capnpref02_Decode.f k a0 = some (r1, r2, r3, r4, r5, r6, r7, r8, r9, r10)) :
    Calls Tryd.prog 21 #[.int .u64 a0] w fun e w' => e = .returned (.agg #[.int .i64 r1, .int .i64 r2, .int .i64 r3, .int .i64 r4, .int .i64 r5, .int .i64 r6, .bool r7, .int .i64 r8, .int .u32 r9, .int .u32 r10]) ∧ Below w.heap.size w w' := by
  have HB := Aside0.mk (Below.refl w.heap.size w)
  have H := h
  unfold capnpref02_Decode.f at H
  clear h
  by_cases c2 : (wrap64 (Int.tmod a0 4)) = 0
  · rw [if_pos c2] at H
    have c2b0 : ((wrap64 (Int.tmod a0 4)) == 0) = true := beq_iff_eq.mpr c2
    clear c2
    replace H := Option.bind_eq_some_iff.mp H
    obtain ⟨t224, A30, H⟩ := H
    have A3 := Aside0.mk A30
    clear A30
    replace H := Option.bind_eq_some_iff.mp H
    obtain ⟨t225, A40, H⟩ := H
    have A4 := Aside0.mk A40
    clear A40
    replace H := Option.bind_eq_some_iff.mp H
    obtain ⟨t226, A50, H⟩ := H
    replace H : (some (wrap64 (Int.tmod a0 4), t224, wrap64 (t225), wrap64 (t226), 0, 0, false, 0, 0, 0)) = some (r1, r2, r3, r4, r5, r6, r7, r8, r9, r10) := H
    have A5 := Aside0.mk A50
    clear A50
    simp only [Option.some.injEq, Prod.mk.injEq] at H
    obtain ⟨rfl, rfl, rfl, rfl, rfl, rfl, rfl, rfl, rfl, rfl⟩ := H
    go_enter Tryd.func21, Tryd.ntmps21
    go_wp2_with (first | ((with_reducible refine gate_dst (N := 2) rfl ?_); refine box_event ?hg (N := 2) ?hd (cs := #[.int .i64 0, .int .i64 0, .int .i64 0, .int .i64 0, .int .i64 0, .int .i64 0, .bool false, .int .i64 0, .int .u32 0, .int .u32 0]) (t := 39) ?hr ?_; (case hd => rfl); (case hg => rfl); (case hr => (go_simp; done)); intro gb222 hg w6 hbox hb; replace BK222 := Aside0.mk (hbox); replace GE222 := Aside0.mk (ge_of HB.out hg); replace HB := Aside0.mk (below_step HB.out hb); clear hb hbox hg) | ((with_reducible refine gate_dst (N := 3) rfl ?_); refine box_event ?hg (N := 3) ?hd (cs := #[.int .i64 0, .int .i64 0, .int .i64 0, .int .i64 0, .int .i64 0, .int .i64 0, .bool false, .int .i64 0, .int .u32 0, .int .u32 0]) (t := 39) ?hr ?_; (case hd => rfl); (case hg => rfl); (case hr => (go_simp; done)); intro gb223 hg w7 hbox hb; replace BK223 := Aside0.mk (hbox); replace GE223 := Aside0.mk (ge_of HB.out hg); replace HB := Aside0.mk (below_step HB.out hb); replace NB222_223 := Aside0.mk (ne_l BK222.out hg); replace BK222 := Aside0.mk (blk_below BK222.out hb); clear hb hbox hg; have hnc8 := NB222_223.out; obtain ⟨hcz9_0, hcz9_1, hcz9_2, hcz9_3, hcz9_4, hcz9_5, hcz9_6, hcz9_7, hcz9_8, hcz9_9⟩ := cells10 BK223.out; obtain ⟨hfz9_0, hfz9_1, hfz9_2, hfz9_3, -, -, -, -, -, -⟩ := frz10 BK223.out) | ((with_reducible refine gate_callee (f := 38) rfl ?_); refine goesL_ (some 13) rfl rfl Tryd.func38 (by kernel_rfl) rfl #[.int .u64 a0, .int .i64 2, .int .i64 30] rfl (by (try simp only [List.map_toArray, List.map_cons, List.map_nil]); rfl) ?_; (with_reducible refine (capnpref01_Signed.calls k a0 2 30 t224 _ A3.out).mono ?_); rintro e w' ⟨rfl, ⟨nd, rfl⟩⟩; refine ⟨_, rfl, ?_⟩) | ((with_reducible refine gate_callee (f := 39) rfl ?_); refine goesL_ (some 16) rfl rfl Tryd.func39 (by kernel_rfl) rfl #[.int .u64 a0, .int .i64 32, .int .i64 16] rfl (by (try simp only [List.map_toArray, List.map_cons, List.map_nil]); rfl) ?_; (with_reducible refine (capnpref01_Field.calls k a0 32 16 t225 _ A4.out).mono ?_); rintro e w' ⟨rfl, ⟨nd, rfl⟩⟩; refine ⟨_, rfl, ?_⟩) | ((with_reducible refine gate_callee (f := 39) rfl ?_); refine goesL_ (some 20) rfl rfl Tryd.func39 (by kernel_rfl) rfl #[.int .u64 a0, .int .i64 48, .int .i64 16] rfl (by (try simp only [List.map_toArray, List.map_cons, List.map_nil]); rfl) ?_; (with_reducible refine (capnpref01_Field.calls k a0 48 16 t226 _ A5.out).mono ?_); rintro e w' ⟨rfl, ⟨nd, rfl⟩⟩; refine ⟨_, rfl, ?_⟩; obtain ⟨hcz10_0, hcz10_1, hcz10_2, hcz10_3, hcz10_4, hcz10_5, hcz10_6, hcz10_7, hcz10_8, hcz10_9⟩ := cells10 BK222.out; obtain ⟨hfz10_0, hfz10_1, hfz10_2, hfz10_3, hfz10_4, hfz10_5, hfz10_6, hfz10_7, hfz10_8, hfz10_9⟩ := frz10 BK222.out))
    refine bodyPost_ret (results_cell_row rfl _ _ gb222 39 #[.int .i64 (wrap64 (Int.tmod a0 4)), .int .i64 t224, .int .i64 (wrap64 (t225)), .int .i64 (wrap64 (t226)), .int .i64 0, .int .i64 0, .bool false, .int .i64 0, .int .u32 0, .int .u32 0] (0, 0) _ rfl (by apply put10; refine blk_far ?_ NB222_223.out _; (with_reducible repeat ((refine blk_drewN ?_ _))); refine blk_far ?_ NB222_223.out _; (with_reducible repeat ((refine blk_drewN ?_ _))); refine blk_far ?_ NB222_223.out _; (with_reducible repeat ((refine blk_drewN ?_ _))); refine blk_far ?_ NB222_223.out _; exact BK222.out) Tryd.underlying39 rfl (by kernel_rfl)) rfl ?_
    exact ⟨by rfl, by repeat ((with_reducible first | exact HB.out | apply pw_below_drewN | refine below_set ?_ GE222.out | refine below_set ?_ GE223.out))⟩
  · rw [if_neg c2] at H
    have c2b0 : ((wrap64 (Int.tmod a0 4)) == 0) = false := beq_eq_false_iff_ne.mpr c2
    by_cases c11 : (wrap64 (Int.tmod a0 4)) = 1
    · rw [if_pos c11] at H
      have c11b0 : ((wrap64 (Int.tmod a0 4)) == 1) = true := beq_iff_eq.mpr c11
      clear c11
      replace H := Option.bind_eq_some_iff.mp H
      obtain ⟨t227, A120, H⟩ := H
      have A12 := Aside0.mk A120
      clear A120
      replace H := Option.bind_eq_some_iff.mp H
      obtain ⟨t228, A130, H⟩ := H
      have A13 := Aside0.mk A130
      clear A130
      replace H := Option.bind_eq_some_iff.mp H
      obtain ⟨t229, A140, H⟩ := H
      replace H : (some (wrap64 (Int.tmod a0 4), t227, 0, 0, wrap64 (t228), wrap64 (t229), false, 0, 0, 0)) = some (r1, r2, r3, r4, r5, r6, r7, r8, r9, r10) := H
      have A14 := Aside0.mk A140
      clear A140
      simp only [Option.some.injEq, Prod.mk.injEq] at H
      obtain ⟨rfl, rfl, rfl, rfl, rfl, rfl, rfl, rfl, rfl, rfl⟩ := H
      go_enter Tryd.func21, Tryd.ntmps21
      go_wp2_with (first | ((with_reducible refine gate_dst (N := 2) rfl ?_); refine box_event ?hg (N := 2) ?hd (cs := #[.int .i64 0, .int .i64 0, .int .i64 0, .int .i64 0, .int .i64 0, .int .i64 0, .bool false, .int .i64 0, .int .u32 0, .int .u32 0]) (t := 39) ?hr ?_; (case hd => rfl); (case hg => rfl); (case hr => (go_simp; done)); intro gb222 hg w15 hbox hb; replace BK222 := Aside0.mk (hbox); replace GE222 := Aside0.mk (ge_of HB.out hg); replace HB := Aside0.mk (below_step HB.out hb); clear hb hbox hg) | ((with_reducible refine gate_dst (N := 3) rfl ?_); refine box_event ?hg (N := 3) ?hd (cs := #[.int .i64 0, .int .i64 0, .int .i64 0, .int .i64 0, .int .i64 0, .int .i64 0, .bool false, .int .i64 0, .int .u32 0, .int .u32 0]) (t := 39) ?hr ?_; (case hd => rfl); (case hg => rfl); (case hr => (go_simp; done)); intro gb223 hg w16 hbox hb; replace BK223 := Aside0.mk (hbox); replace GE223 := Aside0.mk (ge_of HB.out hg); replace HB := Aside0.mk (below_step HB.out hb); replace NB222_223 := Aside0.mk (ne_l BK222.out hg); replace BK222 := Aside0.mk (blk_below BK222.out hb); clear hb hbox hg; have hnc17 := NB222_223.out; obtain ⟨hcz18_0, hcz18_1, hcz18_2, hcz18_3, hcz18_4, hcz18_5, hcz18_6, hcz18_7, hcz18_8, hcz18_9⟩ := cells10 BK223.out; obtain ⟨hfz18_0, hfz18_1, -, -, hfz18_4, hfz18_5, -, -, -, -⟩ := frz10 BK223.out) | ((with_reducible refine gate_callee (f := 38) rfl ?_); refine goesL_ (some 26) rfl rfl Tryd.func38 (by kernel_rfl) rfl #[.int .u64 a0, .int .i64 2, .int .i64 30] rfl (by (try simp only [List.map_toArray, List.map_cons, List.map_nil]); rfl) ?_; (with_reducible refine (capnpref01_Signed.calls k a0 2 30 t227 _ A12.out).mono ?_); rintro e w' ⟨rfl, ⟨nd, rfl⟩⟩; refine ⟨_, rfl, ?_⟩) | ((with_reducible refine gate_callee (f := 39) rfl ?_); refine goesL_ (some 29) rfl rfl Tryd.func39 (by kernel_rfl) rfl #[.int .u64 a0, .int .i64 32, .int .i64 3] rfl (by (try simp only [List.map_toArray, List.map_cons, List.map_nil]); rfl) ?_; (with_reducible refine (capnpref01_Field.calls k a0 32 3 t228 _ A13.out).mono ?_); rintro e w' ⟨rfl, ⟨nd, rfl⟩⟩; refine ⟨_, rfl, ?_⟩) | ((with_reducible refine gate_callee (f := 39) rfl ?_); refine goesL_ (some 33) rfl rfl Tryd.func39 (by kernel_rfl) rfl #[.int .u64 a0, .int .i64 35, .int .i64 29] rfl (by (try simp only [List.map_toArray, List.map_cons, List.map_nil]); rfl) ?_; (with_reducible refine (capnpref01_Field.calls k a0 35 29 t229 _ A14.out).mono ?_); rintro e w' ⟨rfl, ⟨nd, rfl⟩⟩; refine ⟨_, rfl, ?_⟩; obtain ⟨hcz19_0, hcz19_1, hcz19_2, hcz19_3, hcz19_4, hcz19_5, hcz19_6, hcz19_7, hcz19_8, hcz19_9⟩ := cells10 BK222.out; obtain ⟨hfz19_0, hfz19_1, hfz19_2, hfz19_3, hfz19_4, hfz19_5, hfz19_6, hfz19_7, hfz19_8, hfz19_9⟩ := frz10 BK222.out))
      refine bodyPost_ret (results_cell_row rfl _ _ gb222 39 #[.int .i64 (wrap64 (Int.tmod a0 4)), .int .i64 t227, .int .i64 0, .int .i64 0, .int .i64 (wrap64 (t228)), .int .i64 (wrap64 (t229)), .bool false, .int .i64 0, .int .u32 0, .int .u32 0] (0, 0) _ rfl (by apply put10; refine blk_far ?_ NB222_223.out _; (with_reducible repeat ((refine blk_drewN ?_ _))); refine blk_far ?_ NB222_223.out _; (with_reducible repeat ((refine blk_drewN ?_ _))); refine blk_far ?_ NB222_223.out _; (with_reducible repeat ((refine blk_drewN ?_ _))); refine blk_far ?_ NB222_223.out _; exact BK222.out) Tryd.underlying39 rfl (by kernel_rfl)) rfl ?_
      exact ⟨by rfl, by repeat ((with_reducible first | exact HB.out | apply pw_below_drewN | refine below_set ?_ GE222.out | refine below_set ?_ GE223.out))⟩
    · rw [if_neg c11] at H
      have c11b0 : ((wrap64 (Int.tmod a0 4)) == 1) = false := beq_eq_false_iff_ne.mpr c11
      by_cases c20 : (wrap64 (Int.tmod a0 4)) = 2
      · rw [if_pos c20] at H
        have c20b0 : ((wrap64 (Int.tmod a0 4)) == 2) = true := beq_iff_eq.mpr c20
        clear c20
        replace H := Option.bind_eq_some_iff.mp H
        obtain ⟨t230, A210, H⟩ := H
        have A21 := Aside0.mk A210
        clear A210
        replace H := Option.bind_eq_some_iff.mp H
        obtain ⟨t231, A220, H⟩ := H
        have A22 := Aside0.mk A220
        clear A220
        simp only [Option.some.injEq, Prod.mk.injEq] at H
        obtain ⟨rfl, rfl, rfl, rfl, rfl, rfl, rfl, rfl, rfl, rfl⟩ := H
        go_enter Tryd.func21, Tryd.ntmps21
        go_wp2_with (first | ((with_reducible refine gate_dst (N := 2) rfl ?_); refine box_event ?hg (N := 2) ?hd (cs := #[.int .i64 0, .int .i64 0, .int .i64 0, .int .i64 0, .int .i64 0, .int .i64 0, .bool false, .int .i64 0, .int .u32 0, .int .u32 0]) (t := 39) ?hr ?_; (case hd => rfl); (case hg => rfl); (case hr => (go_simp; done)); intro gb222 hg w23 hbox hb; replace BK222 := Aside0.mk (hbox); replace GE222 := Aside0.mk (ge_of HB.out hg); replace HB := Aside0.mk (below_step HB.out hb); clear hb hbox hg) | ((with_reducible refine gate_dst (N := 3) rfl ?_); refine box_event ?hg (N := 3) ?hd (cs := #[.int .i64 0, .int .i64 0, .int .i64 0, .int .i64 0, .int .i64 0, .int .i64 0, .bool false, .int .i64 0, .int .u32 0, .int .u32 0]) (t := 39) ?hr ?_; (case hd => rfl); (case hg => rfl); (case hr => (go_simp; done)); intro gb223 hg w24 hbox hb; replace BK223 := Aside0.mk (hbox); replace GE223 := Aside0.mk (ge_of HB.out hg); replace HB := Aside0.mk (below_step HB.out hb); replace NB222_223 := Aside0.mk (ne_l BK222.out hg); replace BK222 := Aside0.mk (blk_below BK222.out hb); clear hb hbox hg; have hnc25 := NB222_223.out; obtain ⟨hcz26_0, hcz26_1, hcz26_2, hcz26_3, hcz26_4, hcz26_5, hcz26_6, hcz26_7, hcz26_8, hcz26_9⟩ := cells10 BK223.out; obtain ⟨hfz26_0, -, -, -, -, -, hfz26_6, hfz26_7, hfz26_8, -⟩ := frz10 BK223.out) | ((with_reducible refine gate_callee (f := 39) rfl ?_); refine goesL_ (some 39) rfl rfl Tryd.func39 (by kernel_rfl) rfl #[.int .u64 a0, .int .i64 2, .int .i64 1] rfl (by (try simp only [List.map_toArray, List.map_cons, List.map_nil]); rfl) ?_; (with_reducible refine (capnpref01_Field.calls k a0 2 1 t230 _ A21.out).mono ?_); rintro e w' ⟨rfl, ⟨nd, rfl⟩⟩; refine ⟨_, rfl, ?_⟩) | ((with_reducible refine gate_callee (f := 39) rfl ?_); refine goesL_ (some 43) rfl rfl Tryd.func39 (by kernel_rfl) rfl #[.int .u64 a0, .int .i64 3, .int .i64 29] rfl (by (try simp only [List.map_toArray, List.map_cons, List.map_nil]); rfl) ?_; (with_reducible refine (capnpref01_Field.calls k a0 3 29 t231 _ A22.out).mono ?_); rintro e w' ⟨rfl, ⟨nd, rfl⟩⟩; refine ⟨_, rfl, ?_⟩; obtain ⟨hcz27_0, hcz27_1, hcz27_2, hcz27_3, hcz27_4, hcz27_5, hcz27_6, hcz27_7, hcz27_8, hcz27_9⟩ := cells10 BK222.out; obtain ⟨hfz27_0, hfz27_1, hfz27_2, hfz27_3, hfz27_4, hfz27_5, hfz27_6, hfz27_7, hfz27_8, hfz27_9⟩ := frz10 BK222.out))
        refine bodyPost_ret (results_cell_row rfl _ _ gb222 39 #[.int .i64 (wrap64 (Int.tmod a0 4)), .int .i64 0, .int .i64 0, .int .i64 0, .int .i64 0, .int .i64 0, .bool (t230 == 1), .int .i64 (wrap64 (t231)), .int .u32 ((IntKind.u64.wrap (Int.tdiv a0 4294967296)) % 4294967296), .int .u32 0] (0, 0) _ rfl (by apply put10; refine blk_far ?_ NB222_223.out _; refine blk_far ?_ NB222_223.out _; (with_reducible repeat ((refine blk_drewN ?_ _))); refine blk_far ?_ NB222_223.out _; (with_reducible repeat ((refine blk_drewN ?_ _))); refine blk_far ?_ NB222_223.out _; exact BK222.out) Tryd.underlying39 rfl (by kernel_rfl)) rfl ?_
        exact ⟨by rfl, by repeat ((with_reducible first | exact HB.out | apply pw_below_drewN | refine below_set ?_ GE222.out | refine below_set ?_ GE223.out))⟩
      · rw [if_neg c20] at H
        have c20b0 : ((wrap64 (Int.tmod a0 4)) == 2) = false := beq_eq_false_iff_ne.mpr c20
        by_cases c28 : (wrap64 (Int.tmod a0 4)) = 3
        · rw [if_pos c28] at H
          have c28b0 : ((wrap64 (Int.tmod a0 4)) == 3) = true := beq_iff_eq.mpr c28
          clear c28
          replace H := Option.bind_eq_some_iff.mp H
          obtain ⟨t232, A290, H⟩ := H
          have A29 := Aside0.mk A290
          clear A290
          simp only [Option.some.injEq, Prod.mk.injEq] at H
          obtain ⟨rfl, rfl, rfl, rfl, rfl, rfl, rfl, rfl, rfl, rfl⟩ := H
          go_enter Tryd.func21, Tryd.ntmps21
          go_wp2_with (first | ((with_reducible refine gate_dst (N := 2) rfl ?_); refine box_event ?hg (N := 2) ?hd (cs := #[.int .i64 0, .int .i64 0, .int .i64 0, .int .i64 0, .int .i64 0, .int .i64 0, .bool false, .int .i64 0, .int .u32 0, .int .u32 0]) (t := 39) ?hr ?_; (case hd => rfl); (case hg => rfl); (case hr => (go_simp; done)); intro gb222 hg w30 hbox hb; replace BK222 := Aside0.mk (hbox); replace GE222 := Aside0.mk (ge_of HB.out hg); replace HB := Aside0.mk (below_step HB.out hb); clear hb hbox hg) | ((with_reducible refine gate_dst (N := 3) rfl ?_); refine box_event ?hg (N := 3) ?hd (cs := #[.int .i64 0, .int .i64 0, .int .i64 0, .int .i64 0, .int .i64 0, .int .i64 0, .bool false, .int .i64 0, .int .u32 0, .int .u32 0]) (t := 39) ?hr ?_; (case hd => rfl); (case hg => rfl); (case hr => (go_simp; done)); intro gb223 hg w31 hbox hb; replace BK223 := Aside0.mk (hbox); replace GE223 := Aside0.mk (ge_of HB.out hg); replace HB := Aside0.mk (below_step HB.out hb); replace NB222_223 := Aside0.mk (ne_l BK222.out hg); replace BK222 := Aside0.mk (blk_below BK222.out hb); clear hb hbox hg; have hnc32 := NB222_223.out; obtain ⟨hcz33_0, hcz33_1, hcz33_2, hcz33_3, hcz33_4, hcz33_5, hcz33_6, hcz33_7, hcz33_8, hcz33_9⟩ := cells10 BK223.out; obtain ⟨hfz33_0, -, -, -, -, -, -, -, hfz33_8, hfz33_9⟩ := frz10 BK223.out) | ((with_reducible refine gate_callee (f := 39) rfl ?_); refine goesL_ (some 53) rfl rfl Tryd.func39 (by kernel_rfl) rfl #[.int .u64 a0, .int .i64 2, .int .i64 30] rfl (by (try simp only [List.map_toArray, List.map_cons, List.map_nil]); rfl) ?_; (with_reducible refine (capnpref01_Field.calls k a0 2 30 t232 _ A29.out).mono ?_); rintro e w' ⟨rfl, ⟨nd, rfl⟩⟩; refine ⟨_, rfl, ?_⟩; obtain ⟨hcz34_0, hcz34_1, hcz34_2, hcz34_3, hcz34_4, hcz34_5, hcz34_6, hcz34_7, hcz34_8, hcz34_9⟩ := cells10 BK222.out; obtain ⟨hfz34_0, hfz34_1, hfz34_2, hfz34_3, hfz34_4, hfz34_5, hfz34_6, hfz34_7, hfz34_8, hfz34_9⟩ := frz10 BK222.out))
          refine bodyPost_ret (results_cell_row rfl _ _ gb222 39 #[.int .i64 (wrap64 (Int.tmod a0 4)), .int .i64 0, .int .i64 0, .int .i64 0, .int .i64 0, .int .i64 0, .bool false, .int .i64 0, .int .u32 ((IntKind.u64.wrap (Int.tdiv a0 4294967296)) % 4294967296), .int .u32 ((t232) % 4294967296)] (0, 0) _ rfl (by apply put10; refine blk_far ?_ NB222_223.out _; refine blk_far ?_ NB222_223.out _; (with_reducible repeat ((refine blk_drewN ?_ _))); refine blk_far ?_ NB222_223.out _; exact BK222.out) Tryd.underlying39 rfl (by kernel_rfl)) rfl ?_
          exact ⟨by rfl, by repeat ((with_reducible first | exact HB.out | apply pw_below_drewN | refine below_set ?_ GE222.out | refine below_set ?_ GE223.out))⟩
        · rw [if_neg c28] at H
          have c28b0 : ((wrap64 (Int.tmod a0 4)) == 3) = false := beq_eq_false_iff_ne.mpr c28
          simp only [Option.some.injEq, Prod.mk.injEq] at H
          obtain ⟨rfl, rfl, rfl, rfl, rfl, rfl, rfl, rfl, rfl, rfl⟩ := H
          go_enter Tryd.func21, Tryd.ntmps21
          go_wp2_with (first | ((with_reducible refine gate_dst (N := 2) rfl ?_); refine box_event ?hg (N := 2) ?hd (cs := #[.int .i64 0, .int .i64 0, .int .i64 0, .int .i64 0, .int .i64 0, .int .i64 0, .bool false, .int .i64 0, .int .u32 0, .int .u32 0]) (t := 39) ?hr ?_; (case hd => rfl); (case hg => rfl); (case hr => (go_simp; done)); intro gb222 hg w35 hbox hb; replace BK222 := Aside0.mk (hbox); replace GE222 := Aside0.mk (ge_of HB.out hg); replace HB := Aside0.mk (below_step HB.out hb); clear hb hbox hg) | ((with_reducible refine gate_dst (N := 3) rfl ?_); refine box_event ?hg (N := 3) ?hd (cs := #[.int .i64 0, .int .i64 0, .int .i64 0, .int .i64 0, .int .i64 0, .int .i64 0, .bool false, .int .i64 0, .int .u32 0, .int .u32 0]) (t := 39) ?hr ?_; (case hd => rfl); (case hg => rfl); (case hr => (go_simp; done)); intro gb223 hg w36 hbox hb; replace BK223 := Aside0.mk (hbox); replace GE223 := Aside0.mk (ge_of HB.out hg); replace HB := Aside0.mk (below_step HB.out hb); replace NB222_223 := Aside0.mk (ne_l BK222.out hg); replace BK222 := Aside0.mk (blk_below BK222.out hb); clear hb hbox hg; have hnc37 := NB222_223.out; obtain ⟨hcz38_0, hcz38_1, hcz38_2, hcz38_3, hcz38_4, hcz38_5, hcz38_6, hcz38_7, hcz38_8, hcz38_9⟩ := cells10 BK223.out; have hfz38_0 := blk_frozen BK223.out 0; obtain ⟨hcz39_0, hcz39_1, hcz39_2, hcz39_3, hcz39_4, hcz39_5, hcz39_6, hcz39_7, hcz39_8, hcz39_9⟩ := cells10 BK222.out; obtain ⟨hfz39_0, hfz39_1, hfz39_2, hfz39_3, hfz39_4, hfz39_5, hfz39_6, hfz39_7, hfz39_8, hfz39_9⟩ := frz10 BK222.out))
          refine bodyPost_ret (results_cell_row rfl _ _ gb222 39 #[.int .i64 (wrap64 (Int.tmod a0 4)), .int .i64 0, .int .i64 0, .int .i64 0, .int .i64 0, .int .i64 0, .bool false, .int .i64 0, .int .u32 0, .int .u32 0] (0, 0) _ rfl (by apply put10; refine blk_far ?_ NB222_223.out _; exact BK222.out) Tryd.underlying39 rfl (by kernel_rfl)) rfl ?_
          exact ⟨by rfl, by repeat ((with_reducible first | exact HB.out | refine below_set ?_ GE222.out | refine below_set ?_ GE223.out))⟩

end Go.Proofs.YtcjhejopcghgnaaDoor.P

set_option linter.unusedVariables false
set_option linter.unusedSimpArgs false
namespace Go.Proofs.YtcjhejopcghgnaaDoor.P
open Go.RowKit Go.Proofs.YtcjhejopcghgnaaDoorW.PrintWords Go.Proofs.YtcjhejopcghgnaaDoorW.PrintLast Go.Proofs.YtcjhejopcghgnaaDoorW.PrintMore
theorem wrap_nat {n : Nat} (h : n < 2 ^ 64) : IntKind.u64.wrap (n : Int) = n := wrap_u64 ⟨Int.natCast_nonneg _, by omega⟩
theorem pow_loop (n : Nat) (hn : n ≤ 63) : ∀ (d k j : Nat), j + d = n → d < k → capnpref01_Pow.l0 k n ((2 ^ j : Nat) : Int) j = some ((2 ^ n : Nat) : Int) := by
  intro d
  induction d with
  | zero =>
    intro k j hj hk
    obtain ⟨k, rfl⟩ : ∃ m, k = m + 1 := ⟨k - 1, by omega⟩
    obtain rfl : j = n := by omega
    simp only [capnpref01_Pow.l0]
    rw [if_neg (by omega)]
  | succ d ih =>
    intro k j hj hk
    obtain ⟨k, rfl⟩ : ∃ m, k = m + 1 := ⟨k - 1, by omega⟩
    simp only [capnpref01_Pow.l0]
    rw [if_pos (by omega), wrap64_id (by omega)]
    have h2 : 2 ^ (j + 1) ≤ 2 ^ 63 := Nat.pow_le_pow_right (by decide) (by omega)
    have e : ((2 ^ j : Nat) : Int) * 2 = ((2 ^ (j + 1) : Nat) : Int) := by rw [Nat.pow_succ]; push_cast; rfl
    rw [e, wrap_nat (by omega)]
    exact ih k (j + 1) (by omega) (by omega)
theorem Pow_eq (n : Nat) (hn : n ≤ 63) (k : Nat) (hk : n < k) : capnpref01_Pow.f k n = some ((2 ^ n : Nat) : Int) := pow_loop n hn n k 0 (by omega) hk
theorem rfield_loop (a : Nat) (ha : a < 2 ^ 64) (i m : Nat) (h2 : i + m ≤ 64) : ∀ (d k j : Nat), j + d = m → d + 64 < k → capnpref01_Field.l0 k a i m ((a / 2 ^ i % 2 ^ j : Nat) : Int) j = some ((a / 2 ^ i % 2 ^ m : Nat) : Int) := by
  intro d
  induction d with
  | zero =>
    intro k j hj hk
    obtain ⟨k, rfl⟩ : ∃ q, k = q + 1 := ⟨k - 1, by omega⟩
    obtain rfl : j = m := by omega
    simp only [capnpref01_Field.l0]
    rw [if_neg (by omega)]
  | succ d ih =>
    intro k j hj hk
    obtain ⟨k, rfl⟩ : ∃ q, k = q + 1 := ⟨k - 1, by omega⟩
    simp only [capnpref01_Field.l0]
    rw [if_pos (by omega), wrap64_id (x := (i : Int) + (j : Int)) (by omega), show (i : Int) + (j : Int) = ((i + j : Nat) : Int) by push_cast; rfl, Pow_eq _ (by omega) k (by omega)]
    simp only [Option.bind_some]
    have hp : 0 < 2 ^ (i + j) := Nat.pow_pos (by decide)
    rw [if_neg (by omega)]
    have hdv : Int.tdiv (a : Int) ((2 ^ (i + j) : Nat) : Int) = ((a / 2 ^ (i + j) : Nat) : Int) := by rw [Int.tdiv_eq_ediv_of_nonneg (Int.natCast_nonneg _)]; push_cast; rfl
    have hlt : a / 2 ^ (i + j) < 2 ^ 64 := Nat.lt_of_le_of_lt (Nat.div_le_self _ _) ha
    rw [hdv, wrap_nat hlt]
    have hmd : Int.tmod ((a / 2 ^ (i + j) : Nat) : Int) 2 = ((a / 2 ^ (i + j) % 2 : Nat) : Int) := by rw [Int.tmod_eq_emod_of_nonneg (Int.natCast_nonneg _)]; push_cast; rfl
    rw [hmd]
    have hs : a / 2 ^ i % 2 ^ (j + 1) = a / 2 ^ i % 2 ^ j + 2 ^ j * (a / 2 ^ (i + j) % 2) := by
      rw [Nat.mod_pow_succ, Nat.div_div_eq_div_mul, ← Nat.pow_add]
    have hjj : (j : Int) + 1 = ((j + 1 : Nat) : Int) := by push_cast; rfl
    have hb : a / 2 ^ i % 2 ^ (j + 1) < 2 ^ 64 := Nat.lt_of_le_of_lt (Nat.mod_le _ _) (Nat.lt_of_le_of_lt (Nat.div_le_self _ _) ha)
    rw [wrap64_id (x := (j : Int) + 1) (by omega), hjj]
    rcases Nat.mod_two_eq_zero_or_one (a / 2 ^ (i + j)) with h0 | h0
    · rw [if_neg (by omega)]
      rw [h0] at hs
      rw [show a / 2 ^ i % 2 ^ j = a / 2 ^ i % 2 ^ (j + 1) by omega]
      exact ih k (j + 1) (by omega) (by omega)
    · rw [if_pos (by omega), Pow_eq _ (by omega) k (by omega)]
      simp only [Option.bind_some]
      rw [h0, Nat.mul_one] at hs
      rw [show ((a / 2 ^ i % 2 ^ j : Nat) : Int) + ((2 ^ j : Nat) : Int) = ((a / 2 ^ i % 2 ^ (j + 1) : Nat) : Int) by rw [hs]; push_cast; rfl, wrap_nat hb]
      exact ih k (j + 1) (by omega) (by omega)
theorem rField_eq {a : Int} (h : 0 ≤ a ∧ a < 18446744073709551616) (i m : Nat) (h2 : i + m ≤ 64) (k : Nat) (hk : 200 < k) : capnpref01_Field.f k a i m = some (a / 2 ^ i % 2 ^ m) := by
  obtain ⟨n, rfl⟩ := Int.eq_ofNat_of_zero_le h.1
  unfold capnpref01_Field.f
  have := rfield_loop n (by omega) i m h2 m k 0 (by omega) (by omega)
  simp only [Nat.pow_zero, Nat.mod_one] at this
  rw [show ((0 : Nat) : Int) = 0 from rfl] at this
  rw [this]
  simp
theorem rSigned_eq {a : Int} (h : 0 ≤ a ∧ a < 18446744073709551616) (k : Nat) (hk : 200 < k) : capnpref01_Signed.f k a 2 30 = some (sgn30 (a / 4 % 1073741824)) := by
  unfold capnpref01_Signed.f
  have e1 : capnpref01_Field.f k a 2 30 = some (a / 4 % 1073741824) := rField_eq h 2 30 (by decide) k hk
  have e2 : capnpref01_Pow.f k (wrap64 (30 - 1)) = some 536870912 := by rw [show wrap64 (30 - 1) = ((29 : Nat) : Int) by rw [wrap64_id (by omega)]; rfl, Pow_eq 29 (by decide) k (by omega)]; rfl
  rw [e1]
  simp only [Option.bind_some]
  rw [if_neg (by decide), e2]
  simp only [Option.bind_some]
  unfold sgn30
  by_cases hc : a / 4 % 1073741824 ≥ 536870912
  · rw [if_pos hc, if_pos hc]
    simp only [Option.some.injEq]
    rw [wrap64_id (x := a / 4 % 1073741824) (by omega), wrap64_id (x := 536870912) (by omega), wrap64_id (x := a / 4 % 1073741824 - 536870912) (by omega), wrap64_id (by omega)]
    omega
  · rw [if_neg hc, if_neg (by omega), wrap64_id (by omega)]
theorem rDecode_eq {a : Int} (h : 0 ≤ a ∧ a < 18446744073709551616) (k : Nat) (hk : 200 < k) : capnpref02_Decode.f k a = some (decI a) := by
  have k1 : capnpref01_Field.f k a 32 16 = some (a / 4294967296 % 65536) := rField_eq h 32 16 (by decide) k hk
  have k2 : capnpref01_Field.f k a 48 16 = some (a / 281474976710656 % 65536) := rField_eq h 48 16 (by decide) k hk
  have k3 : capnpref01_Field.f k a 32 3 = some (a / 4294967296 % 8) := rField_eq h 32 3 (by decide) k hk
  have k4 : capnpref01_Field.f k a 35 29 = some (a / 34359738368 % 536870912) := rField_eq h 35 29 (by decide) k hk
  have k5 : capnpref01_Field.f k a 2 1 = some (a / 4 % 2) := rField_eq h 2 1 (by decide) k hk
  have k6 : capnpref01_Field.f k a 3 29 = some (a / 8 % 536870912) := rField_eq h 3 29 (by decide) k hk
  have k8 : capnpref01_Field.f k a 2 30 = some (a / 4 % 1073741824) := rField_eq h 2 30 (by decide) k hk
  have hm : wrap64 (Int.tmod a 4) = a % 4 := by rw [Int.tmod_eq_emod_of_nonneg h.1, wrap64_id (by omega)]
  have hd : IntKind.u64.wrap (Int.tdiv a 4294967296) = a / 4294967296 := by rw [Int.tdiv_eq_ediv_of_nonneg h.1, wrap_u64 (by omega)]
  unfold capnpref02_Decode.f decI
  rw [hm, k1, k2, k3, k4, k5, k6, k8, rSigned_eq h k hk, hd]
  simp only [Option.bind_some]
  rw [wrap64_id (x := a / 4294967296 % 65536) (by omega), wrap64_id (x := a / 281474976710656 % 65536) (by omega), wrap64_id (x := a / 4294967296 % 8) (by omega), wrap64_id (x := a / 34359738368 % 536870912) (by omega), wrap64_id (x := a / 8 % 536870912) (by omega)]
  rw [show a / 4 % 1073741824 % 4294967296 = a / 4 % 1073741824 by omega]
  by_cases c0 : a % 4 = 0
  · simp [c0]
  by_cases c1 : a % 4 = 1
  · simp [c1]
  by_cases c2 : a % 4 = 2
  · simp [c2]
  · have c3 : a % 4 = 3 := by omega
    simp [c3]
theorem rValid_eq (k o d q e c : Int) (b : Bool) (pd sg lo : Int) (hs : 0 ≤ sg ∧ sg ≤ 4294967295) (hl : 0 ≤ lo ∧ lo ≤ 4294967295) : capnpref02_Valid.f k o d q e c b pd sg lo = some (decide (vldP (k, o, d, q, e, c, b, pd, sg, lo))) := by
  have beq0 : ∀ x : Int, (0 == x) = decide (x = 0) := fun x => by
    by_cases h : x = 0
    · subst h; rfl
    · rw [decide_eq_false h]; rw [beq_eq_false_iff_ne]; omega
  have ofs : ∀ x : Int, capnpref02_offset.f x = some (decide (-536870912 ≤ x ∧ x ≤ 536870911)) := fun x => by
    unfold capnpref02_offset.f
    by_cases h : x ≥ -536870912
    · rw [if_pos h]
      simp [h]
      try (intro; omega)
    · rw [if_neg h]
      simp [h]
      try omega
  unfold capnpref02_Valid.f
  simp only [beq0, ofs, Option.bind_some]
  cases b
  all_goals
    repeat' split
    all_goals
      simp only [Option.some.injEq]
      rw [Bool.eq_iff_iff]
      simp only [Bool.and_eq_true, decide_eq_true_eq, Bool.not_eq_true', Bool.false_eq_true, Bool.true_eq_false, Bool.not_true, Bool.not_false, and_true, true_and, and_false, false_and, false_iff, vldP, not_and, reduceCtorEq, or_false, false_or] at *
      try omega
theorem rEncode_eq (k o d q e c : Int) (b : Bool) (pd sg lo : Int) (hs : 0 ≤ sg ∧ sg ≤ 4294967295) (hl : 0 ≤ lo ∧ lo ≤ 4294967295) (n : Nat) (hn : 0 < n) :
    capnpref02_Encode.f n k o d q e c b pd sg lo = some (if vldP (k, o, d, q, e, c, b, pd, sg, lo) then (pakI (k, o, d, q, e, c, b, pd, sg, lo), true) else (0, false)) := by
  obtain ⟨n, rfl⟩ : ∃ m, n = m + 1 := ⟨n - 1, by omega⟩
  unfold capnpref02_Encode.f
  rw [rValid_eq k o d q e c b pd sg lo hs hl]
  simp only [Option.bind_some, decide_eq_true_eq]
  by_cases hv : vldP (k, o, d, q, e, c, b, pd, sg, lo)
  · rw [if_pos hv, if_pos hv]
    have hw : ∀ x : Int, 0 ≤ x ∧ x < 18446744073709551616 → IntKind.u64.wrap x = x := fun x h => wrap_u64 h
    have hm : ∀ x : Int, -536870912 ≤ x ∧ x ≤ 536870911 → (if x < 0 then wrap64 (x + 1073741824) else x) = x % 1073741824 := fun x h => by
      split
      · rw [wrap64_id (by omega)]; omega
      · omega
    unfold vldP at hv
    simp only at hv
    have key : ∀ x5 : Int, x5 = (if o < 0 then wrap64 (o + 1073741824) else o) → capnpref02_Encode.j0 (n + 1) (IntKind.u64.wrap k) x5 k o d q e c b pd sg lo = some (pakI (k, o, d, q, e, c, b, pd, sg, lo), true) := by
      intro x5 hx5
      simp only [capnpref02_Encode.j0]
      rcases hv with ⟨rfl, h1, h2, h3, h4, h5, h6, rfl, rfl, rfl, rfl, rfl, rfl⟩ | ⟨rfl, h1, h2, rfl, rfl, h3, h4, h5, h6, rfl, rfl, rfl, rfl⟩ | ⟨rfl, rfl, rfl, rfl, rfl, rfl, h1, h2, h3, h4, rfl⟩ | ⟨rfl, rfl, rfl, rfl, rfl, rfl, rfl, rfl, h1, h2, h3, h4⟩
      · rw [hm o ⟨h1, h2⟩] at hx5
        subst hx5
        simp only [if_true, pakI, Option.some.injEq, Prod.mk.injEq, and_true]
        rw [hw 0 (by omega), hw (o % 1073741824) (by omega), hw d (by omega), hw q (by omega), hw (4 * (o % 1073741824)) (by omega), hw (4294967296 * d) (by omega), hw (281474976710656 * q) (by omega), hw (0 + _) (by omega), hw (_ + 4294967296 * d) (by omega), hw (_ + 281474976710656 * q) (by omega)]
        omega
      · rw [hm o ⟨h1, h2⟩] at hx5
        subst hx5
        simp only [if_true, show ¬ ((1 : Int) = 0) by decide, if_false, pakI, Option.some.injEq, Prod.mk.injEq, and_true]
        rw [hw 1 (by omega), hw (o % 1073741824) (by omega), hw e (by omega), hw c (by omega), hw (4 * (o % 1073741824)) (by omega), hw (4294967296 * e) (by omega), hw (34359738368 * c) (by omega), hw (1 + _) (by omega), hw (_ + 4294967296 * e) (by omega), hw (_ + 34359738368 * c) (by omega)]
        omega
      · cases b
        · simp only [if_true, show ¬ ((2 : Int) = 0) by decide, show ¬ ((2 : Int) = 1) by decide, Bool.false_eq_true, if_false, pakI, Option.some.injEq, Prod.mk.injEq, and_true]
          rw [hw 2 (by omega), hw pd (by omega), hw sg (by omega), hw (8 * pd) (by omega), hw (4294967296 * sg) (by omega), hw (2 + _) (by omega), hw (_ + 4294967296 * sg) (by omega)]
          omega
        · simp only [if_true, show ¬ ((2 : Int) = 0) by decide, show ¬ ((2 : Int) = 1) by decide, if_false, pakI, Option.some.injEq, Prod.mk.injEq, and_true]
          rw [hw 2 (by omega), hw pd (by omega), hw sg (by omega), hw (8 * pd) (by omega), hw (4294967296 * sg) (by omega), hw (2 + 4) (by omega), hw (2 + 4 + _) (by omega), hw (_ + 4294967296 * sg) (by omega)]
          omega
      · simp only [show ¬ ((3 : Int) = 0) by decide, show ¬ ((3 : Int) = 1) by decide, show ¬ ((3 : Int) = 2) by decide, if_false, pakI, Option.some.injEq, Prod.mk.injEq, and_true]
        rw [hw 3 (by omega), hw lo (by omega), hw sg (by omega), hw (4 * lo) (by omega), hw (4294967296 * sg) (by omega), hw (3 + _) (by omega), hw (_ + 4294967296 * sg) (by omega)]
        omega
    split
    · rename_i ho
      exact key _ (by rw [if_pos ho])
    · rename_i ho
      exact key _ (by rw [if_neg ho])
  · rw [if_neg hv, if_neg hv]
end Go.Proofs.YtcjhejopcghgnaaDoor.P

namespace Go.Proofs.YtcjhejopcghgnaaDoor.P
open Go.RowKit Go.Proofs.YtcjhejopcghgnaaDoorW.PrintWords Go.Proofs.YtcjhejopcghgnaaDoorW.PrintLast Go.Proofs.YtcjhejopcghgnaaDoorW.PrintMore
attribute [local go_sem] max2_int min2_int max_two min_two max_three min_three max_four min_four   -- for this text's walks alone
set_option linter.unusedVariables false
set_option linter.unusedSimpArgs false

variable {gb : Bool}
/-! ### capnpref05_InBounds: function 30 -/
def capnpref05_InBounds.f (l0 : List (List Int)) (a1 a2 a3 : Int) : Option (Bool) := if a1 < 0 then (some false) else (if a1 ≥ (l0.length : Int) then (some false) else (if a2 < 0 then (some false) else (if a3 < 0 then (some false) else (if 0 ≤ a1 then (if a1 < (l0.length : Int) then (if a2 ≤ ((rd_L5 l0 a1).length : Int) then (some (decide (a3 ≤ (wrap64 (((rd_L5 l0 a1).length : Int) - a2))))) else (some false)) else (none)) else (none)))))
set_option maxHeartbeats 8000000 in
set_option maxRecDepth 100000 in
theorem capnpref05_InBounds.calls (A0 : Option Addr) (c0 : Nat) (l0 : List (List Int)) (a1 a2 a3 : Int) (r : Bool) (w : World) (hr0 : Kd.C (Kd.slice 23 (Kd.int .u64)) w A0 l0.length l0) (hc0 : l0.length ≤ c0) (h : capnpref05_InBounds.f l0 a1 a2 a3 = some r) :
    Calls Tryd.prog 30 #[.slice A0 l0.length c0, .int .i64 a1, .int .i64 a2, .int .i64 a3] w fun e w' => e = .returned (.bool r) ∧ Drawn0 w w' := by
  have HR0 := Aside0.mk hr0
  clear hr0 hc0
  have H := h
  unfold capnpref05_InBounds.f at H
  clear h
  by_cases c5 : a1 < 0
  · rw [if_pos c5] at H
    have c5b0 : decide (a1 < 0) = true := decide_eq_true c5
    clear c5
    obtain rfl := Option.some.inj H
    go_enter Tryd.func30, Tryd.ntmps30
    go_wp2
    go_ret
    exact ⟨by rfl, by repeat (exact Drawn0.refl _)⟩
  · rw [if_neg c5] at H
    have c5b0 : decide (a1 < 0) = false := decide_eq_false c5
    clear c5
    by_cases c6 : a1 ≥ (l0.length : Int)
    · rw [if_pos c6] at H
      have c6b0 : decide ((l0.length : Int) ≤ a1) = true := decide_eq_true c6
      clear c6
      obtain rfl := Option.some.inj H
      go_enter Tryd.func30, Tryd.ntmps30
      go_wp2
      go_ret
      exact ⟨by rfl, by repeat (exact Drawn0.refl _)⟩
    · rw [if_neg c6] at H
      have c6b0 : decide ((l0.length : Int) ≤ a1) = false := decide_eq_false c6
      clear c6
      by_cases c7 : a2 < 0
      · rw [if_pos c7] at H
        have c7b0 : decide (a2 < 0) = true := decide_eq_true c7
        clear c7
        obtain rfl := Option.some.inj H
        go_enter Tryd.func30, Tryd.ntmps30
        go_wp2
        go_ret
        exact ⟨by rfl, by repeat (exact Drawn0.refl _)⟩
      · rw [if_neg c7] at H
        have c7b0 : decide (a2 < 0) = false := decide_eq_false c7
        clear c7
        by_cases c8 : a3 < 0
        · rw [if_pos c8] at H
          have c8b0 : decide (a3 < 0) = true := decide_eq_true c8
          clear c8
          obtain rfl := Option.some.inj H
          go_enter Tryd.func30, Tryd.ntmps30
          go_wp2
          go_ret
          exact ⟨by rfl, by repeat (exact Drawn0.refl _)⟩
        · rw [if_neg c8] at H
          have c8b0 : decide (a3 < 0) = false := decide_eq_false c8
          clear c8
          by_cases c9 : 0 ≤ a1
          · rw [if_pos c9] at H
            have c9b0 : decide (0 ≤ a1) = true := decide_eq_true c9
            clear c9
            by_cases c10 : a1 < (l0.length : Int)
            · rw [if_pos c10] at H
              have c10b0 : decide (a1 < (l0.length : Int)) = true := decide_eq_true c10
              clear c10
              by_cases c11 : a2 ≤ ((rd_L5 l0 a1).length : Int)
              · rw [if_pos c11] at H
                have c11b0 : decide (a2 ≤ ((rd_L5 l0 a1).length : Int)) = true := decide_eq_true c11
                clear c11
                obtain rfl := Option.some.inj H
                have p399 : 0 ≤ (a1 : Int) := of_decide_eq_true (by (with_reducible assumption))
                have q399 : a1 < (l0.length : Int) := of_decide_eq_true (by (with_reducible assumption))
                obtain ⟨ad399, A399_0, c399_0, e399, hx399_0, hl399_0, hi399_0⟩ := at_L5 HR0.out a1 p399 q399
                cases e399
                clear hi399_0 hl399_0
                replace p399 := eq_true p399
                replace q399 := eq_true q399
                go_enter Tryd.func30, Tryd.ntmps30
                go_wp2
                go_ret
                exact ⟨by rfl, by repeat (exact Drawn0.refl _)⟩
              · rw [if_neg c11] at H
                have c11b0 : decide (a2 ≤ ((rd_L5 l0 a1).length : Int)) = false := decide_eq_false c11
                clear c11
                obtain rfl := Option.some.inj H
                have p399 : 0 ≤ (a1 : Int) := of_decide_eq_true (by (with_reducible assumption))
                have q399 : a1 < (l0.length : Int) := of_decide_eq_true (by (with_reducible assumption))
                obtain ⟨ad399, A399_0, c399_0, e399, hx399_0, hl399_0, hi399_0⟩ := at_L5 HR0.out a1 p399 q399
                cases e399
                clear hi399_0 hl399_0
                replace p399 := eq_true p399
                replace q399 := eq_true q399
                go_enter Tryd.func30, Tryd.ntmps30
                go_wp2
                go_ret
                exact ⟨by rfl, by repeat (exact Drawn0.refl _)⟩
            · rw [if_neg c10] at H
              exact absurd H (by simp)
          · rw [if_neg c9] at H
            exact absurd H (by simp)

end Go.Proofs.YtcjhejopcghgnaaDoor.P
