-- Printed by this session's wip/pp.py, out of Lean's print of the program.
import Derived.Test.YtlkcmpamjheldaaDoorPx0
import Derived.Test.YtlkcmpamjheldaaDoorPx1
import Derived.Test.YtlkcmpamjheldaaDoorPx7
import Derived.Test.YtlkcmpamjheldaaDoorPx11
import Derived.Test.YtlkcmpamjheldaaDoorPx12
import Derived.Test.YtlkcmpamjheldaaDoorPx13
namespace Go.Proofs.YtlkcmpamjheldaaDoor.P
open Go.RowKit Go.Proofs.YtlkcmpamjheldaaDoorW.PrintWords Go.Proofs.YtlkcmpamjheldaaDoorW.PrintLast Go.Proofs.YtlkcmpamjheldaaDoorW.PrintMore
attribute [local go_sem] max2_int min2_int max_two min_two max_three min_three max_four min_four   -- for this text's walks alone
set_option linter.unusedVariables false
set_option linter.unusedSimpArgs false

attribute [local go_sem high] eqA25
/-! ### capnplaw02_PointerKinds: function 5 -/
def capnplaw02_PointerKinds.j0 : Nat → Int → Bool → Int → Int → Int → Int → Int → Int → Bool → Int → Int → Int → Option (Bool)
  | 0, _, _, _, _, _, _, _, _, _, _, _, _ => none
  | k + 1, x0, x29, x302000, x302001, x302002, x302003, x302004, x302005, x302006, x302007, x302008, x302009 => if x29 = true then (some false) else (if x302000 = 0 then (if x302001 ≥ (-536870912) then (if x302001 ≤ 536870911 then (if x302002 < 65536 then (if x302003 < 65536 then (if x302002 ≥ 0 then (some (decide (x302003 ≥ 0))) else (some false)) else (some false)) else (some false)) else (some false)) else (some false)) else (if x302000 = 1 then (if x302001 ≥ (-536870912) then (if x302001 ≤ 536870911 then (if x302004 ≥ 0 then (if x302004 ≤ 7 then (if x302005 ≥ 0 then (some (decide (x302005 ≤ 536870911))) else (some false)) else (some false)) else (some false)) else (some false)) else (some false)) else (if x302000 = 2 then (if x302007 ≥ 0 then (if x302007 ≤ 536870911 then (some (x302008 == ((IntKind.u64.wrap (Int.tdiv x0 4294967296)) % 4294967296))) else (some false)) else (some false)) else (if x302009 < 1073741824 then (some (x302008 == ((IntKind.u64.wrap (Int.tdiv x0 4294967296)) % 4294967296))) else (some false)))))
def capnplaw02_PointerKinds.f (k : Nat) (a0 : Int) : Option (Bool) := (capnplaw02_awake.f).bind fun t290 => (if t290 = true then ((pointer_Decode.f a0).bind fun bt291 => (if bt291.1 = (wrap64 (Int.tmod a0 4)) then ((pointer_IsNull.f a0).bind fun t302 => (if (t302 != (bt291.1 == 0 && (bt291.2.1 == 0 && (bt291.2.2.1 == 0 && (bt291.2.2.2.1 == 0 && (bt291.2.2.2.2.1 == 0 && (bt291.2.2.2.2.2.1 == 0 && (!bt291.2.2.2.2.2.2.1 && (bt291.2.2.2.2.2.2.2.1 == 0 && (bt291.2.2.2.2.2.2.2.2.1 == 0 && (bt291.2.2.2.2.2.2.2.2.2 == 0))))))))))) = true then (capnplaw02_PointerKinds.j0 k a0 true bt291.1 bt291.2.1 bt291.2.2.1 bt291.2.2.2.1 bt291.2.2.2.2.1 bt291.2.2.2.2.2.1 bt291.2.2.2.2.2.2.1 bt291.2.2.2.2.2.2.2.1 bt291.2.2.2.2.2.2.2.2.1 bt291.2.2.2.2.2.2.2.2.2) else ((pointer_IsCapability.f bt291.1 bt291.2.1 bt291.2.2.1 bt291.2.2.2.1 bt291.2.2.2.2.1 bt291.2.2.2.2.2.1 bt291.2.2.2.2.2.2.1 bt291.2.2.2.2.2.2.2.1 bt291.2.2.2.2.2.2.2.2.1 bt291.2.2.2.2.2.2.2.2.2).bind fun t303 => (capnplaw02_PointerKinds.j0 k a0 (t303 != ((Int.tmod a0 4294967296) == 3)) bt291.1 bt291.2.1 bt291.2.2.1 bt291.2.2.2.1 bt291.2.2.2.2.1 bt291.2.2.2.2.2.1 bt291.2.2.2.2.2.2.1 bt291.2.2.2.2.2.2.2.1 bt291.2.2.2.2.2.2.2.2.1 bt291.2.2.2.2.2.2.2.2.2)))) else (capnplaw02_PointerKinds.j0 k a0 true bt291.1 bt291.2.1 bt291.2.2.1 bt291.2.2.2.1 bt291.2.2.2.2.1 bt291.2.2.2.2.2.1 bt291.2.2.2.2.2.2.1 bt291.2.2.2.2.2.2.2.1 bt291.2.2.2.2.2.2.2.2.1 bt291.2.2.2.2.2.2.2.2.2))) else (some false))
theorem capnplaw02_PointerKinds.mono_l : ∀ k, (∀ y0 y1 y2 y3 y4 y5 y6 y7 y8 y9 y10 y11, LeO (capnplaw02_PointerKinds.j0 k y0 y1 y2 y3 y4 y5 y6 y7 y8 y9 y10 y11) (capnplaw02_PointerKinds.j0 (k + 1) y0 y1 y2 y3 y4 y5 y6 y7 y8 y9 y10 y11))
  | 0 => fun _ _ _ _ _ _ _ _ _ _ _ _ r h => by simp [capnplaw02_PointerKinds.j0] at h
  | k + 1 => by
    have ih0 := capnplaw02_PointerKinds.mono_l k
    · intro y0 y1 y2 y3 y4 y5 y6 y7 y8 y9 y10 y11
      unfold capnplaw02_PointerKinds.j0
      repeat' first
      | (with_reducible exact ih0 _ _ _ _ _ _ _ _ _ _ _ _)
      | (with_reducible exact LeO.refl _)
      | (with_reducible exact LeO.none _)
      | (with_reducible refine LeO.ite ?_ ?_)
      | (with_reducible refine LeO.bind ?_ (fun _ => ?_))
      | exact ih0 _ _ _ _ _ _ _ _ _ _ _ _
      | exact LeO.none _
      | refine LeO.ite ?_ ?_
      | refine LeO.bind ?_ (fun _ => ?_)
theorem capnplaw02_PointerKinds.mono : ∀ a0 k, LeO (capnplaw02_PointerKinds.f k a0) (capnplaw02_PointerKinds.f (k + 1) a0) := by
  intro a0 k
  have ih0 := capnplaw02_PointerKinds.mono_l k
  unfold capnplaw02_PointerKinds.f
  repeat' first
      | (with_reducible exact ih0 _ _ _ _ _ _ _ _ _ _ _ _)
      | (with_reducible exact LeO.refl _)
      | (with_reducible exact LeO.none _)
      | (with_reducible refine LeO.ite ?_ ?_)
      | (with_reducible refine LeO.bind ?_ (fun _ => ?_))
      | exact ih0 _ _ _ _ _ _ _ _ _ _ _ _
      | exact LeO.none _
      | refine LeO.ite ?_ ?_
      | refine LeO.bind ?_ (fun _ => ?_)
def capnplaw02_PointerKinds.T4 : Bool × List (List Nat × List Nat) := (true, [([], []), ([0], [0]), ([], []), ([2], [2]), ([3], [3]), ([1, 4], [1, 4]), ([5], [5]), ([6], [6]), ([7, 6, 6], [6, 7]), ([6], [6]), ([6], [6]), ([9, 10, 6], [6, 9, 10]), ([8, 11, 6], [6, 8, 11]), ([6, 12], [6, 12]), ([13, 8], [13]), ([14], [14]), ([15, 14, 14], [14, 15]), ([14], [14]), ([17, 14], [14, 17]), ([18, 14], [14, 18]), ([16, 19, 14], [14, 16, 19]), ([14, 20], [14, 20])])
def capnplaw02_PointerKinds.B4 : List Nat := [0, 1, 0, 4, 12, 31, 63, 127, 255, 127, 127, 1663, 4095, 8191, 16383, 32767, 65535, 32767, 163839, 425983, 1048575, 2097151]
theorem capnplaw02_PointerKinds.tab4 : rtab .any (opsOf Tryd.f5 4) = capnplaw02_PointerKinds.T4 := by kernel_rfl
theorem capnplaw02_PointerKinds.bits4 : waitsOk capnplaw02_PointerKinds.T4.2 capnplaw02_PointerKinds.B4 = true := by kernel_rfl
set_option maxHeartbeats 8000000 in
set_option maxRecDepth 100000 in
theorem capnplaw02_PointerKinds.calls (k : Nat) (a0 : Int) (r : Bool) (w : World) (hG : Glob w) (h : capnplaw02_PointerKinds.f k a0 = some r) :
    Calls Tryd.prog 5 #[.int .u64 a0] w fun e w' => e = .returned (.bool r) ∧ Below w.heap.size w w' := by
  have hu25 := Tryd.underlying25
  have HG := Aside0.mk hG
  clear hG
  have HB := Aside0.mk (Below.refl w.heap.size w)
  have H : ((capnplaw02_awake.f).bind fun t290 => (if t290 = true then ((pointer_Decode.f a0).bind fun bt291 => (if bt291.1 = (wrap64 (Int.tmod a0 4)) then ((pointer_IsNull.f a0).bind fun t302 => (if (t302 != (bt291.1 == 0 && (bt291.2.1 == 0 && (bt291.2.2.1 == 0 && (bt291.2.2.2.1 == 0 && (bt291.2.2.2.2.1 == 0 && (bt291.2.2.2.2.2.1 == 0 && (!bt291.2.2.2.2.2.2.1 && (bt291.2.2.2.2.2.2.2.1 == 0 && (bt291.2.2.2.2.2.2.2.2.1 == 0 && (bt291.2.2.2.2.2.2.2.2.2 == 0))))))))))) = true then (capnplaw02_PointerKinds.j0 k a0 true bt291.1 bt291.2.1 bt291.2.2.1 bt291.2.2.2.1 bt291.2.2.2.2.1 bt291.2.2.2.2.2.1 bt291.2.2.2.2.2.2.1 bt291.2.2.2.2.2.2.2.1 bt291.2.2.2.2.2.2.2.2.1 bt291.2.2.2.2.2.2.2.2.2) else ((pointer_IsCapability.f bt291.1 bt291.2.1 bt291.2.2.1 bt291.2.2.2.1 bt291.2.2.2.2.1 bt291.2.2.2.2.2.1 bt291.2.2.2.2.2.2.1 bt291.2.2.2.2.2.2.2.1 bt291.2.2.2.2.2.2.2.2.1 bt291.2.2.2.2.2.2.2.2.2).bind fun t303 => (capnplaw02_PointerKinds.j0 k a0 (t303 != ((Int.tmod a0 4294967296) == 3)) bt291.1 bt291.2.1 bt291.2.2.1 bt291.2.2.2.1 bt291.2.2.2.2.1 bt291.2.2.2.2.2.1 bt291.2.2.2.2.2.2.1 bt291.2.2.2.2.2.2.2.1 bt291.2.2.2.2.2.2.2.2.1 bt291.2.2.2.2.2.2.2.2.2)))) else (capnplaw02_PointerKinds.j0 k a0 true bt291.1 bt291.2.1 bt291.2.2.1 bt291.2.2.2.1 bt291.2.2.2.2.1 bt291.2.2.2.2.2.1 bt291.2.2.2.2.2.2.1 bt291.2.2.2.2.2.2.2.1 bt291.2.2.2.2.2.2.2.2.1 bt291.2.2.2.2.2.2.2.2.2))) else (some false))) = some r := h
  clear h
  replace H := Option.bind_eq_some_iff.mp H
  obtain ⟨t290, A20, H⟩ := H
  replace H : (if t290 = true then ((pointer_Decode.f a0).bind fun bt291 => (if bt291.1 = (wrap64 (Int.tmod a0 4)) then ((pointer_IsNull.f a0).bind fun t302 => (if (t302 != (bt291.1 == 0 && (bt291.2.1 == 0 && (bt291.2.2.1 == 0 && (bt291.2.2.2.1 == 0 && (bt291.2.2.2.2.1 == 0 && (bt291.2.2.2.2.2.1 == 0 && (!bt291.2.2.2.2.2.2.1 && (bt291.2.2.2.2.2.2.2.1 == 0 && (bt291.2.2.2.2.2.2.2.2.1 == 0 && (bt291.2.2.2.2.2.2.2.2.2 == 0))))))))))) = true then (capnplaw02_PointerKinds.j0 k a0 true bt291.1 bt291.2.1 bt291.2.2.1 bt291.2.2.2.1 bt291.2.2.2.2.1 bt291.2.2.2.2.2.1 bt291.2.2.2.2.2.2.1 bt291.2.2.2.2.2.2.2.1 bt291.2.2.2.2.2.2.2.2.1 bt291.2.2.2.2.2.2.2.2.2) else ((pointer_IsCapability.f bt291.1 bt291.2.1 bt291.2.2.1 bt291.2.2.2.1 bt291.2.2.2.2.1 bt291.2.2.2.2.2.1 bt291.2.2.2.2.2.2.1 bt291.2.2.2.2.2.2.2.1 bt291.2.2.2.2.2.2.2.2.1 bt291.2.2.2.2.2.2.2.2.2).bind fun t303 => (capnplaw02_PointerKinds.j0 k a0 (t303 != ((Int.tmod a0 4294967296) == 3)) bt291.1 bt291.2.1 bt291.2.2.1 bt291.2.2.2.1 bt291.2.2.2.2.1 bt291.2.2.2.2.2.1 bt291.2.2.2.2.2.2.1 bt291.2.2.2.2.2.2.2.1 bt291.2.2.2.2.2.2.2.2.1 bt291.2.2.2.2.2.2.2.2.2)))) else (capnplaw02_PointerKinds.j0 k a0 true bt291.1 bt291.2.1 bt291.2.2.1 bt291.2.2.2.1 bt291.2.2.2.2.1 bt291.2.2.2.2.2.1 bt291.2.2.2.2.2.2.1 bt291.2.2.2.2.2.2.2.1 bt291.2.2.2.2.2.2.2.2.1 bt291.2.2.2.2.2.2.2.2.2))) else (some false)) = some r := H
  have A2 := Aside0.mk A20
  clear A20
  by_cases c3 : t290 = true
  · subst c3
    have H1 : ((pointer_Decode.f a0).bind fun bt291 => (if bt291.1 = (wrap64 (Int.tmod a0 4)) then ((pointer_IsNull.f a0).bind fun t302 => (if (t302 != (bt291.1 == 0 && (bt291.2.1 == 0 && (bt291.2.2.1 == 0 && (bt291.2.2.2.1 == 0 && (bt291.2.2.2.2.1 == 0 && (bt291.2.2.2.2.2.1 == 0 && (!bt291.2.2.2.2.2.2.1 && (bt291.2.2.2.2.2.2.2.1 == 0 && (bt291.2.2.2.2.2.2.2.2.1 == 0 && (bt291.2.2.2.2.2.2.2.2.2 == 0))))))))))) = true then (capnplaw02_PointerKinds.j0 k a0 true bt291.1 bt291.2.1 bt291.2.2.1 bt291.2.2.2.1 bt291.2.2.2.2.1 bt291.2.2.2.2.2.1 bt291.2.2.2.2.2.2.1 bt291.2.2.2.2.2.2.2.1 bt291.2.2.2.2.2.2.2.2.1 bt291.2.2.2.2.2.2.2.2.2) else ((pointer_IsCapability.f bt291.1 bt291.2.1 bt291.2.2.1 bt291.2.2.2.1 bt291.2.2.2.2.1 bt291.2.2.2.2.2.1 bt291.2.2.2.2.2.2.1 bt291.2.2.2.2.2.2.2.1 bt291.2.2.2.2.2.2.2.2.1 bt291.2.2.2.2.2.2.2.2.2).bind fun t303 => (capnplaw02_PointerKinds.j0 k a0 (t303 != ((Int.tmod a0 4294967296) == 3)) bt291.1 bt291.2.1 bt291.2.2.1 bt291.2.2.2.1 bt291.2.2.2.2.1 bt291.2.2.2.2.2.1 bt291.2.2.2.2.2.2.1 bt291.2.2.2.2.2.2.2.1 bt291.2.2.2.2.2.2.2.2.1 bt291.2.2.2.2.2.2.2.2.2)))) else (capnplaw02_PointerKinds.j0 k a0 true bt291.1 bt291.2.1 bt291.2.2.1 bt291.2.2.2.1 bt291.2.2.2.2.1 bt291.2.2.2.2.2.1 bt291.2.2.2.2.2.2.1 bt291.2.2.2.2.2.2.2.1 bt291.2.2.2.2.2.2.2.2.1 bt291.2.2.2.2.2.2.2.2.2))) = some r := by rw [if_pos rfl] at H; exact H
    clear H
    have H := H1
    clear H1
    replace H := Option.bind_eq_some_iff.mp H
    obtain ⟨⟨t291, t292, t293, t294, t295, t296, t297, t298, t299, t300⟩, A40, H⟩ := H
    replace H : (if t291 = (wrap64 (Int.tmod a0 4)) then ((pointer_IsNull.f a0).bind fun t302 => (if (t302 != (t291 == 0 && (t292 == 0 && (t293 == 0 && (t294 == 0 && (t295 == 0 && (t296 == 0 && (!t297 && (t298 == 0 && (t299 == 0 && (t300 == 0))))))))))) = true then (capnplaw02_PointerKinds.j0 k a0 true t291 t292 t293 t294 t295 t296 t297 t298 t299 t300) else ((pointer_IsCapability.f t291 t292 t293 t294 t295 t296 t297 t298 t299 t300).bind fun t303 => (capnplaw02_PointerKinds.j0 k a0 (t303 != ((Int.tmod a0 4294967296) == 3)) t291 t292 t293 t294 t295 t296 t297 t298 t299 t300)))) else (capnplaw02_PointerKinds.j0 k a0 true t291 t292 t293 t294 t295 t296 t297 t298 t299 t300)) = some r := H
    have A4 := Aside0.mk A40
    clear A40
    have HC5 := Aside0.mk H
    clear H
    go_enter Tryd.func5, Tryd.ntmps5
    go_upto_region 4 with (first | ((with_reducible refine gate_callee (f := 8) rfl ?_); refine goesL_ (some 4) rfl rfl Tryd.func8 (by kernel_rfl) rfl #[] rfl (by (try simp only [List.map_toArray, List.map_cons, List.map_nil]); first | done | rfl | (simp only [List.length_drop, List.length_take]; rfl)) ?_; (with_reducible refine (capnplaw02_awake.calls  true _ ?side1 A2.out).mono ?_); (case side1 => exact Glob.below HG.out (by repeat (first | (with_reducible first | exact HB.out | apply below_alloc | apply pw_below_drewN | apply below_drew1) | exact HB.out))); rintro e w6 ⟨rfl, hb⟩; refine ⟨_, rfl, ?_⟩; have n0_ := Aside0.mk (below_step (by repeat (first | (with_reducible first | exact HB.out | apply below_alloc | apply pw_below_drewN | apply below_drew1) | exact HB.out)) hb); clear HB; have HB := n0_; clear n0_; (try clear hb); (try clear hb2); (try clear hk); (try clear hi)) | ((with_reducible refine gate_callee (f := 11) rfl ?_); refine goesL_ (some 7) rfl rfl Tryd.func11 (by kernel_rfl) rfl #[.int .u64 a0] rfl (by (try simp only [List.map_toArray, List.map_cons, List.map_nil]); first | done | rfl | (simp only [List.length_drop, List.length_take]; rfl)) ?_; (with_reducible refine (pointer_Decode.calls a0 t291 t292 t293 t294 t295 t296 t297 t298 t299 t300 _ ?side1 A4.out).mono ?_); (case side1 => exact Glob.below HG.out (by repeat (first | (with_reducible first | exact HB.out | apply below_alloc | apply pw_below_drewN | apply below_drew1) | exact HB.out))); rintro e w7 ⟨rfl, hb⟩; refine ⟨_, rfl, ?_⟩; have n0_ := Aside0.mk (below_step (by repeat (first | (with_reducible first | exact HB.out | apply below_alloc | apply pw_below_drewN | apply below_drew1) | exact HB.out)) hb); clear HB; have HB := n0_; clear n0_; (try clear hb); (try clear hb2); (try clear hk); (try clear hi)) | ((with_reducible refine gate_dst (N := 3) rfl ?_); refine box_event ?hg (N := 3) ?hd (cs := #[.int .i64 0, .int .i64 0, .int .i64 0, .int .i64 0, .int .i64 0, .int .i64 0, .bool false, .int .i64 0, .int .u32 0, .int .u32 0]) (t := 25) ?hr ?_; (case hd => rfl); (case hg => rfl); (case hr => first | (go_simp; done) | (go_simp; rfl)); intro gb301 hg w8 hbox hb; have n0_ := Aside0.mk (below_step (by repeat (first | (with_reducible first | exact HB.out | apply below_alloc | apply pw_below_drewN | apply below_drew1) | exact HB.out)) hb); have n1_ := Aside0.mk (hbox); have n2_ := Aside0.mk ((by rw [hg]; exact (below_size (by repeat (first | (with_reducible first | exact HB.out | apply below_alloc | apply pw_below_drewN | apply below_drew1) | exact HB.out))) : w.heap.size ≤ gb301)); have n3_ := Aside0.mk ((by rw [hg]; exact (below_size (by repeat (first | (with_reducible first | exact HB.out | apply below_alloc | apply pw_below_drewN | apply below_drew1) | exact HB.out))) : w.heap.size ≤ gb301)); clear HB; have HB := n0_; have BK301 := n1_; have GW301 := n2_; have GE301 := n3_; clear n0_ n1_ n2_ n3_; clear hb hbox hg; have hcz9_0 : w8.cell? ⟨gb301, 0, none⟩ = some (.int .i64 0) := (blk_cell BK301.out 0).trans rfl; have hcz9_1 : w8.cell? ⟨gb301, 1, none⟩ = some (.int .i64 0) := (blk_cell BK301.out 1).trans rfl; have hcz9_2 : w8.cell? ⟨gb301, 2, none⟩ = some (.int .i64 0) := (blk_cell BK301.out 2).trans rfl; have hcz9_3 : w8.cell? ⟨gb301, 3, none⟩ = some (.int .i64 0) := (blk_cell BK301.out 3).trans rfl; have hcz9_4 : w8.cell? ⟨gb301, 4, none⟩ = some (.int .i64 0) := (blk_cell BK301.out 4).trans rfl; have hcz9_5 : w8.cell? ⟨gb301, 5, none⟩ = some (.int .i64 0) := (blk_cell BK301.out 5).trans rfl; have hcz9_6 : w8.cell? ⟨gb301, 6, none⟩ = some (.bool false) := (blk_cell BK301.out 6).trans rfl; have hcz9_7 : w8.cell? ⟨gb301, 7, none⟩ = some (.int .i64 0) := (blk_cell BK301.out 7).trans rfl; have hcz9_8 : w8.cell? ⟨gb301, 8, none⟩ = some (.int .u32 0) := (blk_cell BK301.out 8).trans rfl; have hcz9_9 : w8.cell? ⟨gb301, 9, none⟩ = some (.int .u32 0) := (blk_cell BK301.out 9).trans rfl; have hfz9_0 := blk_frozen BK301.out 0; have hfz9_1 := blk_frozen BK301.out 1; have hfz9_2 := blk_frozen BK301.out 2; have hfz9_3 := blk_frozen BK301.out 3; have hfz9_4 := blk_frozen BK301.out 4; have hfz9_5 := blk_frozen BK301.out 5; have hfz9_6 := blk_frozen BK301.out 6; have hfz9_7 := blk_frozen BK301.out 7; have hfz9_8 := blk_frozen BK301.out 8; have hfz9_9 := blk_frozen BK301.out 9))
    (try simp only [Act.put, List.setIfInBounds_toArray, List.set_cons_zero, List.set_cons_succ])
    go_cut [29] (fun v29 wc => ∃ (kq : Nat) (x29_4 : Bool), v29 = .bool x29_4 ∧ Aside0 (capnplaw02_PointerKinds.j0 kq a0 x29_4 t291 t292 t293 t294 t295 t296 t297 t298 t299 t300 = some r) ∧ Aside0 (kq ≤ k) ∧ Aside0 (wc.heap[gb301]? = some (.cells #[.int .i64 t291, .int .i64 t292, .int .i64 t293, .int .i64 t294, .int .i64 t295, .int .i64 t296, .bool t297, .int .i64 t298, .int .u32 t299, .int .u32 t300] 25 (0, 0))) ∧ Aside0 (Below w.heap.size w wc))
    case first =>
      have H := HC5.out
      clear HC5
      by_cases c10 : t291 = (wrap64 (Int.tmod a0 4))
      · rw [if_pos c10] at H
        have c10b0 : (t291 == (wrap64 (Int.tmod a0 4))) = true := beq_iff_eq.mpr c10
        have c10b1 : (t291 != (wrap64 (Int.tmod a0 4))) = false := bne_eq_false_iff_eq.mpr c10
        clear c10
        (first | rw [c10b0] | (simp only [i64_w, i32_w]; rw [c10b0]) | skip)
        replace H := Option.bind_eq_some_iff.mp H
        obtain ⟨t302, A110, H⟩ := H
        replace H : (if (t302 != (t291 == 0 && (t292 == 0 && (t293 == 0 && (t294 == 0 && (t295 == 0 && (t296 == 0 && (!t297 && (t298 == 0 && (t299 == 0 && (t300 == 0))))))))))) = true then (capnplaw02_PointerKinds.j0 k a0 true t291 t292 t293 t294 t295 t296 t297 t298 t299 t300) else ((pointer_IsCapability.f t291 t292 t293 t294 t295 t296 t297 t298 t299 t300).bind fun t303 => (capnplaw02_PointerKinds.j0 k a0 (t303 != ((Int.tmod a0 4294967296) == 3)) t291 t292 t293 t294 t295 t296 t297 t298 t299 t300))) = some r := H
        have A11 := Aside0.mk A110
        clear A110
        by_cases c12 : (t302 != (t291 == 0 && (t292 == 0 && (t293 == 0 && (t294 == 0 && (t295 == 0 && (t296 == 0 && (!t297 && (t298 == 0 && (t299 == 0 && (t300 == 0))))))))))) = true
        · rw [if_pos c12] at H
          have c12b0 : (t302 != (t291 == 0 && (t292 == 0 && (t293 == 0 && (t294 == 0 && (t295 == 0 && (t296 == 0 && (!t297 && (t298 == 0 && (t299 == 0 && (t300 == 0))))))))))) = true := c12
          (try (have c12b1 : decide (t302 = (t291 == 0 && (t292 == 0 && (t293 == 0 && (t294 == 0 && (t295 == 0 && (t296 == 0 && (!t297 && (t298 == 0 && (t299 == 0 && (t300 == 0))))))))))) = false := by simpa using c12))
          (try (have c12b2 : (t302 == (t291 == 0 && (t292 == 0 && (t293 == 0 && (t294 == 0 && (t295 == 0 && (t296 == 0 && (!t297 && (t298 == 0 && (t299 == 0 && (t300 == 0))))))))))) = false := by simpa using c12))
          (try (have c12b3 : ¬ (t302 = (t291 == 0 && (t292 == 0 && (t293 == 0 && (t294 == 0 && (t295 == 0 && (t296 == 0 && (!t297 && (t298 == 0 && (t299 == 0 && (t300 == 0))))))))))) := by simpa using c12))
          clear c12
          have H' := Aside0.mk H
          clear H
          try go_wp2
          have n0_ : Aside0 (((((((((((w8.setCell ⟨gb301, 0, none⟩ (.int .i64 t291)).setCell ⟨gb301, 1, none⟩ (.int .i64 t292)).setCell ⟨gb301, 2, none⟩ (.int .i64 t293)).setCell ⟨gb301, 3, none⟩ (.int .i64 t294)).setCell ⟨gb301, 4, none⟩ (.int .i64 t295)).setCell ⟨gb301, 5, none⟩ (.int .i64 t296)).setCell ⟨gb301, 6, none⟩ (.bool t297)).setCell ⟨gb301, 7, none⟩ (.int .i64 t298)).setCell ⟨gb301, 8, none⟩ (.int .u32 t299)).setCell ⟨gb301, 9, none⟩ (.int .u32 t300)).heap[gb301]? = some (.cells #[.int .i64 t291, .int .i64 t292, .int .i64 t293, .int .i64 t294, .int .i64 t295, .int .i64 t296, .bool t297, .int .i64 t298, .int .u32 t299, .int .u32 t300] 25 (0, 0))) := ⟨by (with_reducible repeat (first | refine blk_drewN ?_ _ | refine blk_drew ?_ | refine blk_alloc ?_ _)); refine blk_put (cs := #[.int .i64 t291, .int .i64 t292, .int .i64 t293, .int .i64 t294, .int .i64 t295, .int .i64 t296, .bool t297, .int .i64 t298, .int .u32 t299, .int .u32 0]) ?_ 9 _ rfl; (with_reducible repeat (first | refine blk_drewN ?_ _ | refine blk_drew ?_ | refine blk_alloc ?_ _)); refine blk_put (cs := #[.int .i64 t291, .int .i64 t292, .int .i64 t293, .int .i64 t294, .int .i64 t295, .int .i64 t296, .bool t297, .int .i64 t298, .int .u32 0, .int .u32 0]) ?_ 8 _ rfl; (with_reducible repeat (first | refine blk_drewN ?_ _ | refine blk_drew ?_ | refine blk_alloc ?_ _)); refine blk_put (cs := #[.int .i64 t291, .int .i64 t292, .int .i64 t293, .int .i64 t294, .int .i64 t295, .int .i64 t296, .bool t297, .int .i64 0, .int .u32 0, .int .u32 0]) ?_ 7 _ rfl; (with_reducible repeat (first | refine blk_drewN ?_ _ | refine blk_drew ?_ | refine blk_alloc ?_ _)); refine blk_put (cs := #[.int .i64 t291, .int .i64 t292, .int .i64 t293, .int .i64 t294, .int .i64 t295, .int .i64 t296, .bool false, .int .i64 0, .int .u32 0, .int .u32 0]) ?_ 6 _ rfl; (with_reducible repeat (first | refine blk_drewN ?_ _ | refine blk_drew ?_ | refine blk_alloc ?_ _)); refine blk_put (cs := #[.int .i64 t291, .int .i64 t292, .int .i64 t293, .int .i64 t294, .int .i64 t295, .int .i64 0, .bool false, .int .i64 0, .int .u32 0, .int .u32 0]) ?_ 5 _ rfl; (with_reducible repeat (first | refine blk_drewN ?_ _ | refine blk_drew ?_ | refine blk_alloc ?_ _)); refine blk_put (cs := #[.int .i64 t291, .int .i64 t292, .int .i64 t293, .int .i64 t294, .int .i64 0, .int .i64 0, .bool false, .int .i64 0, .int .u32 0, .int .u32 0]) ?_ 4 _ rfl; (with_reducible repeat (first | refine blk_drewN ?_ _ | refine blk_drew ?_ | refine blk_alloc ?_ _)); refine blk_put (cs := #[.int .i64 t291, .int .i64 t292, .int .i64 t293, .int .i64 0, .int .i64 0, .int .i64 0, .bool false, .int .i64 0, .int .u32 0, .int .u32 0]) ?_ 3 _ rfl; (with_reducible repeat (first | refine blk_drewN ?_ _ | refine blk_drew ?_ | refine blk_alloc ?_ _)); refine blk_put (cs := #[.int .i64 t291, .int .i64 t292, .int .i64 0, .int .i64 0, .int .i64 0, .int .i64 0, .bool false, .int .i64 0, .int .u32 0, .int .u32 0]) ?_ 2 _ rfl; (with_reducible repeat (first | refine blk_drewN ?_ _ | refine blk_drew ?_ | refine blk_alloc ?_ _)); refine blk_put (cs := #[.int .i64 t291, .int .i64 0, .int .i64 0, .int .i64 0, .int .i64 0, .int .i64 0, .bool false, .int .i64 0, .int .u32 0, .int .u32 0]) ?_ 1 _ rfl; (with_reducible repeat (first | refine blk_drewN ?_ _ | refine blk_drew ?_ | refine blk_alloc ?_ _)); refine blk_put (cs := #[.int .i64 0, .int .i64 0, .int .i64 0, .int .i64 0, .int .i64 0, .int .i64 0, .bool false, .int .i64 0, .int .u32 0, .int .u32 0]) ?_ 0 _ rfl; (with_reducible repeat (first | refine blk_drewN ?_ _ | refine blk_drew ?_ | refine blk_alloc ?_ _)); exact BK301.out⟩
          have n1_ : Aside0 (Below w.heap.size w ((((((((((w8.setCell ⟨gb301, 0, none⟩ (.int .i64 t291)).setCell ⟨gb301, 1, none⟩ (.int .i64 t292)).setCell ⟨gb301, 2, none⟩ (.int .i64 t293)).setCell ⟨gb301, 3, none⟩ (.int .i64 t294)).setCell ⟨gb301, 4, none⟩ (.int .i64 t295)).setCell ⟨gb301, 5, none⟩ (.int .i64 t296)).setCell ⟨gb301, 6, none⟩ (.bool t297)).setCell ⟨gb301, 7, none⟩ (.int .i64 t298)).setCell ⟨gb301, 8, none⟩ (.int .u32 t299)).setCell ⟨gb301, 9, none⟩ (.int .u32 t300))) := ⟨by repeat (first | (with_reducible first | exact HB.out | apply below_alloc | apply pw_below_drewN | apply below_drew1 | refine below_set ?_ GE301.out) | exact HB.out)⟩
          (try clear BK301)
          (try clear HB)
          generalize ((((((((((w8.setCell ⟨gb301, 0, none⟩ (.int .i64 t291)).setCell ⟨gb301, 1, none⟩ (.int .i64 t292)).setCell ⟨gb301, 2, none⟩ (.int .i64 t293)).setCell ⟨gb301, 3, none⟩ (.int .i64 t294)).setCell ⟨gb301, 4, none⟩ (.int .i64 t295)).setCell ⟨gb301, 5, none⟩ (.int .i64 t296)).setCell ⟨gb301, 6, none⟩ (.bool t297)).setCell ⟨gb301, 7, none⟩ (.int .i64 t298)).setCell ⟨gb301, 8, none⟩ (.int .u32 t299)).setCell ⟨gb301, 9, none⟩ (.int .u32 t300)) = w13 at n0_ n1_ ⊢
          have BK301 := n0_
          have HB := n1_
          clear n0_ n1_
          have n0_ := Aside0.mk (blk_drew BK301.out)
          have n1_ := Aside0.mk (below_drew1 HB.out)
          clear BK301
          clear HB
          have BK301 := n0_
          have HB := n1_
          clear n0_ n1_
          refine start_ (n := 22) (S := fun w' => w'.cell? ⟨gb301, 0, none⟩ = some (.int .i64 t291) ∧ w'.cell? ⟨gb301, 1, none⟩ = some (.int .i64 t292) ∧ w'.cell? ⟨gb301, 2, none⟩ = some (.int .i64 t293) ∧ w'.cell? ⟨gb301, 3, none⟩ = some (.int .i64 t294) ∧ w'.cell? ⟨gb301, 4, none⟩ = some (.int .i64 t295) ∧ w'.cell? ⟨gb301, 5, none⟩ = some (.int .i64 t296) ∧ w'.cell? ⟨gb301, 6, none⟩ = some (.bool t297) ∧ w'.cell? ⟨gb301, 7, none⟩ = some (.int .i64 t298) ∧ w'.cell? ⟨gb301, 8, none⟩ = some (.int .u32 t299) ∧ w'.cell? ⟨gb301, 9, none⟩ = some (.int .u32 t300)) (ds := []) #[false, false, false, false, false, false, false, false, false, false, false, false, false, false, false, false, false, false, false, false, false, false] (by kernel_rfl) rfl rfl ⟨(blk_cell BK301.out 0).trans rfl, (blk_cell BK301.out 1).trans rfl, (blk_cell BK301.out 2).trans rfl, (blk_cell BK301.out 3).trans rfl, (blk_cell BK301.out 4).trans rfl, (blk_cell BK301.out 5).trans rfl, (blk_cell BK301.out 6).trans rfl, (blk_cell BK301.out 7).trans rfl, (blk_cell BK301.out 8).trans rfl, (blk_cell BK301.out 9).trans rfl⟩ (fun hHeld => ?_); refine with_tabW capnplaw02_PointerKinds.tab4 capnplaw02_PointerKinds.bits4 (fun HT_ HW_ => ?_)
          generalize w13.drew = w14 at BK301 HB hHeld ⊢
          refine pure_ (i := 0) (N := some 8) (v := ?_) (a' := ?_) #[true, false, false, false, false, false, false, false, false, false, false, false, false, false, false, false, false, false, false, false, false, false] rfl rfl (any_of HT_.out (by kernel_rfl)) (fun _ _ _ h => h) (Or.inl ⟨by rfl, ?_⟩) ?_ ?_
          rotate_left
          · intro w'
            go_simp
            with_reducible rfl
          rotate_left
          · simp only [Act.put, List.setIfInBounds_toArray, List.set_cons_zero, List.set_cons_succ, i64_w, i32_w]
            rfl
          refine pure_ (i := 2) (N := some 10) (v := ?_) (a' := ?_) #[true, false, true, false, false, false, false, false, false, false, false, false, false, false, false, false, false, false, false, false, false, false] rfl rfl (any_of HT_.out (by kernel_rfl)) (fun _ _ _ h => h) (Or.inl ⟨by rfl, ?_⟩) ?_ ?_
          rotate_left
          · intro w'
            go_simp
            with_reducible rfl
          rotate_left
          · simp only [Act.put, List.setIfInBounds_toArray, List.set_cons_zero, List.set_cons_succ, i64_w, i32_w]
            rfl
          refine pure_ (i := 3) (N := some 11) (v := ?_) (a' := ?_) #[true, false, true, true, false, false, false, false, false, false, false, false, false, false, false, false, false, false, false, false, false, false] rfl rfl (any_of HT_.out (by kernel_rfl)) (fun _ _ _ h => h) (Or.inl ⟨by rfl, ?_⟩) ?_ ?_
          rotate_left
          · intro w'
            go_simp
            with_reducible rfl
          rotate_left
          · simp only [Act.put, List.setIfInBounds_toArray, List.set_cons_zero, List.set_cons_succ, i64_w, i32_w]
            rfl
          refine pure_ (i := 4) (N := some 12) (v := ?_) (a' := ?_) #[true, false, true, true, true, false, false, false, false, false, false, false, false, false, false, false, false, false, false, false, false, false] rfl rfl (any_of HT_.out (by kernel_rfl)) (fun _ _ _ h => h) (Or.inl ⟨by rfl, ?_⟩) ?_ ?_
          rotate_left
          · intro w'
            go_simp
            with_reducible rfl
          rotate_left
          · simp only [Act.put, List.setIfInBounds_toArray, List.set_cons_zero, List.set_cons_succ, i64_w, i32_w]
            rfl
          refine take_ (i := 1) (N := some 9) (v := ?_) (a' := ?_) #[true, true, true, true, true, false, false, false, false, false, false, false, false, false, false, false, false, false, false, false, false, false] rfl rfl (take_ofW HT_.out HW_.out (by kernel_rfl)) (fun _ _ _ h => h) (Or.inl ⟨by rfl, ?_⟩) hHeld ?_ ?_
          rotate_left
          · rintro w' ⟨s0, s1, s2, s3, s4, s5, s6, s7, s8, s9⟩
            go_simp
            with_reducible rfl
          rotate_left
          · simp only [Act.put, List.setIfInBounds_toArray, List.set_cons_zero, List.set_cons_succ, i64_w, i32_w]
            rfl
          refine pure_ (i := 5) (N := some 13) (v := ?_) (a' := ?_) #[true, true, true, true, true, true, false, false, false, false, false, false, false, false, false, false, false, false, false, false, false, false] rfl rfl (any_of HT_.out (by kernel_rfl)) (fun _ _ _ h => h) (Or.inl ⟨by rfl, ?_⟩) ?_ ?_
          rotate_left
          · intro w'
            go_simp
            with_reducible rfl
          rotate_left
          · simp only [Act.put, List.setIfInBounds_toArray, List.set_cons_zero, List.set_cons_succ, i64_w, i32_w]
            rfl
          refine pure_ (i := 6) (N := some 14) (v := ?_) (a' := ?_) #[true, true, true, true, true, true, true, false, false, false, false, false, false, false, false, false, false, false, false, false, false, false] rfl rfl (any_of HT_.out (by kernel_rfl)) (fun _ _ _ h => h) (Or.inl ⟨by rfl, ?_⟩) ?_ ?_
          rotate_left
          · intro w'
            go_simp
            with_reducible rfl
          rotate_left
          · simp only [Act.put, List.setIfInBounds_toArray, List.set_cons_zero, List.set_cons_succ, i64_w, i32_w]
            rfl
          refine pure_ (i := 7) (N := some 15) (v := ?_) (a' := ?_) #[true, true, true, true, true, true, true, true, false, false, false, false, false, false, false, false, false, false, false, false, false, false] rfl rfl (any_of HT_.out (by kernel_rfl)) (fun _ _ _ h => h) (Or.inl ⟨by rfl, ?_⟩) ?_ ?_
          rotate_left
          · intro w'
            go_simp
            with_reducible rfl
          rotate_left
          · simp only [Act.put, List.setIfInBounds_toArray, List.set_cons_zero, List.set_cons_succ, i64_w, i32_w]
            rfl
          refine pure_ (i := 10) (N := some 18) (v := ?_) (a' := ?_) #[true, true, true, true, true, true, true, true, false, false, true, false, false, false, false, false, false, false, false, false, false, false] rfl rfl (any_of HT_.out (by kernel_rfl)) (fun _ _ _ h => h) (Or.inl ⟨by rfl, ?_⟩) ?_ ?_
          rotate_left
          · intro w'
            go_simp
            with_reducible rfl
          rotate_left
          · simp only [Act.put, List.setIfInBounds_toArray, List.set_cons_zero, List.set_cons_succ, i64_w, i32_w]
            rfl
          refine take_ (i := 9) (N := some 17) (v := ?_) (a' := ?_) #[true, true, true, true, true, true, true, true, false, true, true, false, false, false, false, false, false, false, false, false, false, false] rfl rfl (take_ofW HT_.out HW_.out (by kernel_rfl)) (fun _ _ _ h => h) (Or.inl ⟨by rfl, ?_⟩) hHeld ?_ ?_
          rotate_left
          · rintro w' ⟨s0, s1, s2, s3, s4, s5, s6, s7, s8, s9⟩
            go_simp
            with_reducible rfl
          rotate_left
          · simp only [Act.put, List.setIfInBounds_toArray, List.set_cons_zero, List.set_cons_succ, i64_w, i32_w]
            rfl
          refine pure_ (i := 11) (N := some 19) (v := ?_) (a' := ?_) #[true, true, true, true, true, true, true, true, false, true, true, true, false, false, false, false, false, false, false, false, false, false] rfl rfl (any_of HT_.out (by kernel_rfl)) (fun _ _ _ h => h) (Or.inl ⟨by rfl, ?_⟩) ?_ ?_
          rotate_left
          · intro w'
            go_simp
            with_reducible rfl
          rotate_left
          · simp only [Act.put, List.setIfInBounds_toArray, List.set_cons_zero, List.set_cons_succ, i64_w, i32_w]
            rfl
          refine one_ (i := 8) (N := some 16) #[true, true, true, true, true, true, true, true, true, true, true, true, false, false, false, false, false, false, false, false, false, false] rfl rfl (one_of HT_.out (by kernel_rfl)) (by decide) (fun K hK => ?_)
          refine goes_ Tryd.func15 (by kernel_rfl) rfl #[.int .u64 a0] (by rfl) rfl rfl (by (try simp only [List.map_toArray, List.map_cons, List.map_nil]); first | done | rfl | (simp only [List.length_drop, List.length_take]; rfl)) ?_
          with_reducible refine (pointer_IsNull.calls a0 t302 _ A11.out).mono ?_
          rintro e w' ⟨rfl, ⟨nd, rfl⟩⟩
          refine ⟨_, rfl, ?_⟩
          refine hK.out _ _ ⟨(blk_cell BK301.out 0).trans rfl, (blk_cell BK301.out 1).trans rfl, (blk_cell BK301.out 2).trans rfl, (blk_cell BK301.out 3).trans rfl, (blk_cell BK301.out 4).trans rfl, (blk_cell BK301.out 5).trans rfl, (blk_cell BK301.out 6).trans rfl, (blk_cell BK301.out 7).trans rfl, (blk_cell BK301.out 8).trans rfl, (blk_cell BK301.out 9).trans rfl⟩ (fun hHeld => ?_)
          clear hK K
          refine norm_ (a' := ?_) ?_ ?_
          rotate_left
          · show Act.put _ (some 16) _ = _
            simp only [Act.put, List.setIfInBounds_toArray, List.set_cons_zero, List.set_cons_succ, i64_w, i32_w]
            rfl
          refine pure_ (i := 12) (N := some 20) (v := ?_) (a' := ?_) #[true, true, true, true, true, true, true, true, true, true, true, true, true, false, false, false, false, false, false, false, false, false] rfl rfl (any_of HT_.out (by kernel_rfl)) (fun _ _ _ h => h) (Or.inl ⟨by rfl, ?_⟩) ?_ ?_
          rotate_left
          · intro w'
            go_simp
            with_reducible rfl
          rotate_left
          · simp only [Act.put, List.setIfInBounds_toArray, List.set_cons_zero, List.set_cons_succ, i64_w, i32_w]
            rfl
          refine pure_ (i := 13) (N := some 21) (v := ?_) (a' := ?_) #[true, true, true, true, true, true, true, true, true, true, true, true, true, true, false, false, false, false, false, false, false, false] rfl rfl (any_of HT_.out (by kernel_rfl)) (fun _ _ _ h => h) (Or.inl ⟨by rfl, ?_⟩) ?_ ?_
          rotate_left
          · intro w'
            go_simp
            with_reducible rfl
          rotate_left
          · simp only [Act.put, List.setIfInBounds_toArray, List.set_cons_zero, List.set_cons_succ, i64_w, i32_w]
            rfl
          refine pure_ (i := 14) (N := some 22) (v := ?_) (a' := ?_) #[true, true, true, true, true, true, true, true, true, true, true, true, true, true, true, false, false, false, false, false, false, false] rfl rfl (any_of HT_.out (by kernel_rfl)) (fun _ _ _ h => h) (Or.inl ⟨by rfl, ?_⟩) ?_ ?_
          rotate_left
          · intro w'
            go_simp
            with_reducible rfl
          rotate_left
          · simp only [Act.put, List.setIfInBounds_toArray, List.set_cons_zero, List.set_cons_succ, i64_w, i32_w]
            rfl
          refine pure_ (i := 15) (N := some 23) (v := undef) (a' := ?_) #[true, true, true, true, true, true, true, true, true, true, true, true, true, true, true, true, false, false, false, false, false, false] rfl rfl (any_of HT_.out (by kernel_rfl)) (fun _ _ _ h => h) (Or.inr ⟨by rfl, rfl⟩) ?_ ?_
          rotate_left
          · simp only [Act.put, List.setIfInBounds_toArray, List.set_cons_zero, List.set_cons_succ, i64_w, i32_w]
            rfl
          refine pure_ (i := 16) (N := some 24) (v := undef) (a' := ?_) #[true, true, true, true, true, true, true, true, true, true, true, true, true, true, true, true, true, false, false, false, false, false] rfl rfl (any_of HT_.out (by kernel_rfl)) (fun _ _ _ h => h) (Or.inr ⟨by rfl, rfl⟩) ?_ ?_
          rotate_left
          · simp only [Act.put, List.setIfInBounds_toArray, List.set_cons_zero, List.set_cons_succ, i64_w, i32_w]
            rfl
          refine pure_ (i := 17) (N := some 25) (v := undef) (a' := ?_) #[true, true, true, true, true, true, true, true, true, true, true, true, true, true, true, true, true, true, false, false, false, false] rfl rfl (any_of HT_.out (by kernel_rfl)) (fun _ _ _ h => h) (Or.inr ⟨by rfl, rfl⟩) ?_ ?_
          rotate_left
          · simp only [Act.put, List.setIfInBounds_toArray, List.set_cons_zero, List.set_cons_succ, i64_w, i32_w]
            rfl
          refine pure_ (i := 18) (N := some 26) (v := undef) (a' := ?_) #[true, true, true, true, true, true, true, true, true, true, true, true, true, true, true, true, true, true, true, false, false, false] rfl rfl (any_of HT_.out (by kernel_rfl)) (fun _ _ _ h => h) (Or.inr ⟨by rfl, rfl⟩) ?_ ?_
          rotate_left
          · simp only [Act.put, List.setIfInBounds_toArray, List.set_cons_zero, List.set_cons_succ, i64_w, i32_w]
            rfl
          refine pure_ (i := 19) (N := some 27) (v := undef) (a' := ?_) #[true, true, true, true, true, true, true, true, true, true, true, true, true, true, true, true, true, true, true, true, false, false] rfl rfl (any_of HT_.out (by kernel_rfl)) (fun _ _ _ h => h) (Or.inr ⟨by rfl, rfl⟩) ?_ ?_
          rotate_left
          · simp only [Act.put, List.setIfInBounds_toArray, List.set_cons_zero, List.set_cons_succ, i64_w, i32_w]
            rfl
          refine pure_ (i := 20) (N := some 28) (v := undef) (a' := ?_) #[true, true, true, true, true, true, true, true, true, true, true, true, true, true, true, true, true, true, true, true, true, false] rfl rfl (any_of HT_.out (by kernel_rfl)) (fun _ _ _ h => h) (Or.inr ⟨by rfl, rfl⟩) ?_ ?_
          rotate_left
          · simp only [Act.put, List.setIfInBounds_toArray, List.set_cons_zero, List.set_cons_succ, i64_w, i32_w]
            rfl
          refine pure_ (i := 21) (N := some 29) (v := ?_) (a' := ?_) #[true, true, true, true, true, true, true, true, true, true, true, true, true, true, true, true, true, true, true, true, true, true] rfl rfl (any_of HT_.out (by kernel_rfl)) (fun _ _ _ h => h) (Or.inl ⟨by rfl, ?_⟩) ?_ ?_
          rotate_left
          · intro w'
            go_simp
            with_reducible rfl
          rotate_left
          · simp only [Act.put, List.setIfInBounds_toArray, List.set_cons_zero, List.set_cons_succ, i64_w, i32_w]
            rfl
          refine done_ (done_of HT_.out (by kernel_rfl)) ?_
          try go_wp2
          go_meet
          case rel => exact ⟨_, (true), (by first | rfl | (simp; done) | (simp [*]; done)), H', ⟨by first | omega | exact Nat.le_refl _⟩, ⟨by (with_reducible repeat (first | refine blk_drewN ?_ _ | refine blk_drew ?_ | refine blk_alloc ?_ _)); exact BK301.out⟩, ⟨by repeat (first | (with_reducible first | exact HB.out | apply below_alloc | apply pw_below_drewN | apply below_drew1 | refine below_set ?_ GE301.out) | exact HB.out)⟩⟩
        · rw [if_neg c12] at H
          have c12b0 : (t302 != (t291 == 0 && (t292 == 0 && (t293 == 0 && (t294 == 0 && (t295 == 0 && (t296 == 0 && (!t297 && (t298 == 0 && (t299 == 0 && (t300 == 0))))))))))) = false := by simpa using c12
          (try (have c12b1 : decide (t302 = (t291 == 0 && (t292 == 0 && (t293 == 0 && (t294 == 0 && (t295 == 0 && (t296 == 0 && (!t297 && (t298 == 0 && (t299 == 0 && (t300 == 0))))))))))) = true := by simpa using c12))
          (try (have c12b2 : (t302 == (t291 == 0 && (t292 == 0 && (t293 == 0 && (t294 == 0 && (t295 == 0 && (t296 == 0 && (!t297 && (t298 == 0 && (t299 == 0 && (t300 == 0))))))))))) = true := by simpa using c12))
          clear c12
          replace H := Option.bind_eq_some_iff.mp H
          obtain ⟨t303, A150, H⟩ := H
          replace H : (capnplaw02_PointerKinds.j0 k a0 (t303 != ((Int.tmod a0 4294967296) == 3)) t291 t292 t293 t294 t295 t296 t297 t298 t299 t300) = some r := H
          have A15 := Aside0.mk A150
          clear A150
          have H' := Aside0.mk H
          clear H
          try go_wp2
          have n0_ : Aside0 (((((((((((w8.setCell ⟨gb301, 0, none⟩ (.int .i64 t291)).setCell ⟨gb301, 1, none⟩ (.int .i64 t292)).setCell ⟨gb301, 2, none⟩ (.int .i64 t293)).setCell ⟨gb301, 3, none⟩ (.int .i64 t294)).setCell ⟨gb301, 4, none⟩ (.int .i64 t295)).setCell ⟨gb301, 5, none⟩ (.int .i64 t296)).setCell ⟨gb301, 6, none⟩ (.bool t297)).setCell ⟨gb301, 7, none⟩ (.int .i64 t298)).setCell ⟨gb301, 8, none⟩ (.int .u32 t299)).setCell ⟨gb301, 9, none⟩ (.int .u32 t300)).heap[gb301]? = some (.cells #[.int .i64 t291, .int .i64 t292, .int .i64 t293, .int .i64 t294, .int .i64 t295, .int .i64 t296, .bool t297, .int .i64 t298, .int .u32 t299, .int .u32 t300] 25 (0, 0))) := ⟨by (with_reducible repeat (first | refine blk_drewN ?_ _ | refine blk_drew ?_ | refine blk_alloc ?_ _)); refine blk_put (cs := #[.int .i64 t291, .int .i64 t292, .int .i64 t293, .int .i64 t294, .int .i64 t295, .int .i64 t296, .bool t297, .int .i64 t298, .int .u32 t299, .int .u32 0]) ?_ 9 _ rfl; (with_reducible repeat (first | refine blk_drewN ?_ _ | refine blk_drew ?_ | refine blk_alloc ?_ _)); refine blk_put (cs := #[.int .i64 t291, .int .i64 t292, .int .i64 t293, .int .i64 t294, .int .i64 t295, .int .i64 t296, .bool t297, .int .i64 t298, .int .u32 0, .int .u32 0]) ?_ 8 _ rfl; (with_reducible repeat (first | refine blk_drewN ?_ _ | refine blk_drew ?_ | refine blk_alloc ?_ _)); refine blk_put (cs := #[.int .i64 t291, .int .i64 t292, .int .i64 t293, .int .i64 t294, .int .i64 t295, .int .i64 t296, .bool t297, .int .i64 0, .int .u32 0, .int .u32 0]) ?_ 7 _ rfl; (with_reducible repeat (first | refine blk_drewN ?_ _ | refine blk_drew ?_ | refine blk_alloc ?_ _)); refine blk_put (cs := #[.int .i64 t291, .int .i64 t292, .int .i64 t293, .int .i64 t294, .int .i64 t295, .int .i64 t296, .bool false, .int .i64 0, .int .u32 0, .int .u32 0]) ?_ 6 _ rfl; (with_reducible repeat (first | refine blk_drewN ?_ _ | refine blk_drew ?_ | refine blk_alloc ?_ _)); refine blk_put (cs := #[.int .i64 t291, .int .i64 t292, .int .i64 t293, .int .i64 t294, .int .i64 t295, .int .i64 0, .bool false, .int .i64 0, .int .u32 0, .int .u32 0]) ?_ 5 _ rfl; (with_reducible repeat (first | refine blk_drewN ?_ _ | refine blk_drew ?_ | refine blk_alloc ?_ _)); refine blk_put (cs := #[.int .i64 t291, .int .i64 t292, .int .i64 t293, .int .i64 t294, .int .i64 0, .int .i64 0, .bool false, .int .i64 0, .int .u32 0, .int .u32 0]) ?_ 4 _ rfl; (with_reducible repeat (first | refine blk_drewN ?_ _ | refine blk_drew ?_ | refine blk_alloc ?_ _)); refine blk_put (cs := #[.int .i64 t291, .int .i64 t292, .int .i64 t293, .int .i64 0, .int .i64 0, .int .i64 0, .bool false, .int .i64 0, .int .u32 0, .int .u32 0]) ?_ 3 _ rfl; (with_reducible repeat (first | refine blk_drewN ?_ _ | refine blk_drew ?_ | refine blk_alloc ?_ _)); refine blk_put (cs := #[.int .i64 t291, .int .i64 t292, .int .i64 0, .int .i64 0, .int .i64 0, .int .i64 0, .bool false, .int .i64 0, .int .u32 0, .int .u32 0]) ?_ 2 _ rfl; (with_reducible repeat (first | refine blk_drewN ?_ _ | refine blk_drew ?_ | refine blk_alloc ?_ _)); refine blk_put (cs := #[.int .i64 t291, .int .i64 0, .int .i64 0, .int .i64 0, .int .i64 0, .int .i64 0, .bool false, .int .i64 0, .int .u32 0, .int .u32 0]) ?_ 1 _ rfl; (with_reducible repeat (first | refine blk_drewN ?_ _ | refine blk_drew ?_ | refine blk_alloc ?_ _)); refine blk_put (cs := #[.int .i64 0, .int .i64 0, .int .i64 0, .int .i64 0, .int .i64 0, .int .i64 0, .bool false, .int .i64 0, .int .u32 0, .int .u32 0]) ?_ 0 _ rfl; (with_reducible repeat (first | refine blk_drewN ?_ _ | refine blk_drew ?_ | refine blk_alloc ?_ _)); exact BK301.out⟩
          have n1_ : Aside0 (Below w.heap.size w ((((((((((w8.setCell ⟨gb301, 0, none⟩ (.int .i64 t291)).setCell ⟨gb301, 1, none⟩ (.int .i64 t292)).setCell ⟨gb301, 2, none⟩ (.int .i64 t293)).setCell ⟨gb301, 3, none⟩ (.int .i64 t294)).setCell ⟨gb301, 4, none⟩ (.int .i64 t295)).setCell ⟨gb301, 5, none⟩ (.int .i64 t296)).setCell ⟨gb301, 6, none⟩ (.bool t297)).setCell ⟨gb301, 7, none⟩ (.int .i64 t298)).setCell ⟨gb301, 8, none⟩ (.int .u32 t299)).setCell ⟨gb301, 9, none⟩ (.int .u32 t300))) := ⟨by repeat (first | (with_reducible first | exact HB.out | apply below_alloc | apply pw_below_drewN | apply below_drew1 | refine below_set ?_ GE301.out) | exact HB.out)⟩
          (try clear BK301)
          (try clear HB)
          generalize ((((((((((w8.setCell ⟨gb301, 0, none⟩ (.int .i64 t291)).setCell ⟨gb301, 1, none⟩ (.int .i64 t292)).setCell ⟨gb301, 2, none⟩ (.int .i64 t293)).setCell ⟨gb301, 3, none⟩ (.int .i64 t294)).setCell ⟨gb301, 4, none⟩ (.int .i64 t295)).setCell ⟨gb301, 5, none⟩ (.int .i64 t296)).setCell ⟨gb301, 6, none⟩ (.bool t297)).setCell ⟨gb301, 7, none⟩ (.int .i64 t298)).setCell ⟨gb301, 8, none⟩ (.int .u32 t299)).setCell ⟨gb301, 9, none⟩ (.int .u32 t300)) = w16 at n0_ n1_ ⊢
          have BK301 := n0_
          have HB := n1_
          clear n0_ n1_
          have n0_ := Aside0.mk (blk_drew BK301.out)
          have n1_ := Aside0.mk (below_drew1 HB.out)
          clear BK301
          clear HB
          have BK301 := n0_
          have HB := n1_
          clear n0_ n1_
          refine start_ (n := 22) (S := fun w' => w'.cell? ⟨gb301, 0, none⟩ = some (.int .i64 t291) ∧ w'.cell? ⟨gb301, 1, none⟩ = some (.int .i64 t292) ∧ w'.cell? ⟨gb301, 2, none⟩ = some (.int .i64 t293) ∧ w'.cell? ⟨gb301, 3, none⟩ = some (.int .i64 t294) ∧ w'.cell? ⟨gb301, 4, none⟩ = some (.int .i64 t295) ∧ w'.cell? ⟨gb301, 5, none⟩ = some (.int .i64 t296) ∧ w'.cell? ⟨gb301, 6, none⟩ = some (.bool t297) ∧ w'.cell? ⟨gb301, 7, none⟩ = some (.int .i64 t298) ∧ w'.cell? ⟨gb301, 8, none⟩ = some (.int .u32 t299) ∧ w'.cell? ⟨gb301, 9, none⟩ = some (.int .u32 t300)) (ds := []) #[false, false, false, false, false, false, false, false, false, false, false, false, false, false, false, false, false, false, false, false, false, false] (by kernel_rfl) rfl rfl ⟨(blk_cell BK301.out 0).trans rfl, (blk_cell BK301.out 1).trans rfl, (blk_cell BK301.out 2).trans rfl, (blk_cell BK301.out 3).trans rfl, (blk_cell BK301.out 4).trans rfl, (blk_cell BK301.out 5).trans rfl, (blk_cell BK301.out 6).trans rfl, (blk_cell BK301.out 7).trans rfl, (blk_cell BK301.out 8).trans rfl, (blk_cell BK301.out 9).trans rfl⟩ (fun hHeld => ?_); refine with_tabW capnplaw02_PointerKinds.tab4 capnplaw02_PointerKinds.bits4 (fun HT_ HW_ => ?_)
          generalize w16.drew = w17 at BK301 HB hHeld ⊢
          refine pure_ (i := 0) (N := some 8) (v := ?_) (a' := ?_) #[true, false, false, false, false, false, false, false, false, false, false, false, false, false, false, false, false, false, false, false, false, false] rfl rfl (any_of HT_.out (by kernel_rfl)) (fun _ _ _ h => h) (Or.inl ⟨by rfl, ?_⟩) ?_ ?_
          rotate_left
          · intro w'
            go_simp
            with_reducible rfl
          rotate_left
          · simp only [Act.put, List.setIfInBounds_toArray, List.set_cons_zero, List.set_cons_succ, i64_w, i32_w]
            rfl
          refine pure_ (i := 2) (N := some 10) (v := ?_) (a' := ?_) #[true, false, true, false, false, false, false, false, false, false, false, false, false, false, false, false, false, false, false, false, false, false] rfl rfl (any_of HT_.out (by kernel_rfl)) (fun _ _ _ h => h) (Or.inl ⟨by rfl, ?_⟩) ?_ ?_
          rotate_left
          · intro w'
            go_simp
            with_reducible rfl
          rotate_left
          · simp only [Act.put, List.setIfInBounds_toArray, List.set_cons_zero, List.set_cons_succ, i64_w, i32_w]
            rfl
          refine pure_ (i := 3) (N := some 11) (v := ?_) (a' := ?_) #[true, false, true, true, false, false, false, false, false, false, false, false, false, false, false, false, false, false, false, false, false, false] rfl rfl (any_of HT_.out (by kernel_rfl)) (fun _ _ _ h => h) (Or.inl ⟨by rfl, ?_⟩) ?_ ?_
          rotate_left
          · intro w'
            go_simp
            with_reducible rfl
          rotate_left
          · simp only [Act.put, List.setIfInBounds_toArray, List.set_cons_zero, List.set_cons_succ, i64_w, i32_w]
            rfl
          refine pure_ (i := 4) (N := some 12) (v := ?_) (a' := ?_) #[true, false, true, true, true, false, false, false, false, false, false, false, false, false, false, false, false, false, false, false, false, false] rfl rfl (any_of HT_.out (by kernel_rfl)) (fun _ _ _ h => h) (Or.inl ⟨by rfl, ?_⟩) ?_ ?_
          rotate_left
          · intro w'
            go_simp
            with_reducible rfl
          rotate_left
          · simp only [Act.put, List.setIfInBounds_toArray, List.set_cons_zero, List.set_cons_succ, i64_w, i32_w]
            rfl
          refine take_ (i := 1) (N := some 9) (v := ?_) (a' := ?_) #[true, true, true, true, true, false, false, false, false, false, false, false, false, false, false, false, false, false, false, false, false, false] rfl rfl (take_ofW HT_.out HW_.out (by kernel_rfl)) (fun _ _ _ h => h) (Or.inl ⟨by rfl, ?_⟩) hHeld ?_ ?_
          rotate_left
          · rintro w' ⟨s0, s1, s2, s3, s4, s5, s6, s7, s8, s9⟩
            go_simp
            with_reducible rfl
          rotate_left
          · simp only [Act.put, List.setIfInBounds_toArray, List.set_cons_zero, List.set_cons_succ, i64_w, i32_w]
            rfl
          refine pure_ (i := 5) (N := some 13) (v := ?_) (a' := ?_) #[true, true, true, true, true, true, false, false, false, false, false, false, false, false, false, false, false, false, false, false, false, false] rfl rfl (any_of HT_.out (by kernel_rfl)) (fun _ _ _ h => h) (Or.inl ⟨by rfl, ?_⟩) ?_ ?_
          rotate_left
          · intro w'
            go_simp
            with_reducible rfl
          rotate_left
          · simp only [Act.put, List.setIfInBounds_toArray, List.set_cons_zero, List.set_cons_succ, i64_w, i32_w]
            rfl
          refine pure_ (i := 6) (N := some 14) (v := ?_) (a' := ?_) #[true, true, true, true, true, true, true, false, false, false, false, false, false, false, false, false, false, false, false, false, false, false] rfl rfl (any_of HT_.out (by kernel_rfl)) (fun _ _ _ h => h) (Or.inl ⟨by rfl, ?_⟩) ?_ ?_
          rotate_left
          · intro w'
            go_simp
            with_reducible rfl
          rotate_left
          · simp only [Act.put, List.setIfInBounds_toArray, List.set_cons_zero, List.set_cons_succ, i64_w, i32_w]
            rfl
          refine pure_ (i := 7) (N := some 15) (v := ?_) (a' := ?_) #[true, true, true, true, true, true, true, true, false, false, false, false, false, false, false, false, false, false, false, false, false, false] rfl rfl (any_of HT_.out (by kernel_rfl)) (fun _ _ _ h => h) (Or.inl ⟨by rfl, ?_⟩) ?_ ?_
          rotate_left
          · intro w'
            go_simp
            with_reducible rfl
          rotate_left
          · simp only [Act.put, List.setIfInBounds_toArray, List.set_cons_zero, List.set_cons_succ, i64_w, i32_w]
            rfl
          refine pure_ (i := 10) (N := some 18) (v := ?_) (a' := ?_) #[true, true, true, true, true, true, true, true, false, false, true, false, false, false, false, false, false, false, false, false, false, false] rfl rfl (any_of HT_.out (by kernel_rfl)) (fun _ _ _ h => h) (Or.inl ⟨by rfl, ?_⟩) ?_ ?_
          rotate_left
          · intro w'
            go_simp
            with_reducible rfl
          rotate_left
          · simp only [Act.put, List.setIfInBounds_toArray, List.set_cons_zero, List.set_cons_succ, i64_w, i32_w]
            rfl
          refine take_ (i := 9) (N := some 17) (v := ?_) (a' := ?_) #[true, true, true, true, true, true, true, true, false, true, true, false, false, false, false, false, false, false, false, false, false, false] rfl rfl (take_ofW HT_.out HW_.out (by kernel_rfl)) (fun _ _ _ h => h) (Or.inl ⟨by rfl, ?_⟩) hHeld ?_ ?_
          rotate_left
          · rintro w' ⟨s0, s1, s2, s3, s4, s5, s6, s7, s8, s9⟩
            go_simp
            with_reducible rfl
          rotate_left
          · simp only [Act.put, List.setIfInBounds_toArray, List.set_cons_zero, List.set_cons_succ, i64_w, i32_w]
            rfl
          refine pure_ (i := 11) (N := some 19) (v := ?_) (a' := ?_) #[true, true, true, true, true, true, true, true, false, true, true, true, false, false, false, false, false, false, false, false, false, false] rfl rfl (any_of HT_.out (by kernel_rfl)) (fun _ _ _ h => h) (Or.inl ⟨by rfl, ?_⟩) ?_ ?_
          rotate_left
          · intro w'
            go_simp
            with_reducible rfl
          rotate_left
          · simp only [Act.put, List.setIfInBounds_toArray, List.set_cons_zero, List.set_cons_succ, i64_w, i32_w]
            rfl
          refine one_ (i := 8) (N := some 16) #[true, true, true, true, true, true, true, true, true, true, true, true, false, false, false, false, false, false, false, false, false, false] rfl rfl (one_of HT_.out (by kernel_rfl)) (by decide) (fun K hK => ?_)
          refine goes_ Tryd.func15 (by kernel_rfl) rfl #[.int .u64 a0] (by rfl) rfl rfl (by (try simp only [List.map_toArray, List.map_cons, List.map_nil]); first | done | rfl | (simp only [List.length_drop, List.length_take]; rfl)) ?_
          with_reducible refine (pointer_IsNull.calls a0 t302 _ A11.out).mono ?_
          rintro e w' ⟨rfl, ⟨nd, rfl⟩⟩
          refine ⟨_, rfl, ?_⟩
          refine hK.out _ _ ⟨(blk_cell BK301.out 0).trans rfl, (blk_cell BK301.out 1).trans rfl, (blk_cell BK301.out 2).trans rfl, (blk_cell BK301.out 3).trans rfl, (blk_cell BK301.out 4).trans rfl, (blk_cell BK301.out 5).trans rfl, (blk_cell BK301.out 6).trans rfl, (blk_cell BK301.out 7).trans rfl, (blk_cell BK301.out 8).trans rfl, (blk_cell BK301.out 9).trans rfl⟩ (fun hHeld => ?_)
          clear hK K
          refine norm_ (a' := ?_) ?_ ?_
          rotate_left
          · show Act.put _ (some 16) _ = _
            simp only [Act.put, List.setIfInBounds_toArray, List.set_cons_zero, List.set_cons_succ, i64_w, i32_w]
            rfl
          refine pure_ (i := 12) (N := some 20) (v := ?_) (a' := ?_) #[true, true, true, true, true, true, true, true, true, true, true, true, true, false, false, false, false, false, false, false, false, false] rfl rfl (any_of HT_.out (by kernel_rfl)) (fun _ _ _ h => h) (Or.inl ⟨by rfl, ?_⟩) ?_ ?_
          rotate_left
          · intro w'
            go_simp
            with_reducible rfl
          rotate_left
          · simp only [Act.put, List.setIfInBounds_toArray, List.set_cons_zero, List.set_cons_succ, i64_w, i32_w]
            rfl
          refine pure_ (i := 13) (N := some 21) (v := ?_) (a' := ?_) #[true, true, true, true, true, true, true, true, true, true, true, true, true, true, false, false, false, false, false, false, false, false] rfl rfl (any_of HT_.out (by kernel_rfl)) (fun _ _ _ h => h) (Or.inl ⟨by rfl, ?_⟩) ?_ ?_
          rotate_left
          · intro w'
            go_simp
            with_reducible rfl
          rotate_left
          · simp only [Act.put, List.setIfInBounds_toArray, List.set_cons_zero, List.set_cons_succ, i64_w, i32_w]
            rfl
          refine pure_ (i := 14) (N := some 22) (v := ?_) (a' := ?_) #[true, true, true, true, true, true, true, true, true, true, true, true, true, true, true, false, false, false, false, false, false, false] rfl rfl (any_of HT_.out (by kernel_rfl)) (fun _ _ _ h => h) (Or.inl ⟨by rfl, ?_⟩) ?_ ?_
          rotate_left
          · intro w'
            go_simp
            with_reducible rfl
          rotate_left
          · simp only [Act.put, List.setIfInBounds_toArray, List.set_cons_zero, List.set_cons_succ, i64_w, i32_w]
            rfl
          refine pure_ (i := 17) (N := some 25) (v := ?_) (a' := ?_) #[true, true, true, true, true, true, true, true, true, true, true, true, true, true, true, false, false, true, false, false, false, false] rfl rfl (any_of HT_.out (by kernel_rfl)) (fun _ _ _ h => h) (Or.inl ⟨by rfl, ?_⟩) ?_ ?_
          rotate_left
          · intro w'
            go_simp
            with_reducible rfl
          rotate_left
          · simp only [Act.put, List.setIfInBounds_toArray, List.set_cons_zero, List.set_cons_succ, i64_w, i32_w]
            rfl
          refine pure_ (i := 18) (N := some 26) (v := ?_) (a' := ?_) #[true, true, true, true, true, true, true, true, true, true, true, true, true, true, true, false, false, true, true, false, false, false] rfl rfl (any_of HT_.out (by kernel_rfl)) (fun _ _ _ h => h) (Or.inl ⟨by rfl, ?_⟩) ?_ ?_
          rotate_left
          · intro w'
            go_simp
            with_reducible rfl
          rotate_left
          · simp only [Act.put, List.setIfInBounds_toArray, List.set_cons_zero, List.set_cons_succ, i64_w, i32_w]
            rfl
          refine pure_ (i := 19) (N := some 27) (v := ?_) (a' := ?_) #[true, true, true, true, true, true, true, true, true, true, true, true, true, true, true, false, false, true, true, true, false, false] rfl rfl (any_of HT_.out (by kernel_rfl)) (fun _ _ _ h => h) (Or.inl ⟨by rfl, ?_⟩) ?_ ?_
          rotate_left
          · intro w'
            go_simp
            with_reducible rfl
          rotate_left
          · simp only [Act.put, List.setIfInBounds_toArray, List.set_cons_zero, List.set_cons_succ, i64_w, i32_w]
            rfl
          refine take_ (i := 15) (N := some 23) (v := ?_) (a' := ?_) #[true, true, true, true, true, true, true, true, true, true, true, true, true, true, true, true, false, true, true, true, false, false] rfl rfl (take_ofW HT_.out HW_.out (by kernel_rfl)) (fun _ _ _ h => h) (Or.inl ⟨by rfl, ?_⟩) hHeld ?_ ?_
          rotate_left
          · rintro w' ⟨s0, s1, s2, s3, s4, s5, s6, s7, s8, s9⟩
            go_simp
            with_reducible rfl
          rotate_left
          · simp only [Act.put, List.setIfInBounds_toArray, List.set_cons_zero, List.set_cons_succ, i64_w, i32_w]
            rfl
          refine one_ (i := 16) (N := some 24) #[true, true, true, true, true, true, true, true, true, true, true, true, true, true, true, true, true, true, true, true, false, false] rfl rfl (one_of HT_.out (by kernel_rfl)) (by decide) (fun K hK => ?_)
          refine goes_ Tryd.func16 (by kernel_rfl) rfl #[.agg #[.int .i64 t291, .int .i64 t292, .int .i64 t293, .int .i64 t294, .int .i64 t295, .int .i64 t296, .bool t297, .int .i64 t298, .int .u32 t299, .int .u32 t300]] (by rfl) rfl rfl (by (try simp only [List.map_toArray, List.map_cons, List.map_nil]); first | done | rfl | (simp only [List.length_drop, List.length_take]; rfl)) ?_
          with_reducible refine (pointer_IsCapability.calls t291 t292 t293 t294 t295 t296 t297 t298 t299 t300 t303 _ A15.out).mono ?_
          rintro e w18 ⟨rfl, hb⟩
          refine ⟨_, rfl, ?_⟩
          have n0_ := Aside0.mk (blk_below (g := gb301) (o := .cells #[.int .i64 t291, .int .i64 t292, .int .i64 t293, .int .i64 t294, .int .i64 t295, .int .i64 t296, .bool t297, .int .i64 t298, .int .u32 t299, .int .u32 t300] 25 (0, 0)) (by (with_reducible repeat (first | refine blk_drewN ?_ _ | refine blk_drew ?_ | refine blk_alloc ?_ _)); exact BK301.out) hb)
          have n1_ := Aside0.mk (below_step (by repeat (first | (with_reducible first | exact HB.out | apply below_alloc | apply pw_below_drewN | apply below_drew1 | refine below_set ?_ GE301.out) | exact HB.out)) hb)
          clear BK301
          clear HB
          have BK301 := n0_
          have HB := n1_
          clear n0_ n1_
          (try clear hb)
          (try clear hb2)
          (try clear hk)
          (try clear hi)
          refine hK.out _ _ ⟨(blk_cell BK301.out 0).trans rfl, (blk_cell BK301.out 1).trans rfl, (blk_cell BK301.out 2).trans rfl, (blk_cell BK301.out 3).trans rfl, (blk_cell BK301.out 4).trans rfl, (blk_cell BK301.out 5).trans rfl, (blk_cell BK301.out 6).trans rfl, (blk_cell BK301.out 7).trans rfl, (blk_cell BK301.out 8).trans rfl, (blk_cell BK301.out 9).trans rfl⟩ (fun hHeld => ?_)
          clear hK K
          refine norm_ (a' := ?_) ?_ ?_
          rotate_left
          · show Act.put _ (some 24) _ = _
            simp only [Act.put, List.setIfInBounds_toArray, List.set_cons_zero, List.set_cons_succ, i64_w, i32_w]
            rfl
          refine pure_ (i := 20) (N := some 28) (v := ?_) (a' := ?_) #[true, true, true, true, true, true, true, true, true, true, true, true, true, true, true, true, true, true, true, true, true, false] rfl rfl (any_of HT_.out (by kernel_rfl)) (fun _ _ _ h => h) (Or.inl ⟨by rfl, ?_⟩) ?_ ?_
          rotate_left
          · intro w'
            go_simp
            with_reducible rfl
          rotate_left
          · simp only [Act.put, List.setIfInBounds_toArray, List.set_cons_zero, List.set_cons_succ, i64_w, i32_w]
            rfl
          refine pure_ (i := 21) (N := some 29) (v := ?_) (a' := ?_) #[true, true, true, true, true, true, true, true, true, true, true, true, true, true, true, true, true, true, true, true, true, true] rfl rfl (any_of HT_.out (by kernel_rfl)) (fun _ _ _ h => h) (Or.inl ⟨by rfl, ?_⟩) ?_ ?_
          rotate_left
          · intro w'
            go_simp
            with_reducible rfl
          rotate_left
          · simp only [Act.put, List.setIfInBounds_toArray, List.set_cons_zero, List.set_cons_succ, i64_w, i32_w]
            rfl
          refine done_ (done_of HT_.out (by kernel_rfl)) ?_
          try go_wp2
          go_meet
          case rel => exact ⟨_, ((t303 != ((Int.tmod a0 4294967296) == 3))), (by first | rfl | (simp; done) | (simp [*]; done)), H', ⟨by first | omega | exact Nat.le_refl _⟩, ⟨by (with_reducible repeat (first | refine blk_drewN ?_ _ | refine blk_drew ?_ | refine blk_alloc ?_ _)); exact BK301.out⟩, ⟨by repeat (first | (with_reducible first | exact HB.out | apply below_alloc | apply pw_below_drewN | apply below_drew1 | refine below_set ?_ GE301.out) | exact HB.out)⟩⟩
      · rw [if_neg c10] at H
        have c10b0 : (t291 == (wrap64 (Int.tmod a0 4))) = false := beq_eq_false_iff_ne.mpr c10
        have c10b1 : (t291 != (wrap64 (Int.tmod a0 4))) = true := bne_iff_ne.mpr c10
        (first | rw [c10b0] | (simp only [i64_w, i32_w]; rw [c10b0]) | skip)
        have H' := Aside0.mk H
        clear H
        try go_wp2
        have n0_ : Aside0 (((((((((((w8.setCell ⟨gb301, 0, none⟩ (.int .i64 t291)).setCell ⟨gb301, 1, none⟩ (.int .i64 t292)).setCell ⟨gb301, 2, none⟩ (.int .i64 t293)).setCell ⟨gb301, 3, none⟩ (.int .i64 t294)).setCell ⟨gb301, 4, none⟩ (.int .i64 t295)).setCell ⟨gb301, 5, none⟩ (.int .i64 t296)).setCell ⟨gb301, 6, none⟩ (.bool t297)).setCell ⟨gb301, 7, none⟩ (.int .i64 t298)).setCell ⟨gb301, 8, none⟩ (.int .u32 t299)).setCell ⟨gb301, 9, none⟩ (.int .u32 t300)).heap[gb301]? = some (.cells #[.int .i64 t291, .int .i64 t292, .int .i64 t293, .int .i64 t294, .int .i64 t295, .int .i64 t296, .bool t297, .int .i64 t298, .int .u32 t299, .int .u32 t300] 25 (0, 0))) := ⟨by (with_reducible repeat (first | refine blk_drewN ?_ _ | refine blk_drew ?_ | refine blk_alloc ?_ _)); refine blk_put (cs := #[.int .i64 t291, .int .i64 t292, .int .i64 t293, .int .i64 t294, .int .i64 t295, .int .i64 t296, .bool t297, .int .i64 t298, .int .u32 t299, .int .u32 0]) ?_ 9 _ rfl; (with_reducible repeat (first | refine blk_drewN ?_ _ | refine blk_drew ?_ | refine blk_alloc ?_ _)); refine blk_put (cs := #[.int .i64 t291, .int .i64 t292, .int .i64 t293, .int .i64 t294, .int .i64 t295, .int .i64 t296, .bool t297, .int .i64 t298, .int .u32 0, .int .u32 0]) ?_ 8 _ rfl; (with_reducible repeat (first | refine blk_drewN ?_ _ | refine blk_drew ?_ | refine blk_alloc ?_ _)); refine blk_put (cs := #[.int .i64 t291, .int .i64 t292, .int .i64 t293, .int .i64 t294, .int .i64 t295, .int .i64 t296, .bool t297, .int .i64 0, .int .u32 0, .int .u32 0]) ?_ 7 _ rfl; (with_reducible repeat (first | refine blk_drewN ?_ _ | refine blk_drew ?_ | refine blk_alloc ?_ _)); refine blk_put (cs := #[.int .i64 t291, .int .i64 t292, .int .i64 t293, .int .i64 t294, .int .i64 t295, .int .i64 t296, .bool false, .int .i64 0, .int .u32 0, .int .u32 0]) ?_ 6 _ rfl; (with_reducible repeat (first | refine blk_drewN ?_ _ | refine blk_drew ?_ | refine blk_alloc ?_ _)); refine blk_put (cs := #[.int .i64 t291, .int .i64 t292, .int .i64 t293, .int .i64 t294, .int .i64 t295, .int .i64 0, .bool false, .int .i64 0, .int .u32 0, .int .u32 0]) ?_ 5 _ rfl; (with_reducible repeat (first | refine blk_drewN ?_ _ | refine blk_drew ?_ | refine blk_alloc ?_ _)); refine blk_put (cs := #[.int .i64 t291, .int .i64 t292, .int .i64 t293, .int .i64 t294, .int .i64 0, .int .i64 0, .bool false, .int .i64 0, .int .u32 0, .int .u32 0]) ?_ 4 _ rfl; (with_reducible repeat (first | refine blk_drewN ?_ _ | refine blk_drew ?_ | refine blk_alloc ?_ _)); refine blk_put (cs := #[.int .i64 t291, .int .i64 t292, .int .i64 t293, .int .i64 0, .int .i64 0, .int .i64 0, .bool false, .int .i64 0, .int .u32 0, .int .u32 0]) ?_ 3 _ rfl; (with_reducible repeat (first | refine blk_drewN ?_ _ | refine blk_drew ?_ | refine blk_alloc ?_ _)); refine blk_put (cs := #[.int .i64 t291, .int .i64 t292, .int .i64 0, .int .i64 0, .int .i64 0, .int .i64 0, .bool false, .int .i64 0, .int .u32 0, .int .u32 0]) ?_ 2 _ rfl; (with_reducible repeat (first | refine blk_drewN ?_ _ | refine blk_drew ?_ | refine blk_alloc ?_ _)); refine blk_put (cs := #[.int .i64 t291, .int .i64 0, .int .i64 0, .int .i64 0, .int .i64 0, .int .i64 0, .bool false, .int .i64 0, .int .u32 0, .int .u32 0]) ?_ 1 _ rfl; (with_reducible repeat (first | refine blk_drewN ?_ _ | refine blk_drew ?_ | refine blk_alloc ?_ _)); refine blk_put (cs := #[.int .i64 0, .int .i64 0, .int .i64 0, .int .i64 0, .int .i64 0, .int .i64 0, .bool false, .int .i64 0, .int .u32 0, .int .u32 0]) ?_ 0 _ rfl; (with_reducible repeat (first | refine blk_drewN ?_ _ | refine blk_drew ?_ | refine blk_alloc ?_ _)); exact BK301.out⟩
        have n1_ : Aside0 (Below w.heap.size w ((((((((((w8.setCell ⟨gb301, 0, none⟩ (.int .i64 t291)).setCell ⟨gb301, 1, none⟩ (.int .i64 t292)).setCell ⟨gb301, 2, none⟩ (.int .i64 t293)).setCell ⟨gb301, 3, none⟩ (.int .i64 t294)).setCell ⟨gb301, 4, none⟩ (.int .i64 t295)).setCell ⟨gb301, 5, none⟩ (.int .i64 t296)).setCell ⟨gb301, 6, none⟩ (.bool t297)).setCell ⟨gb301, 7, none⟩ (.int .i64 t298)).setCell ⟨gb301, 8, none⟩ (.int .u32 t299)).setCell ⟨gb301, 9, none⟩ (.int .u32 t300))) := ⟨by repeat (first | (with_reducible first | exact HB.out | apply below_alloc | apply pw_below_drewN | apply below_drew1 | refine below_set ?_ GE301.out) | exact HB.out)⟩
        (try clear BK301)
        (try clear HB)
        generalize ((((((((((w8.setCell ⟨gb301, 0, none⟩ (.int .i64 t291)).setCell ⟨gb301, 1, none⟩ (.int .i64 t292)).setCell ⟨gb301, 2, none⟩ (.int .i64 t293)).setCell ⟨gb301, 3, none⟩ (.int .i64 t294)).setCell ⟨gb301, 4, none⟩ (.int .i64 t295)).setCell ⟨gb301, 5, none⟩ (.int .i64 t296)).setCell ⟨gb301, 6, none⟩ (.bool t297)).setCell ⟨gb301, 7, none⟩ (.int .i64 t298)).setCell ⟨gb301, 8, none⟩ (.int .u32 t299)).setCell ⟨gb301, 9, none⟩ (.int .u32 t300)) = w19 at n0_ n1_ ⊢
        have BK301 := n0_
        have HB := n1_
        clear n0_ n1_
        have n0_ := Aside0.mk (blk_drew BK301.out)
        have n1_ := Aside0.mk (below_drew1 HB.out)
        clear BK301
        clear HB
        have BK301 := n0_
        have HB := n1_
        clear n0_ n1_
        refine start_ (n := 22) (S := fun w' => w'.cell? ⟨gb301, 0, none⟩ = some (.int .i64 t291) ∧ w'.cell? ⟨gb301, 1, none⟩ = some (.int .i64 t292) ∧ w'.cell? ⟨gb301, 2, none⟩ = some (.int .i64 t293) ∧ w'.cell? ⟨gb301, 3, none⟩ = some (.int .i64 t294) ∧ w'.cell? ⟨gb301, 4, none⟩ = some (.int .i64 t295) ∧ w'.cell? ⟨gb301, 5, none⟩ = some (.int .i64 t296) ∧ w'.cell? ⟨gb301, 6, none⟩ = some (.bool t297) ∧ w'.cell? ⟨gb301, 7, none⟩ = some (.int .i64 t298) ∧ w'.cell? ⟨gb301, 8, none⟩ = some (.int .u32 t299) ∧ w'.cell? ⟨gb301, 9, none⟩ = some (.int .u32 t300)) (ds := []) #[false, false, false, false, false, false, false, false, false, false, false, false, false, false, false, false, false, false, false, false, false, false] (by kernel_rfl) rfl rfl ⟨(blk_cell BK301.out 0).trans rfl, (blk_cell BK301.out 1).trans rfl, (blk_cell BK301.out 2).trans rfl, (blk_cell BK301.out 3).trans rfl, (blk_cell BK301.out 4).trans rfl, (blk_cell BK301.out 5).trans rfl, (blk_cell BK301.out 6).trans rfl, (blk_cell BK301.out 7).trans rfl, (blk_cell BK301.out 8).trans rfl, (blk_cell BK301.out 9).trans rfl⟩ (fun hHeld => ?_); refine with_tabW capnplaw02_PointerKinds.tab4 capnplaw02_PointerKinds.bits4 (fun HT_ HW_ => ?_)
        generalize w19.drew = w20 at BK301 HB hHeld ⊢
        refine pure_ (i := 0) (N := some 8) (v := ?_) (a' := ?_) #[true, false, false, false, false, false, false, false, false, false, false, false, false, false, false, false, false, false, false, false, false, false] rfl rfl (any_of HT_.out (by kernel_rfl)) (fun _ _ _ h => h) (Or.inl ⟨by rfl, ?_⟩) ?_ ?_
        rotate_left
        · intro w'
          go_simp
          with_reducible rfl
        rotate_left
        · simp only [Act.put, List.setIfInBounds_toArray, List.set_cons_zero, List.set_cons_succ, i64_w, i32_w]
          rfl
        refine pure_ (i := 2) (N := some 10) (v := ?_) (a' := ?_) #[true, false, true, false, false, false, false, false, false, false, false, false, false, false, false, false, false, false, false, false, false, false] rfl rfl (any_of HT_.out (by kernel_rfl)) (fun _ _ _ h => h) (Or.inl ⟨by rfl, ?_⟩) ?_ ?_
        rotate_left
        · intro w'
          go_simp
          with_reducible rfl
        rotate_left
        · simp only [Act.put, List.setIfInBounds_toArray, List.set_cons_zero, List.set_cons_succ, i64_w, i32_w]
          rfl
        refine pure_ (i := 3) (N := some 11) (v := ?_) (a' := ?_) #[true, false, true, true, false, false, false, false, false, false, false, false, false, false, false, false, false, false, false, false, false, false] rfl rfl (any_of HT_.out (by kernel_rfl)) (fun _ _ _ h => h) (Or.inl ⟨by rfl, ?_⟩) ?_ ?_
        rotate_left
        · intro w'
          go_simp
          with_reducible rfl
        rotate_left
        · simp only [Act.put, List.setIfInBounds_toArray, List.set_cons_zero, List.set_cons_succ, i64_w, i32_w]
          rfl
        refine pure_ (i := 4) (N := some 12) (v := ?_) (a' := ?_) #[true, false, true, true, true, false, false, false, false, false, false, false, false, false, false, false, false, false, false, false, false, false] rfl rfl (any_of HT_.out (by kernel_rfl)) (fun _ _ _ h => h) (Or.inl ⟨by rfl, ?_⟩) ?_ ?_
        rotate_left
        · intro w'
          go_simp
          with_reducible rfl
        rotate_left
        · simp only [Act.put, List.setIfInBounds_toArray, List.set_cons_zero, List.set_cons_succ, i64_w, i32_w]
          rfl
        refine take_ (i := 1) (N := some 9) (v := ?_) (a' := ?_) #[true, true, true, true, true, false, false, false, false, false, false, false, false, false, false, false, false, false, false, false, false, false] rfl rfl (take_ofW HT_.out HW_.out (by kernel_rfl)) (fun _ _ _ h => h) (Or.inl ⟨by rfl, ?_⟩) hHeld ?_ ?_
        rotate_left
        · rintro w' ⟨s0, s1, s2, s3, s4, s5, s6, s7, s8, s9⟩
          go_simp
          with_reducible rfl
        rotate_left
        · simp only [Act.put, List.setIfInBounds_toArray, List.set_cons_zero, List.set_cons_succ, i64_w, i32_w]
          rfl
        refine pure_ (i := 5) (N := some 13) (v := ?_) (a' := ?_) #[true, true, true, true, true, true, false, false, false, false, false, false, false, false, false, false, false, false, false, false, false, false] rfl rfl (any_of HT_.out (by kernel_rfl)) (fun _ _ _ h => h) (Or.inl ⟨by rfl, ?_⟩) ?_ ?_
        rotate_left
        · intro w'
          go_simp
          with_reducible rfl
        rotate_left
        · simp only [Act.put, List.setIfInBounds_toArray, List.set_cons_zero, List.set_cons_succ, i64_w, i32_w]
          rfl
        refine pure_ (i := 6) (N := some 14) (v := ?_) (a' := ?_) #[true, true, true, true, true, true, true, false, false, false, false, false, false, false, false, false, false, false, false, false, false, false] rfl rfl (any_of HT_.out (by kernel_rfl)) (fun _ _ _ h => h) (Or.inl ⟨by rfl, ?_⟩) ?_ ?_
        rotate_left
        · intro w'
          go_simp
          with_reducible rfl
        rotate_left
        · simp only [Act.put, List.setIfInBounds_toArray, List.set_cons_zero, List.set_cons_succ, i64_w, i32_w]
          rfl
        refine pure_ (i := 7) (N := some 15) (v := undef) (a' := ?_) #[true, true, true, true, true, true, true, true, false, false, false, false, false, false, false, false, false, false, false, false, false, false] rfl rfl (any_of HT_.out (by kernel_rfl)) (fun _ _ _ h => h) (Or.inr ⟨by rfl, rfl⟩) ?_ ?_
        rotate_left
        · simp only [Act.put, List.setIfInBounds_toArray, List.set_cons_zero, List.set_cons_succ, i64_w, i32_w]
          rfl
        refine pure_ (i := 8) (N := some 16) (v := undef) (a' := ?_) #[true, true, true, true, true, true, true, true, true, false, false, false, false, false, false, false, false, false, false, false, false, false] rfl rfl (any_of HT_.out (by kernel_rfl)) (fun _ _ _ h => h) (Or.inr ⟨by rfl, rfl⟩) ?_ ?_
        rotate_left
        · simp only [Act.put, List.setIfInBounds_toArray, List.set_cons_zero, List.set_cons_succ, i64_w, i32_w]
          rfl
        refine pure_ (i := 9) (N := some 17) (v := undef) (a' := ?_) #[true, true, true, true, true, true, true, true, true, true, false, false, false, false, false, false, false, false, false, false, false, false] rfl rfl (any_of HT_.out (by kernel_rfl)) (fun _ _ _ h => h) (Or.inr ⟨by rfl, rfl⟩) ?_ ?_
        rotate_left
        · simp only [Act.put, List.setIfInBounds_toArray, List.set_cons_zero, List.set_cons_succ, i64_w, i32_w]
          rfl
        refine pure_ (i := 10) (N := some 18) (v := undef) (a' := ?_) #[true, true, true, true, true, true, true, true, true, true, true, false, false, false, false, false, false, false, false, false, false, false] rfl rfl (any_of HT_.out (by kernel_rfl)) (fun _ _ _ h => h) (Or.inr ⟨by rfl, rfl⟩) ?_ ?_
        rotate_left
        · simp only [Act.put, List.setIfInBounds_toArray, List.set_cons_zero, List.set_cons_succ, i64_w, i32_w]
          rfl
        refine pure_ (i := 11) (N := some 19) (v := undef) (a' := ?_) #[true, true, true, true, true, true, true, true, true, true, true, true, false, false, false, false, false, false, false, false, false, false] rfl rfl (any_of HT_.out (by kernel_rfl)) (fun _ _ _ h => h) (Or.inr ⟨by rfl, rfl⟩) ?_ ?_
        rotate_left
        · simp only [Act.put, List.setIfInBounds_toArray, List.set_cons_zero, List.set_cons_succ, i64_w, i32_w]
          rfl
        refine pure_ (i := 12) (N := some 20) (v := undef) (a' := ?_) #[true, true, true, true, true, true, true, true, true, true, true, true, true, false, false, false, false, false, false, false, false, false] rfl rfl (any_of HT_.out (by kernel_rfl)) (fun _ _ _ h => h) (Or.inr ⟨by rfl, rfl⟩) ?_ ?_
        rotate_left
        · simp only [Act.put, List.setIfInBounds_toArray, List.set_cons_zero, List.set_cons_succ, i64_w, i32_w]
          rfl
        refine pure_ (i := 13) (N := some 21) (v := ?_) (a' := ?_) #[true, true, true, true, true, true, true, true, true, true, true, true, true, true, false, false, false, false, false, false, false, false] rfl rfl (any_of HT_.out (by kernel_rfl)) (fun _ _ _ h => h) (Or.inl ⟨by rfl, ?_⟩) ?_ ?_
        rotate_left
        · intro w'
          go_simp
          with_reducible rfl
        rotate_left
        · simp only [Act.put, List.setIfInBounds_toArray, List.set_cons_zero, List.set_cons_succ, i64_w, i32_w]
          rfl
        refine pure_ (i := 14) (N := some 22) (v := ?_) (a' := ?_) #[true, true, true, true, true, true, true, true, true, true, true, true, true, true, true, false, false, false, false, false, false, false] rfl rfl (any_of HT_.out (by kernel_rfl)) (fun _ _ _ h => h) (Or.inl ⟨by rfl, ?_⟩) ?_ ?_
        rotate_left
        · intro w'
          go_simp
          with_reducible rfl
        rotate_left
        · simp only [Act.put, List.setIfInBounds_toArray, List.set_cons_zero, List.set_cons_succ, i64_w, i32_w]
          rfl
        refine pure_ (i := 15) (N := some 23) (v := undef) (a' := ?_) #[true, true, true, true, true, true, true, true, true, true, true, true, true, true, true, true, false, false, false, false, false, false] rfl rfl (any_of HT_.out (by kernel_rfl)) (fun _ _ _ h => h) (Or.inr ⟨by rfl, rfl⟩) ?_ ?_
        rotate_left
        · simp only [Act.put, List.setIfInBounds_toArray, List.set_cons_zero, List.set_cons_succ, i64_w, i32_w]
          rfl
        refine pure_ (i := 16) (N := some 24) (v := undef) (a' := ?_) #[true, true, true, true, true, true, true, true, true, true, true, true, true, true, true, true, true, false, false, false, false, false] rfl rfl (any_of HT_.out (by kernel_rfl)) (fun _ _ _ h => h) (Or.inr ⟨by rfl, rfl⟩) ?_ ?_
        rotate_left
        · simp only [Act.put, List.setIfInBounds_toArray, List.set_cons_zero, List.set_cons_succ, i64_w, i32_w]
          rfl
        refine pure_ (i := 17) (N := some 25) (v := undef) (a' := ?_) #[true, true, true, true, true, true, true, true, true, true, true, true, true, true, true, true, true, true, false, false, false, false] rfl rfl (any_of HT_.out (by kernel_rfl)) (fun _ _ _ h => h) (Or.inr ⟨by rfl, rfl⟩) ?_ ?_
        rotate_left
        · simp only [Act.put, List.setIfInBounds_toArray, List.set_cons_zero, List.set_cons_succ, i64_w, i32_w]
          rfl
        refine pure_ (i := 18) (N := some 26) (v := undef) (a' := ?_) #[true, true, true, true, true, true, true, true, true, true, true, true, true, true, true, true, true, true, true, false, false, false] rfl rfl (any_of HT_.out (by kernel_rfl)) (fun _ _ _ h => h) (Or.inr ⟨by rfl, rfl⟩) ?_ ?_
        rotate_left
        · simp only [Act.put, List.setIfInBounds_toArray, List.set_cons_zero, List.set_cons_succ, i64_w, i32_w]
          rfl
        refine pure_ (i := 19) (N := some 27) (v := undef) (a' := ?_) #[true, true, true, true, true, true, true, true, true, true, true, true, true, true, true, true, true, true, true, true, false, false] rfl rfl (any_of HT_.out (by kernel_rfl)) (fun _ _ _ h => h) (Or.inr ⟨by rfl, rfl⟩) ?_ ?_
        rotate_left
        · simp only [Act.put, List.setIfInBounds_toArray, List.set_cons_zero, List.set_cons_succ, i64_w, i32_w]
          rfl
        refine pure_ (i := 20) (N := some 28) (v := undef) (a' := ?_) #[true, true, true, true, true, true, true, true, true, true, true, true, true, true, true, true, true, true, true, true, true, false] rfl rfl (any_of HT_.out (by kernel_rfl)) (fun _ _ _ h => h) (Or.inr ⟨by rfl, rfl⟩) ?_ ?_
        rotate_left
        · simp only [Act.put, List.setIfInBounds_toArray, List.set_cons_zero, List.set_cons_succ, i64_w, i32_w]
          rfl
        refine pure_ (i := 21) (N := some 29) (v := ?_) (a' := ?_) #[true, true, true, true, true, true, true, true, true, true, true, true, true, true, true, true, true, true, true, true, true, true] rfl rfl (any_of HT_.out (by kernel_rfl)) (fun _ _ _ h => h) (Or.inl ⟨by rfl, ?_⟩) ?_ ?_
        rotate_left
        · intro w'
          go_simp
          with_reducible rfl
        rotate_left
        · simp only [Act.put, List.setIfInBounds_toArray, List.set_cons_zero, List.set_cons_succ, i64_w, i32_w]
          rfl
        refine done_ (done_of HT_.out (by kernel_rfl)) ?_
        try go_wp2
        go_meet
        case rel => exact ⟨_, (true), (by first | rfl | (simp; done) | (simp [*]; done)), H', ⟨by first | omega | exact Nat.le_refl _⟩, ⟨by (with_reducible repeat (first | refine blk_drewN ?_ _ | refine blk_drew ?_ | refine blk_alloc ?_ _)); exact BK301.out⟩, ⟨by repeat (first | (with_reducible first | exact HB.out | apply below_alloc | apply pw_below_drewN | apply below_drew1 | refine below_set ?_ GE301.out) | exact HB.out)⟩⟩
    case rest =>
      clear HC5
      try clear c1
      try clear p2
      try clear c5
      try clear p6
      try clear c8
      try clear c10
      try clear c10b0
      try clear c10b1
      try clear c11
      try clear c12
      try clear c12b0
      try clear c12b1
      try clear c12b2
      try clear c15
      try clear c16
      try clear hcz9_0
      try clear hcz9_1
      try clear hcz9_2
      try clear hcz9_3
      try clear hcz9_4
      try clear hcz9_5
      try clear hcz9_6
      try clear hcz9_7
      try clear hcz9_8
      try clear hcz9_9
      try clear hfz9_0
      try clear hfz9_1
      try clear hfz9_2
      try clear hfz9_3
      try clear hfz9_4
      try clear hfz9_5
      try clear hfz9_6
      try clear hfz9_7
      try clear hfz9_8
      try clear hfz9_9
      obtain ⟨kq, x29_4, rfl, HA, HJ4, BK301, HB⟩ := hcut
      cases kq with
      | zero => exact absurd HA.out (by simp [capnplaw02_PointerKinds.j0])
      | succ kj4 =>
        have H := HA.out
        clear HA
        simp only [capnplaw02_PointerKinds.j0] at H
        by_cases c21 : x29_4 = true
        · subst c21
          have H1 : (some false) = some r := by rw [if_pos rfl] at H; exact H
          clear H
          have H := H1
          clear H1
          obtain rfl := Option.some.inj H
          go_wp2
          go_ret
          exact ⟨by first | rfl | (simp [errW_none, errW_some] <;> rfl) | (simp [*, errW_none, errW_some] <;> rfl), by repeat (first | (with_reducible first | exact HB.out | apply below_alloc | apply pw_below_drewN | apply below_drew1 | refine below_set ?_ GE301.out) | exact HB.out)⟩
        · replace c21 := Bool.eq_false_iff.mpr c21
          subst c21
          have H1 : (if t291 = 0 then (if t292 ≥ (-536870912) then (if t292 ≤ 536870911 then (if t293 < 65536 then (if t294 < 65536 then (if t293 ≥ 0 then (some (decide (t294 ≥ 0))) else (some false)) else (some false)) else (some false)) else (some false)) else (some false)) else (if t291 = 1 then (if t292 ≥ (-536870912) then (if t292 ≤ 536870911 then (if t295 ≥ 0 then (if t295 ≤ 7 then (if t296 ≥ 0 then (some (decide (t296 ≤ 536870911))) else (some false)) else (some false)) else (some false)) else (some false)) else (some false)) else (if t291 = 2 then (if t298 ≥ 0 then (if t298 ≤ 536870911 then (some (t299 == ((IntKind.u64.wrap (Int.tdiv a0 4294967296)) % 4294967296))) else (some false)) else (some false)) else (if t300 < 1073741824 then (some (t299 == ((IntKind.u64.wrap (Int.tdiv a0 4294967296)) % 4294967296))) else (some false))))) = some r := by rw [if_neg (show ¬ (false = true) by decide)] at H; exact H
          clear H
          have H := H1
          clear H1
          by_cases c22 : t291 = 0
          · rw [if_pos c22] at H
            have c22b0 : (t291 == 0) = true := beq_iff_eq.mpr c22
            have c22b1 : (t291 != 0) = false := bne_eq_false_iff_eq.mpr c22
            clear c22
            by_cases c23 : t292 ≥ (-536870912)
            · rw [if_pos c23] at H
              have c23b0 : decide ((-536870912) ≤ t292) = true := decide_eq_true c23
              clear c23
              by_cases c24 : t292 ≤ 536870911
              · rw [if_pos c24] at H
                have c24b0 : decide (t292 ≤ 536870911) = true := decide_eq_true c24
                clear c24
                by_cases c25 : t293 < 65536
                · rw [if_pos c25] at H
                  have c25b0 : decide (t293 < 65536) = true := decide_eq_true c25
                  clear c25
                  by_cases c26 : t294 < 65536
                  · rw [if_pos c26] at H
                    have c26b0 : decide (t294 < 65536) = true := decide_eq_true c26
                    clear c26
                    by_cases c27 : t293 ≥ 0
                    · rw [if_pos c27] at H
                      have c27b0 : decide (0 ≤ t293) = true := decide_eq_true c27
                      clear c27
                      obtain rfl := Option.some.inj H
                      have hcz28_0 : wc.cell? ⟨gb301, 0, none⟩ = some (.int .i64 t291) := (blk_cell BK301.out 0).trans rfl
                      have hcz28_1 : wc.cell? ⟨gb301, 1, none⟩ = some (.int .i64 t292) := (blk_cell BK301.out 1).trans rfl
                      have hcz28_2 : wc.cell? ⟨gb301, 2, none⟩ = some (.int .i64 t293) := (blk_cell BK301.out 2).trans rfl
                      have hcz28_3 : wc.cell? ⟨gb301, 3, none⟩ = some (.int .i64 t294) := (blk_cell BK301.out 3).trans rfl
                      have hcz28_4 : wc.cell? ⟨gb301, 4, none⟩ = some (.int .i64 t295) := (blk_cell BK301.out 4).trans rfl
                      have hcz28_5 : wc.cell? ⟨gb301, 5, none⟩ = some (.int .i64 t296) := (blk_cell BK301.out 5).trans rfl
                      have hcz28_6 : wc.cell? ⟨gb301, 6, none⟩ = some (.bool t297) := (blk_cell BK301.out 6).trans rfl
                      have hcz28_7 : wc.cell? ⟨gb301, 7, none⟩ = some (.int .i64 t298) := (blk_cell BK301.out 7).trans rfl
                      have hcz28_8 : wc.cell? ⟨gb301, 8, none⟩ = some (.int .u32 t299) := (blk_cell BK301.out 8).trans rfl
                      have hcz28_9 : wc.cell? ⟨gb301, 9, none⟩ = some (.int .u32 t300) := (blk_cell BK301.out 9).trans rfl
                      have hfz28_0 := blk_frozen BK301.out 0
                      have hfz28_1 := blk_frozen BK301.out 1
                      have hfz28_2 := blk_frozen BK301.out 2
                      have hfz28_3 := blk_frozen BK301.out 3
                      have hfz28_4 := blk_frozen BK301.out 4
                      have hfz28_5 := blk_frozen BK301.out 5
                      have hfz28_6 := blk_frozen BK301.out 6
                      have hfz28_7 := blk_frozen BK301.out 7
                      have hfz28_8 := blk_frozen BK301.out 8
                      have hfz28_9 := blk_frozen BK301.out 9
                      go_wp2
                      go_ret
                      exact ⟨by first | rfl | (simp [errW_none, errW_some] <;> rfl) | (simp [*, errW_none, errW_some] <;> rfl), by repeat (first | (with_reducible first | exact HB.out | apply below_alloc | apply pw_below_drewN | apply below_drew1 | refine below_set ?_ GE301.out) | exact HB.out)⟩
                    · rw [if_neg c27] at H
                      have c27b0 : decide (0 ≤ t293) = false := decide_eq_false c27
                      clear c27
                      obtain rfl := Option.some.inj H
                      have hcz29_0 : wc.cell? ⟨gb301, 0, none⟩ = some (.int .i64 t291) := (blk_cell BK301.out 0).trans rfl
                      have hcz29_1 : wc.cell? ⟨gb301, 1, none⟩ = some (.int .i64 t292) := (blk_cell BK301.out 1).trans rfl
                      have hcz29_2 : wc.cell? ⟨gb301, 2, none⟩ = some (.int .i64 t293) := (blk_cell BK301.out 2).trans rfl
                      have hcz29_3 : wc.cell? ⟨gb301, 3, none⟩ = some (.int .i64 t294) := (blk_cell BK301.out 3).trans rfl
                      have hcz29_4 : wc.cell? ⟨gb301, 4, none⟩ = some (.int .i64 t295) := (blk_cell BK301.out 4).trans rfl
                      have hcz29_5 : wc.cell? ⟨gb301, 5, none⟩ = some (.int .i64 t296) := (blk_cell BK301.out 5).trans rfl
                      have hcz29_6 : wc.cell? ⟨gb301, 6, none⟩ = some (.bool t297) := (blk_cell BK301.out 6).trans rfl
                      have hcz29_7 : wc.cell? ⟨gb301, 7, none⟩ = some (.int .i64 t298) := (blk_cell BK301.out 7).trans rfl
                      have hcz29_8 : wc.cell? ⟨gb301, 8, none⟩ = some (.int .u32 t299) := (blk_cell BK301.out 8).trans rfl
                      have hcz29_9 : wc.cell? ⟨gb301, 9, none⟩ = some (.int .u32 t300) := (blk_cell BK301.out 9).trans rfl
                      have hfz29_0 := blk_frozen BK301.out 0
                      have hfz29_1 := blk_frozen BK301.out 1
                      have hfz29_2 := blk_frozen BK301.out 2
                      have hfz29_3 := blk_frozen BK301.out 3
                      have hfz29_4 := blk_frozen BK301.out 4
                      have hfz29_5 := blk_frozen BK301.out 5
                      have hfz29_6 := blk_frozen BK301.out 6
                      have hfz29_7 := blk_frozen BK301.out 7
                      have hfz29_8 := blk_frozen BK301.out 8
                      have hfz29_9 := blk_frozen BK301.out 9
                      go_wp2
                      go_ret
                      exact ⟨by first | rfl | (simp [errW_none, errW_some] <;> rfl) | (simp [*, errW_none, errW_some] <;> rfl), by repeat (first | (with_reducible first | exact HB.out | apply below_alloc | apply pw_below_drewN | apply below_drew1 | refine below_set ?_ GE301.out) | exact HB.out)⟩
                  · rw [if_neg c26] at H
                    have c26b0 : decide (t294 < 65536) = false := decide_eq_false c26
                    clear c26
                    obtain rfl := Option.some.inj H
                    have hcz30_0 : wc.cell? ⟨gb301, 0, none⟩ = some (.int .i64 t291) := (blk_cell BK301.out 0).trans rfl
                    have hcz30_1 : wc.cell? ⟨gb301, 1, none⟩ = some (.int .i64 t292) := (blk_cell BK301.out 1).trans rfl
                    have hcz30_2 : wc.cell? ⟨gb301, 2, none⟩ = some (.int .i64 t293) := (blk_cell BK301.out 2).trans rfl
                    have hcz30_3 : wc.cell? ⟨gb301, 3, none⟩ = some (.int .i64 t294) := (blk_cell BK301.out 3).trans rfl
                    have hcz30_4 : wc.cell? ⟨gb301, 4, none⟩ = some (.int .i64 t295) := (blk_cell BK301.out 4).trans rfl
                    have hcz30_5 : wc.cell? ⟨gb301, 5, none⟩ = some (.int .i64 t296) := (blk_cell BK301.out 5).trans rfl
                    have hcz30_6 : wc.cell? ⟨gb301, 6, none⟩ = some (.bool t297) := (blk_cell BK301.out 6).trans rfl
                    have hcz30_7 : wc.cell? ⟨gb301, 7, none⟩ = some (.int .i64 t298) := (blk_cell BK301.out 7).trans rfl
                    have hcz30_8 : wc.cell? ⟨gb301, 8, none⟩ = some (.int .u32 t299) := (blk_cell BK301.out 8).trans rfl
                    have hcz30_9 : wc.cell? ⟨gb301, 9, none⟩ = some (.int .u32 t300) := (blk_cell BK301.out 9).trans rfl
                    have hfz30_0 := blk_frozen BK301.out 0
                    have hfz30_1 := blk_frozen BK301.out 1
                    have hfz30_2 := blk_frozen BK301.out 2
                    have hfz30_3 := blk_frozen BK301.out 3
                    have hfz30_4 := blk_frozen BK301.out 4
                    have hfz30_5 := blk_frozen BK301.out 5
                    have hfz30_6 := blk_frozen BK301.out 6
                    have hfz30_7 := blk_frozen BK301.out 7
                    have hfz30_8 := blk_frozen BK301.out 8
                    have hfz30_9 := blk_frozen BK301.out 9
                    go_wp2
                    go_ret
                    exact ⟨by first | rfl | (simp [errW_none, errW_some] <;> rfl) | (simp [*, errW_none, errW_some] <;> rfl), by repeat (first | (with_reducible first | exact HB.out | apply below_alloc | apply pw_below_drewN | apply below_drew1 | refine below_set ?_ GE301.out) | exact HB.out)⟩
                · rw [if_neg c25] at H
                  have c25b0 : decide (t293 < 65536) = false := decide_eq_false c25
                  clear c25
                  obtain rfl := Option.some.inj H
                  have hcz31_0 : wc.cell? ⟨gb301, 0, none⟩ = some (.int .i64 t291) := (blk_cell BK301.out 0).trans rfl
                  have hcz31_1 : wc.cell? ⟨gb301, 1, none⟩ = some (.int .i64 t292) := (blk_cell BK301.out 1).trans rfl
                  have hcz31_2 : wc.cell? ⟨gb301, 2, none⟩ = some (.int .i64 t293) := (blk_cell BK301.out 2).trans rfl
                  have hcz31_3 : wc.cell? ⟨gb301, 3, none⟩ = some (.int .i64 t294) := (blk_cell BK301.out 3).trans rfl
                  have hcz31_4 : wc.cell? ⟨gb301, 4, none⟩ = some (.int .i64 t295) := (blk_cell BK301.out 4).trans rfl
                  have hcz31_5 : wc.cell? ⟨gb301, 5, none⟩ = some (.int .i64 t296) := (blk_cell BK301.out 5).trans rfl
                  have hcz31_6 : wc.cell? ⟨gb301, 6, none⟩ = some (.bool t297) := (blk_cell BK301.out 6).trans rfl
                  have hcz31_7 : wc.cell? ⟨gb301, 7, none⟩ = some (.int .i64 t298) := (blk_cell BK301.out 7).trans rfl
                  have hcz31_8 : wc.cell? ⟨gb301, 8, none⟩ = some (.int .u32 t299) := (blk_cell BK301.out 8).trans rfl
                  have hcz31_9 : wc.cell? ⟨gb301, 9, none⟩ = some (.int .u32 t300) := (blk_cell BK301.out 9).trans rfl
                  have hfz31_0 := blk_frozen BK301.out 0
                  have hfz31_1 := blk_frozen BK301.out 1
                  have hfz31_2 := blk_frozen BK301.out 2
                  have hfz31_3 := blk_frozen BK301.out 3
                  have hfz31_4 := blk_frozen BK301.out 4
                  have hfz31_5 := blk_frozen BK301.out 5
                  have hfz31_6 := blk_frozen BK301.out 6
                  have hfz31_7 := blk_frozen BK301.out 7
                  have hfz31_8 := blk_frozen BK301.out 8
                  have hfz31_9 := blk_frozen BK301.out 9
                  go_wp2
                  go_ret
                  exact ⟨by first | rfl | (simp [errW_none, errW_some] <;> rfl) | (simp [*, errW_none, errW_some] <;> rfl), by repeat (first | (with_reducible first | exact HB.out | apply below_alloc | apply pw_below_drewN | apply below_drew1 | refine below_set ?_ GE301.out) | exact HB.out)⟩
              · rw [if_neg c24] at H
                have c24b0 : decide (t292 ≤ 536870911) = false := decide_eq_false c24
                clear c24
                obtain rfl := Option.some.inj H
                have hcz32_0 : wc.cell? ⟨gb301, 0, none⟩ = some (.int .i64 t291) := (blk_cell BK301.out 0).trans rfl
                have hcz32_1 : wc.cell? ⟨gb301, 1, none⟩ = some (.int .i64 t292) := (blk_cell BK301.out 1).trans rfl
                have hcz32_2 : wc.cell? ⟨gb301, 2, none⟩ = some (.int .i64 t293) := (blk_cell BK301.out 2).trans rfl
                have hcz32_3 : wc.cell? ⟨gb301, 3, none⟩ = some (.int .i64 t294) := (blk_cell BK301.out 3).trans rfl
                have hcz32_4 : wc.cell? ⟨gb301, 4, none⟩ = some (.int .i64 t295) := (blk_cell BK301.out 4).trans rfl
                have hcz32_5 : wc.cell? ⟨gb301, 5, none⟩ = some (.int .i64 t296) := (blk_cell BK301.out 5).trans rfl
                have hcz32_6 : wc.cell? ⟨gb301, 6, none⟩ = some (.bool t297) := (blk_cell BK301.out 6).trans rfl
                have hcz32_7 : wc.cell? ⟨gb301, 7, none⟩ = some (.int .i64 t298) := (blk_cell BK301.out 7).trans rfl
                have hcz32_8 : wc.cell? ⟨gb301, 8, none⟩ = some (.int .u32 t299) := (blk_cell BK301.out 8).trans rfl
                have hcz32_9 : wc.cell? ⟨gb301, 9, none⟩ = some (.int .u32 t300) := (blk_cell BK301.out 9).trans rfl
                have hfz32_0 := blk_frozen BK301.out 0
                have hfz32_1 := blk_frozen BK301.out 1
                have hfz32_2 := blk_frozen BK301.out 2
                have hfz32_3 := blk_frozen BK301.out 3
                have hfz32_4 := blk_frozen BK301.out 4
                have hfz32_5 := blk_frozen BK301.out 5
                have hfz32_6 := blk_frozen BK301.out 6
                have hfz32_7 := blk_frozen BK301.out 7
                have hfz32_8 := blk_frozen BK301.out 8
                have hfz32_9 := blk_frozen BK301.out 9
                go_wp2
                go_ret
                exact ⟨by first | rfl | (simp [errW_none, errW_some] <;> rfl) | (simp [*, errW_none, errW_some] <;> rfl), by repeat (first | (with_reducible first | exact HB.out | apply below_alloc | apply pw_below_drewN | apply below_drew1 | refine below_set ?_ GE301.out) | exact HB.out)⟩
            · rw [if_neg c23] at H
              have c23b0 : decide ((-536870912) ≤ t292) = false := decide_eq_false c23
              clear c23
              obtain rfl := Option.some.inj H
              have hcz33_0 : wc.cell? ⟨gb301, 0, none⟩ = some (.int .i64 t291) := (blk_cell BK301.out 0).trans rfl
              have hcz33_1 : wc.cell? ⟨gb301, 1, none⟩ = some (.int .i64 t292) := (blk_cell BK301.out 1).trans rfl
              have hcz33_2 : wc.cell? ⟨gb301, 2, none⟩ = some (.int .i64 t293) := (blk_cell BK301.out 2).trans rfl
              have hcz33_3 : wc.cell? ⟨gb301, 3, none⟩ = some (.int .i64 t294) := (blk_cell BK301.out 3).trans rfl
              have hcz33_4 : wc.cell? ⟨gb301, 4, none⟩ = some (.int .i64 t295) := (blk_cell BK301.out 4).trans rfl
              have hcz33_5 : wc.cell? ⟨gb301, 5, none⟩ = some (.int .i64 t296) := (blk_cell BK301.out 5).trans rfl
              have hcz33_6 : wc.cell? ⟨gb301, 6, none⟩ = some (.bool t297) := (blk_cell BK301.out 6).trans rfl
              have hcz33_7 : wc.cell? ⟨gb301, 7, none⟩ = some (.int .i64 t298) := (blk_cell BK301.out 7).trans rfl
              have hcz33_8 : wc.cell? ⟨gb301, 8, none⟩ = some (.int .u32 t299) := (blk_cell BK301.out 8).trans rfl
              have hcz33_9 : wc.cell? ⟨gb301, 9, none⟩ = some (.int .u32 t300) := (blk_cell BK301.out 9).trans rfl
              have hfz33_0 := blk_frozen BK301.out 0
              have hfz33_1 := blk_frozen BK301.out 1
              have hfz33_2 := blk_frozen BK301.out 2
              have hfz33_3 := blk_frozen BK301.out 3
              have hfz33_4 := blk_frozen BK301.out 4
              have hfz33_5 := blk_frozen BK301.out 5
              have hfz33_6 := blk_frozen BK301.out 6
              have hfz33_7 := blk_frozen BK301.out 7
              have hfz33_8 := blk_frozen BK301.out 8
              have hfz33_9 := blk_frozen BK301.out 9
              go_wp2
              go_ret
              exact ⟨by first | rfl | (simp [errW_none, errW_some] <;> rfl) | (simp [*, errW_none, errW_some] <;> rfl), by repeat (first | (with_reducible first | exact HB.out | apply below_alloc | apply pw_below_drewN | apply below_drew1 | refine below_set ?_ GE301.out) | exact HB.out)⟩
          · rw [if_neg c22] at H
            have c22b0 : (t291 == 0) = false := beq_eq_false_iff_ne.mpr c22
            have c22b1 : (t291 != 0) = true := bne_iff_ne.mpr c22
            by_cases c34 : t291 = 1
            · rw [if_pos c34] at H
              have c34b0 : (t291 == 1) = true := beq_iff_eq.mpr c34
              have c34b1 : (t291 != 1) = false := bne_eq_false_iff_eq.mpr c34
              clear c34
              by_cases c35 : t292 ≥ (-536870912)
              · rw [if_pos c35] at H
                have c35b0 : decide ((-536870912) ≤ t292) = true := decide_eq_true c35
                clear c35
                by_cases c36 : t292 ≤ 536870911
                · rw [if_pos c36] at H
                  have c36b0 : decide (t292 ≤ 536870911) = true := decide_eq_true c36
                  clear c36
                  by_cases c37 : t295 ≥ 0
                  · rw [if_pos c37] at H
                    have c37b0 : decide (0 ≤ t295) = true := decide_eq_true c37
                    clear c37
                    by_cases c38 : t295 ≤ 7
                    · rw [if_pos c38] at H
                      have c38b0 : decide (t295 ≤ 7) = true := decide_eq_true c38
                      clear c38
                      by_cases c39 : t296 ≥ 0
                      · rw [if_pos c39] at H
                        have c39b0 : decide (0 ≤ t296) = true := decide_eq_true c39
                        clear c39
                        obtain rfl := Option.some.inj H
                        have hcz40_0 : wc.cell? ⟨gb301, 0, none⟩ = some (.int .i64 t291) := (blk_cell BK301.out 0).trans rfl
                        have hcz40_1 : wc.cell? ⟨gb301, 1, none⟩ = some (.int .i64 t292) := (blk_cell BK301.out 1).trans rfl
                        have hcz40_2 : wc.cell? ⟨gb301, 2, none⟩ = some (.int .i64 t293) := (blk_cell BK301.out 2).trans rfl
                        have hcz40_3 : wc.cell? ⟨gb301, 3, none⟩ = some (.int .i64 t294) := (blk_cell BK301.out 3).trans rfl
                        have hcz40_4 : wc.cell? ⟨gb301, 4, none⟩ = some (.int .i64 t295) := (blk_cell BK301.out 4).trans rfl
                        have hcz40_5 : wc.cell? ⟨gb301, 5, none⟩ = some (.int .i64 t296) := (blk_cell BK301.out 5).trans rfl
                        have hcz40_6 : wc.cell? ⟨gb301, 6, none⟩ = some (.bool t297) := (blk_cell BK301.out 6).trans rfl
                        have hcz40_7 : wc.cell? ⟨gb301, 7, none⟩ = some (.int .i64 t298) := (blk_cell BK301.out 7).trans rfl
                        have hcz40_8 : wc.cell? ⟨gb301, 8, none⟩ = some (.int .u32 t299) := (blk_cell BK301.out 8).trans rfl
                        have hcz40_9 : wc.cell? ⟨gb301, 9, none⟩ = some (.int .u32 t300) := (blk_cell BK301.out 9).trans rfl
                        have hfz40_0 := blk_frozen BK301.out 0
                        have hfz40_1 := blk_frozen BK301.out 1
                        have hfz40_2 := blk_frozen BK301.out 2
                        have hfz40_3 := blk_frozen BK301.out 3
                        have hfz40_4 := blk_frozen BK301.out 4
                        have hfz40_5 := blk_frozen BK301.out 5
                        have hfz40_6 := blk_frozen BK301.out 6
                        have hfz40_7 := blk_frozen BK301.out 7
                        have hfz40_8 := blk_frozen BK301.out 8
                        have hfz40_9 := blk_frozen BK301.out 9
                        go_wp2
                        go_ret
                        exact ⟨by first | rfl | (simp [errW_none, errW_some] <;> rfl) | (simp [*, errW_none, errW_some] <;> rfl), by repeat (first | (with_reducible first | exact HB.out | apply below_alloc | apply pw_below_drewN | apply below_drew1 | refine below_set ?_ GE301.out) | exact HB.out)⟩
                      · rw [if_neg c39] at H
                        have c39b0 : decide (0 ≤ t296) = false := decide_eq_false c39
                        clear c39
                        obtain rfl := Option.some.inj H
                        have hcz41_0 : wc.cell? ⟨gb301, 0, none⟩ = some (.int .i64 t291) := (blk_cell BK301.out 0).trans rfl
                        have hcz41_1 : wc.cell? ⟨gb301, 1, none⟩ = some (.int .i64 t292) := (blk_cell BK301.out 1).trans rfl
                        have hcz41_2 : wc.cell? ⟨gb301, 2, none⟩ = some (.int .i64 t293) := (blk_cell BK301.out 2).trans rfl
                        have hcz41_3 : wc.cell? ⟨gb301, 3, none⟩ = some (.int .i64 t294) := (blk_cell BK301.out 3).trans rfl
                        have hcz41_4 : wc.cell? ⟨gb301, 4, none⟩ = some (.int .i64 t295) := (blk_cell BK301.out 4).trans rfl
                        have hcz41_5 : wc.cell? ⟨gb301, 5, none⟩ = some (.int .i64 t296) := (blk_cell BK301.out 5).trans rfl
                        have hcz41_6 : wc.cell? ⟨gb301, 6, none⟩ = some (.bool t297) := (blk_cell BK301.out 6).trans rfl
                        have hcz41_7 : wc.cell? ⟨gb301, 7, none⟩ = some (.int .i64 t298) := (blk_cell BK301.out 7).trans rfl
                        have hcz41_8 : wc.cell? ⟨gb301, 8, none⟩ = some (.int .u32 t299) := (blk_cell BK301.out 8).trans rfl
                        have hcz41_9 : wc.cell? ⟨gb301, 9, none⟩ = some (.int .u32 t300) := (blk_cell BK301.out 9).trans rfl
                        have hfz41_0 := blk_frozen BK301.out 0
                        have hfz41_1 := blk_frozen BK301.out 1
                        have hfz41_2 := blk_frozen BK301.out 2
                        have hfz41_3 := blk_frozen BK301.out 3
                        have hfz41_4 := blk_frozen BK301.out 4
                        have hfz41_5 := blk_frozen BK301.out 5
                        have hfz41_6 := blk_frozen BK301.out 6
                        have hfz41_7 := blk_frozen BK301.out 7
                        have hfz41_8 := blk_frozen BK301.out 8
                        have hfz41_9 := blk_frozen BK301.out 9
                        go_wp2
                        go_ret
                        exact ⟨by first | rfl | (simp [errW_none, errW_some] <;> rfl) | (simp [*, errW_none, errW_some] <;> rfl), by repeat (first | (with_reducible first | exact HB.out | apply below_alloc | apply pw_below_drewN | apply below_drew1 | refine below_set ?_ GE301.out) | exact HB.out)⟩
                    · rw [if_neg c38] at H
                      have c38b0 : decide (t295 ≤ 7) = false := decide_eq_false c38
                      clear c38
                      obtain rfl := Option.some.inj H
                      have hcz42_0 : wc.cell? ⟨gb301, 0, none⟩ = some (.int .i64 t291) := (blk_cell BK301.out 0).trans rfl
                      have hcz42_1 : wc.cell? ⟨gb301, 1, none⟩ = some (.int .i64 t292) := (blk_cell BK301.out 1).trans rfl
                      have hcz42_2 : wc.cell? ⟨gb301, 2, none⟩ = some (.int .i64 t293) := (blk_cell BK301.out 2).trans rfl
                      have hcz42_3 : wc.cell? ⟨gb301, 3, none⟩ = some (.int .i64 t294) := (blk_cell BK301.out 3).trans rfl
                      have hcz42_4 : wc.cell? ⟨gb301, 4, none⟩ = some (.int .i64 t295) := (blk_cell BK301.out 4).trans rfl
                      have hcz42_5 : wc.cell? ⟨gb301, 5, none⟩ = some (.int .i64 t296) := (blk_cell BK301.out 5).trans rfl
                      have hcz42_6 : wc.cell? ⟨gb301, 6, none⟩ = some (.bool t297) := (blk_cell BK301.out 6).trans rfl
                      have hcz42_7 : wc.cell? ⟨gb301, 7, none⟩ = some (.int .i64 t298) := (blk_cell BK301.out 7).trans rfl
                      have hcz42_8 : wc.cell? ⟨gb301, 8, none⟩ = some (.int .u32 t299) := (blk_cell BK301.out 8).trans rfl
                      have hcz42_9 : wc.cell? ⟨gb301, 9, none⟩ = some (.int .u32 t300) := (blk_cell BK301.out 9).trans rfl
                      have hfz42_0 := blk_frozen BK301.out 0
                      have hfz42_1 := blk_frozen BK301.out 1
                      have hfz42_2 := blk_frozen BK301.out 2
                      have hfz42_3 := blk_frozen BK301.out 3
                      have hfz42_4 := blk_frozen BK301.out 4
                      have hfz42_5 := blk_frozen BK301.out 5
                      have hfz42_6 := blk_frozen BK301.out 6
                      have hfz42_7 := blk_frozen BK301.out 7
                      have hfz42_8 := blk_frozen BK301.out 8
                      have hfz42_9 := blk_frozen BK301.out 9
                      go_wp2
                      go_ret
                      exact ⟨by first | rfl | (simp [errW_none, errW_some] <;> rfl) | (simp [*, errW_none, errW_some] <;> rfl), by repeat (first | (with_reducible first | exact HB.out | apply below_alloc | apply pw_below_drewN | apply below_drew1 | refine below_set ?_ GE301.out) | exact HB.out)⟩
                  · rw [if_neg c37] at H
                    have c37b0 : decide (0 ≤ t295) = false := decide_eq_false c37
                    clear c37
                    obtain rfl := Option.some.inj H
                    have hcz43_0 : wc.cell? ⟨gb301, 0, none⟩ = some (.int .i64 t291) := (blk_cell BK301.out 0).trans rfl
                    have hcz43_1 : wc.cell? ⟨gb301, 1, none⟩ = some (.int .i64 t292) := (blk_cell BK301.out 1).trans rfl
                    have hcz43_2 : wc.cell? ⟨gb301, 2, none⟩ = some (.int .i64 t293) := (blk_cell BK301.out 2).trans rfl
                    have hcz43_3 : wc.cell? ⟨gb301, 3, none⟩ = some (.int .i64 t294) := (blk_cell BK301.out 3).trans rfl
                    have hcz43_4 : wc.cell? ⟨gb301, 4, none⟩ = some (.int .i64 t295) := (blk_cell BK301.out 4).trans rfl
                    have hcz43_5 : wc.cell? ⟨gb301, 5, none⟩ = some (.int .i64 t296) := (blk_cell BK301.out 5).trans rfl
                    have hcz43_6 : wc.cell? ⟨gb301, 6, none⟩ = some (.bool t297) := (blk_cell BK301.out 6).trans rfl
                    have hcz43_7 : wc.cell? ⟨gb301, 7, none⟩ = some (.int .i64 t298) := (blk_cell BK301.out 7).trans rfl
                    have hcz43_8 : wc.cell? ⟨gb301, 8, none⟩ = some (.int .u32 t299) := (blk_cell BK301.out 8).trans rfl
                    have hcz43_9 : wc.cell? ⟨gb301, 9, none⟩ = some (.int .u32 t300) := (blk_cell BK301.out 9).trans rfl
                    have hfz43_0 := blk_frozen BK301.out 0
                    have hfz43_1 := blk_frozen BK301.out 1
                    have hfz43_2 := blk_frozen BK301.out 2
                    have hfz43_3 := blk_frozen BK301.out 3
                    have hfz43_4 := blk_frozen BK301.out 4
                    have hfz43_5 := blk_frozen BK301.out 5
                    have hfz43_6 := blk_frozen BK301.out 6
                    have hfz43_7 := blk_frozen BK301.out 7
                    have hfz43_8 := blk_frozen BK301.out 8
                    have hfz43_9 := blk_frozen BK301.out 9
                    go_wp2
                    go_ret
                    exact ⟨by first | rfl | (simp [errW_none, errW_some] <;> rfl) | (simp [*, errW_none, errW_some] <;> rfl), by repeat (first | (with_reducible first | exact HB.out | apply below_alloc | apply pw_below_drewN | apply below_drew1 | refine below_set ?_ GE301.out) | exact HB.out)⟩
                · rw [if_neg c36] at H
                  have c36b0 : decide (t292 ≤ 536870911) = false := decide_eq_false c36
                  clear c36
                  obtain rfl := Option.some.inj H
                  have hcz44_0 : wc.cell? ⟨gb301, 0, none⟩ = some (.int .i64 t291) := (blk_cell BK301.out 0).trans rfl
                  have hcz44_1 : wc.cell? ⟨gb301, 1, none⟩ = some (.int .i64 t292) := (blk_cell BK301.out 1).trans rfl
                  have hcz44_2 : wc.cell? ⟨gb301, 2, none⟩ = some (.int .i64 t293) := (blk_cell BK301.out 2).trans rfl
                  have hcz44_3 : wc.cell? ⟨gb301, 3, none⟩ = some (.int .i64 t294) := (blk_cell BK301.out 3).trans rfl
                  have hcz44_4 : wc.cell? ⟨gb301, 4, none⟩ = some (.int .i64 t295) := (blk_cell BK301.out 4).trans rfl
                  have hcz44_5 : wc.cell? ⟨gb301, 5, none⟩ = some (.int .i64 t296) := (blk_cell BK301.out 5).trans rfl
                  have hcz44_6 : wc.cell? ⟨gb301, 6, none⟩ = some (.bool t297) := (blk_cell BK301.out 6).trans rfl
                  have hcz44_7 : wc.cell? ⟨gb301, 7, none⟩ = some (.int .i64 t298) := (blk_cell BK301.out 7).trans rfl
                  have hcz44_8 : wc.cell? ⟨gb301, 8, none⟩ = some (.int .u32 t299) := (blk_cell BK301.out 8).trans rfl
                  have hcz44_9 : wc.cell? ⟨gb301, 9, none⟩ = some (.int .u32 t300) := (blk_cell BK301.out 9).trans rfl
                  have hfz44_0 := blk_frozen BK301.out 0
                  have hfz44_1 := blk_frozen BK301.out 1
                  have hfz44_2 := blk_frozen BK301.out 2
                  have hfz44_3 := blk_frozen BK301.out 3
                  have hfz44_4 := blk_frozen BK301.out 4
                  have hfz44_5 := blk_frozen BK301.out 5
                  have hfz44_6 := blk_frozen BK301.out 6
                  have hfz44_7 := blk_frozen BK301.out 7
                  have hfz44_8 := blk_frozen BK301.out 8
                  have hfz44_9 := blk_frozen BK301.out 9
                  go_wp2
                  go_ret
                  exact ⟨by first | rfl | (simp [errW_none, errW_some] <;> rfl) | (simp [*, errW_none, errW_some] <;> rfl), by repeat (first | (with_reducible first | exact HB.out | apply below_alloc | apply pw_below_drewN | apply below_drew1 | refine below_set ?_ GE301.out) | exact HB.out)⟩
              · rw [if_neg c35] at H
                have c35b0 : decide ((-536870912) ≤ t292) = false := decide_eq_false c35
                clear c35
                obtain rfl := Option.some.inj H
                have hcz45_0 : wc.cell? ⟨gb301, 0, none⟩ = some (.int .i64 t291) := (blk_cell BK301.out 0).trans rfl
                have hcz45_1 : wc.cell? ⟨gb301, 1, none⟩ = some (.int .i64 t292) := (blk_cell BK301.out 1).trans rfl
                have hcz45_2 : wc.cell? ⟨gb301, 2, none⟩ = some (.int .i64 t293) := (blk_cell BK301.out 2).trans rfl
                have hcz45_3 : wc.cell? ⟨gb301, 3, none⟩ = some (.int .i64 t294) := (blk_cell BK301.out 3).trans rfl
                have hcz45_4 : wc.cell? ⟨gb301, 4, none⟩ = some (.int .i64 t295) := (blk_cell BK301.out 4).trans rfl
                have hcz45_5 : wc.cell? ⟨gb301, 5, none⟩ = some (.int .i64 t296) := (blk_cell BK301.out 5).trans rfl
                have hcz45_6 : wc.cell? ⟨gb301, 6, none⟩ = some (.bool t297) := (blk_cell BK301.out 6).trans rfl
                have hcz45_7 : wc.cell? ⟨gb301, 7, none⟩ = some (.int .i64 t298) := (blk_cell BK301.out 7).trans rfl
                have hcz45_8 : wc.cell? ⟨gb301, 8, none⟩ = some (.int .u32 t299) := (blk_cell BK301.out 8).trans rfl
                have hcz45_9 : wc.cell? ⟨gb301, 9, none⟩ = some (.int .u32 t300) := (blk_cell BK301.out 9).trans rfl
                have hfz45_0 := blk_frozen BK301.out 0
                have hfz45_1 := blk_frozen BK301.out 1
                have hfz45_2 := blk_frozen BK301.out 2
                have hfz45_3 := blk_frozen BK301.out 3
                have hfz45_4 := blk_frozen BK301.out 4
                have hfz45_5 := blk_frozen BK301.out 5
                have hfz45_6 := blk_frozen BK301.out 6
                have hfz45_7 := blk_frozen BK301.out 7
                have hfz45_8 := blk_frozen BK301.out 8
                have hfz45_9 := blk_frozen BK301.out 9
                go_wp2
                go_ret
                exact ⟨by first | rfl | (simp [errW_none, errW_some] <;> rfl) | (simp [*, errW_none, errW_some] <;> rfl), by repeat (first | (with_reducible first | exact HB.out | apply below_alloc | apply pw_below_drewN | apply below_drew1 | refine below_set ?_ GE301.out) | exact HB.out)⟩
            · rw [if_neg c34] at H
              have c34b0 : (t291 == 1) = false := beq_eq_false_iff_ne.mpr c34
              have c34b1 : (t291 != 1) = true := bne_iff_ne.mpr c34
              by_cases c46 : t291 = 2
              · rw [if_pos c46] at H
                have c46b0 : (t291 == 2) = true := beq_iff_eq.mpr c46
                have c46b1 : (t291 != 2) = false := bne_eq_false_iff_eq.mpr c46
                clear c46
                by_cases c47 : t298 ≥ 0
                · rw [if_pos c47] at H
                  have c47b0 : decide (0 ≤ t298) = true := decide_eq_true c47
                  clear c47
                  by_cases c48 : t298 ≤ 536870911
                  · rw [if_pos c48] at H
                    have c48b0 : decide (t298 ≤ 536870911) = true := decide_eq_true c48
                    clear c48
                    obtain rfl := Option.some.inj H
                    have hcz49_0 : wc.cell? ⟨gb301, 0, none⟩ = some (.int .i64 t291) := (blk_cell BK301.out 0).trans rfl
                    have hcz49_1 : wc.cell? ⟨gb301, 1, none⟩ = some (.int .i64 t292) := (blk_cell BK301.out 1).trans rfl
                    have hcz49_2 : wc.cell? ⟨gb301, 2, none⟩ = some (.int .i64 t293) := (blk_cell BK301.out 2).trans rfl
                    have hcz49_3 : wc.cell? ⟨gb301, 3, none⟩ = some (.int .i64 t294) := (blk_cell BK301.out 3).trans rfl
                    have hcz49_4 : wc.cell? ⟨gb301, 4, none⟩ = some (.int .i64 t295) := (blk_cell BK301.out 4).trans rfl
                    have hcz49_5 : wc.cell? ⟨gb301, 5, none⟩ = some (.int .i64 t296) := (blk_cell BK301.out 5).trans rfl
                    have hcz49_6 : wc.cell? ⟨gb301, 6, none⟩ = some (.bool t297) := (blk_cell BK301.out 6).trans rfl
                    have hcz49_7 : wc.cell? ⟨gb301, 7, none⟩ = some (.int .i64 t298) := (blk_cell BK301.out 7).trans rfl
                    have hcz49_8 : wc.cell? ⟨gb301, 8, none⟩ = some (.int .u32 t299) := (blk_cell BK301.out 8).trans rfl
                    have hcz49_9 : wc.cell? ⟨gb301, 9, none⟩ = some (.int .u32 t300) := (blk_cell BK301.out 9).trans rfl
                    have hfz49_0 := blk_frozen BK301.out 0
                    have hfz49_1 := blk_frozen BK301.out 1
                    have hfz49_2 := blk_frozen BK301.out 2
                    have hfz49_3 := blk_frozen BK301.out 3
                    have hfz49_4 := blk_frozen BK301.out 4
                    have hfz49_5 := blk_frozen BK301.out 5
                    have hfz49_6 := blk_frozen BK301.out 6
                    have hfz49_7 := blk_frozen BK301.out 7
                    have hfz49_8 := blk_frozen BK301.out 8
                    have hfz49_9 := blk_frozen BK301.out 9
                    go_wp2
                    go_ret
                    exact ⟨by first | rfl | (simp [errW_none, errW_some] <;> rfl) | (simp [*, errW_none, errW_some] <;> rfl), by repeat (first | (with_reducible first | exact HB.out | apply below_alloc | apply pw_below_drewN | apply below_drew1 | refine below_set ?_ GE301.out) | exact HB.out)⟩
                  · rw [if_neg c48] at H
                    have c48b0 : decide (t298 ≤ 536870911) = false := decide_eq_false c48
                    clear c48
                    obtain rfl := Option.some.inj H
                    have hcz50_0 : wc.cell? ⟨gb301, 0, none⟩ = some (.int .i64 t291) := (blk_cell BK301.out 0).trans rfl
                    have hcz50_1 : wc.cell? ⟨gb301, 1, none⟩ = some (.int .i64 t292) := (blk_cell BK301.out 1).trans rfl
                    have hcz50_2 : wc.cell? ⟨gb301, 2, none⟩ = some (.int .i64 t293) := (blk_cell BK301.out 2).trans rfl
                    have hcz50_3 : wc.cell? ⟨gb301, 3, none⟩ = some (.int .i64 t294) := (blk_cell BK301.out 3).trans rfl
                    have hcz50_4 : wc.cell? ⟨gb301, 4, none⟩ = some (.int .i64 t295) := (blk_cell BK301.out 4).trans rfl
                    have hcz50_5 : wc.cell? ⟨gb301, 5, none⟩ = some (.int .i64 t296) := (blk_cell BK301.out 5).trans rfl
                    have hcz50_6 : wc.cell? ⟨gb301, 6, none⟩ = some (.bool t297) := (blk_cell BK301.out 6).trans rfl
                    have hcz50_7 : wc.cell? ⟨gb301, 7, none⟩ = some (.int .i64 t298) := (blk_cell BK301.out 7).trans rfl
                    have hcz50_8 : wc.cell? ⟨gb301, 8, none⟩ = some (.int .u32 t299) := (blk_cell BK301.out 8).trans rfl
                    have hcz50_9 : wc.cell? ⟨gb301, 9, none⟩ = some (.int .u32 t300) := (blk_cell BK301.out 9).trans rfl
                    have hfz50_0 := blk_frozen BK301.out 0
                    have hfz50_1 := blk_frozen BK301.out 1
                    have hfz50_2 := blk_frozen BK301.out 2
                    have hfz50_3 := blk_frozen BK301.out 3
                    have hfz50_4 := blk_frozen BK301.out 4
                    have hfz50_5 := blk_frozen BK301.out 5
                    have hfz50_6 := blk_frozen BK301.out 6
                    have hfz50_7 := blk_frozen BK301.out 7
                    have hfz50_8 := blk_frozen BK301.out 8
                    have hfz50_9 := blk_frozen BK301.out 9
                    go_wp2
                    go_ret
                    exact ⟨by first | rfl | (simp [errW_none, errW_some] <;> rfl) | (simp [*, errW_none, errW_some] <;> rfl), by repeat (first | (with_reducible first | exact HB.out | apply below_alloc | apply pw_below_drewN | apply below_drew1 | refine below_set ?_ GE301.out) | exact HB.out)⟩
                · rw [if_neg c47] at H
                  have c47b0 : decide (0 ≤ t298) = false := decide_eq_false c47
                  clear c47
                  obtain rfl := Option.some.inj H
                  have hcz51_0 : wc.cell? ⟨gb301, 0, none⟩ = some (.int .i64 t291) := (blk_cell BK301.out 0).trans rfl
                  have hcz51_1 : wc.cell? ⟨gb301, 1, none⟩ = some (.int .i64 t292) := (blk_cell BK301.out 1).trans rfl
                  have hcz51_2 : wc.cell? ⟨gb301, 2, none⟩ = some (.int .i64 t293) := (blk_cell BK301.out 2).trans rfl
                  have hcz51_3 : wc.cell? ⟨gb301, 3, none⟩ = some (.int .i64 t294) := (blk_cell BK301.out 3).trans rfl
                  have hcz51_4 : wc.cell? ⟨gb301, 4, none⟩ = some (.int .i64 t295) := (blk_cell BK301.out 4).trans rfl
                  have hcz51_5 : wc.cell? ⟨gb301, 5, none⟩ = some (.int .i64 t296) := (blk_cell BK301.out 5).trans rfl
                  have hcz51_6 : wc.cell? ⟨gb301, 6, none⟩ = some (.bool t297) := (blk_cell BK301.out 6).trans rfl
                  have hcz51_7 : wc.cell? ⟨gb301, 7, none⟩ = some (.int .i64 t298) := (blk_cell BK301.out 7).trans rfl
                  have hcz51_8 : wc.cell? ⟨gb301, 8, none⟩ = some (.int .u32 t299) := (blk_cell BK301.out 8).trans rfl
                  have hcz51_9 : wc.cell? ⟨gb301, 9, none⟩ = some (.int .u32 t300) := (blk_cell BK301.out 9).trans rfl
                  have hfz51_0 := blk_frozen BK301.out 0
                  have hfz51_1 := blk_frozen BK301.out 1
                  have hfz51_2 := blk_frozen BK301.out 2
                  have hfz51_3 := blk_frozen BK301.out 3
                  have hfz51_4 := blk_frozen BK301.out 4
                  have hfz51_5 := blk_frozen BK301.out 5
                  have hfz51_6 := blk_frozen BK301.out 6
                  have hfz51_7 := blk_frozen BK301.out 7
                  have hfz51_8 := blk_frozen BK301.out 8
                  have hfz51_9 := blk_frozen BK301.out 9
                  go_wp2
                  go_ret
                  exact ⟨by first | rfl | (simp [errW_none, errW_some] <;> rfl) | (simp [*, errW_none, errW_some] <;> rfl), by repeat (first | (with_reducible first | exact HB.out | apply below_alloc | apply pw_below_drewN | apply below_drew1 | refine below_set ?_ GE301.out) | exact HB.out)⟩
              · rw [if_neg c46] at H
                have c46b0 : (t291 == 2) = false := beq_eq_false_iff_ne.mpr c46
                have c46b1 : (t291 != 2) = true := bne_iff_ne.mpr c46
                by_cases c52 : t300 < 1073741824
                · rw [if_pos c52] at H
                  have c52b0 : decide (t300 < 1073741824) = true := decide_eq_true c52
                  clear c52
                  obtain rfl := Option.some.inj H
                  have hcz53_0 : wc.cell? ⟨gb301, 0, none⟩ = some (.int .i64 t291) := (blk_cell BK301.out 0).trans rfl
                  have hcz53_1 : wc.cell? ⟨gb301, 1, none⟩ = some (.int .i64 t292) := (blk_cell BK301.out 1).trans rfl
                  have hcz53_2 : wc.cell? ⟨gb301, 2, none⟩ = some (.int .i64 t293) := (blk_cell BK301.out 2).trans rfl
                  have hcz53_3 : wc.cell? ⟨gb301, 3, none⟩ = some (.int .i64 t294) := (blk_cell BK301.out 3).trans rfl
                  have hcz53_4 : wc.cell? ⟨gb301, 4, none⟩ = some (.int .i64 t295) := (blk_cell BK301.out 4).trans rfl
                  have hcz53_5 : wc.cell? ⟨gb301, 5, none⟩ = some (.int .i64 t296) := (blk_cell BK301.out 5).trans rfl
                  have hcz53_6 : wc.cell? ⟨gb301, 6, none⟩ = some (.bool t297) := (blk_cell BK301.out 6).trans rfl
                  have hcz53_7 : wc.cell? ⟨gb301, 7, none⟩ = some (.int .i64 t298) := (blk_cell BK301.out 7).trans rfl
                  have hcz53_8 : wc.cell? ⟨gb301, 8, none⟩ = some (.int .u32 t299) := (blk_cell BK301.out 8).trans rfl
                  have hcz53_9 : wc.cell? ⟨gb301, 9, none⟩ = some (.int .u32 t300) := (blk_cell BK301.out 9).trans rfl
                  have hfz53_0 := blk_frozen BK301.out 0
                  have hfz53_1 := blk_frozen BK301.out 1
                  have hfz53_2 := blk_frozen BK301.out 2
                  have hfz53_3 := blk_frozen BK301.out 3
                  have hfz53_4 := blk_frozen BK301.out 4
                  have hfz53_5 := blk_frozen BK301.out 5
                  have hfz53_6 := blk_frozen BK301.out 6
                  have hfz53_7 := blk_frozen BK301.out 7
                  have hfz53_8 := blk_frozen BK301.out 8
                  have hfz53_9 := blk_frozen BK301.out 9
                  go_wp2
                  go_ret
                  exact ⟨by first | rfl | (simp [errW_none, errW_some] <;> rfl) | (simp [*, errW_none, errW_some] <;> rfl), by repeat (first | (with_reducible first | exact HB.out | apply below_alloc | apply pw_below_drewN | apply below_drew1 | refine below_set ?_ GE301.out) | exact HB.out)⟩
                · rw [if_neg c52] at H
                  have c52b0 : decide (t300 < 1073741824) = false := decide_eq_false c52
                  clear c52
                  obtain rfl := Option.some.inj H
                  have hcz54_0 : wc.cell? ⟨gb301, 0, none⟩ = some (.int .i64 t291) := (blk_cell BK301.out 0).trans rfl
                  have hcz54_1 : wc.cell? ⟨gb301, 1, none⟩ = some (.int .i64 t292) := (blk_cell BK301.out 1).trans rfl
                  have hcz54_2 : wc.cell? ⟨gb301, 2, none⟩ = some (.int .i64 t293) := (blk_cell BK301.out 2).trans rfl
                  have hcz54_3 : wc.cell? ⟨gb301, 3, none⟩ = some (.int .i64 t294) := (blk_cell BK301.out 3).trans rfl
                  have hcz54_4 : wc.cell? ⟨gb301, 4, none⟩ = some (.int .i64 t295) := (blk_cell BK301.out 4).trans rfl
                  have hcz54_5 : wc.cell? ⟨gb301, 5, none⟩ = some (.int .i64 t296) := (blk_cell BK301.out 5).trans rfl
                  have hcz54_6 : wc.cell? ⟨gb301, 6, none⟩ = some (.bool t297) := (blk_cell BK301.out 6).trans rfl
                  have hcz54_7 : wc.cell? ⟨gb301, 7, none⟩ = some (.int .i64 t298) := (blk_cell BK301.out 7).trans rfl
                  have hcz54_8 : wc.cell? ⟨gb301, 8, none⟩ = some (.int .u32 t299) := (blk_cell BK301.out 8).trans rfl
                  have hcz54_9 : wc.cell? ⟨gb301, 9, none⟩ = some (.int .u32 t300) := (blk_cell BK301.out 9).trans rfl
                  have hfz54_0 := blk_frozen BK301.out 0
                  have hfz54_1 := blk_frozen BK301.out 1
                  have hfz54_2 := blk_frozen BK301.out 2
                  have hfz54_3 := blk_frozen BK301.out 3
                  have hfz54_4 := blk_frozen BK301.out 4
                  have hfz54_5 := blk_frozen BK301.out 5
                  have hfz54_6 := blk_frozen BK301.out 6
                  have hfz54_7 := blk_frozen BK301.out 7
                  have hfz54_8 := blk_frozen BK301.out 8
                  have hfz54_9 := blk_frozen BK301.out 9
                  go_wp2
                  go_ret
                  exact ⟨by first | rfl | (simp [errW_none, errW_some] <;> rfl) | (simp [*, errW_none, errW_some] <;> rfl), by repeat (first | (with_reducible first | exact HB.out | apply below_alloc | apply pw_below_drewN | apply below_drew1 | refine below_set ?_ GE301.out) | exact HB.out)⟩
  · replace c3 := Bool.eq_false_iff.mpr c3
    subst c3
    have H1 : (some false) = some r := by rw [if_neg (show ¬ (false = true) by decide)] at H; exact H
    clear H
    have H := H1
    clear H1
    obtain rfl := Option.some.inj H
    go_enter Tryd.func5, Tryd.ntmps5
    go_wp2_with (first | ((with_reducible refine gate_callee (f := 8) rfl ?_); refine goesL_ (some 4) rfl rfl Tryd.func8 (by kernel_rfl) rfl #[] rfl (by (try simp only [List.map_toArray, List.map_cons, List.map_nil]); first | done | rfl | (simp only [List.length_drop, List.length_take]; rfl)) ?_; (with_reducible refine (capnplaw02_awake.calls  false _ ?side1 A2.out).mono ?_); (case side1 => exact Glob.below HG.out (by repeat (first | (with_reducible first | exact HB.out | apply below_alloc | apply pw_below_drewN | apply below_drew1) | exact HB.out))); rintro e w55 ⟨rfl, hb⟩; refine ⟨_, rfl, ?_⟩; have n0_ := Aside0.mk (below_step (by repeat (first | (with_reducible first | exact HB.out | apply below_alloc | apply pw_below_drewN | apply below_drew1) | exact HB.out)) hb); clear HB; have HB := n0_; clear n0_; (try clear hb); (try clear hb2); (try clear hk); (try clear hi)))
    go_ret
    exact ⟨by first | rfl | (simp [errW_none, errW_some] <;> rfl) | (simp [*, errW_none, errW_some] <;> rfl), by repeat (first | (with_reducible first | exact HB.out | apply below_alloc | apply pw_below_drewN | apply below_drew1) | exact HB.out)⟩

end Go.Proofs.YtlkcmpamjheldaaDoor.P
