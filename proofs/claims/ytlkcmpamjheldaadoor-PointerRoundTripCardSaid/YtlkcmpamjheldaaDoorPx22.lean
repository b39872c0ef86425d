-- Printed by this session's wip/pp.py, out of Lean's print of the program.
import Derived.Test.YtlkcmpamjheldaaDoorPx0
import Derived.Test.YtlkcmpamjheldaaDoorPx1
import Derived.Test.YtlkcmpamjheldaaDoorPx7
import Derived.Test.YtlkcmpamjheldaaDoorPx10
import Derived.Test.YtlkcmpamjheldaaDoorPx11
import Derived.Test.YtlkcmpamjheldaaDoorPx13
namespace Go.Proofs.YtlkcmpamjheldaaDoor.P
open Go.RowKit Go.Proofs.YtlkcmpamjheldaaDoorW.PrintWords Go.Proofs.YtlkcmpamjheldaaDoorW.PrintLast Go.Proofs.YtlkcmpamjheldaaDoorW.PrintMore
attribute [local go_sem] max2_int min2_int max_two min_two max_three min_three max_four min_four   -- for this text's walks alone
set_option linter.unusedVariables false
set_option linter.unusedSimpArgs false

attribute [local go_sem high] eqA25
/-! ### capnplaw02_PointerRoundTrip: function 4 -/
def capnplaw02_PointerRoundTrip.j0 : Nat → Bool → Int → Int → Int → Int → Int → Int → Bool → Int → Int → Int → Int → Int → Int → Int → Int → Int → Bool → Int → Int → Int → Option (Bool)
  | 0, _, _, _, _, _, _, _, _, _, _, _, _, _, _, _, _, _, _, _, _, _ => none
  | k + 1, x34, x258000, x258001, x258002, x258003, x258004, x258005, x258006, x258007, x258008, x258009, x259000, x259001, x259002, x259003, x259004, x259005, x259006, x259007, x259008, x259009 => if x34 = true then (some false) else ((pointer_Encode.f x258000 x258001 x258002 x258003 x258004 x258005 x258006 x258007 x258008 x258009).bind fun bt274 => ((pointer_Encode.f x259000 x259001 x259002 x259003 x259004 x259005 x259006 x259007 x259008 x259009).bind fun bt276 => ((pointer_Valid.f x258000 x258001 x258002 x258003 x258004 x258005 x258006 x258007 x258008 x258009).bind fun t278 => (if (bt274.2 != t278) = true then (some false) else ((pointer_Valid.f x259000 x259001 x259002 x259003 x259004 x259005 x259006 x259007 x259008 x259009).bind fun t279 => (if (bt276.2 != t279) = true then (some false) else (if bt274.2 = true then ((pointer_Decode.f bt274.1).bind fun bt280 => (if (bt280.1 == x258000 && (bt280.2.1 == x258001 && (bt280.2.2.1 == x258002 && (bt280.2.2.2.1 == x258003 && (bt280.2.2.2.2.1 == x258004 && (bt280.2.2.2.2.2.1 == x258005 && (bt280.2.2.2.2.2.2.1 == x258006 && (bt280.2.2.2.2.2.2.2.1 == x258007 && (bt280.2.2.2.2.2.2.2.2.1 == x258008 && (bt280.2.2.2.2.2.2.2.2.2 == x258009)))))))))) = true then (if bt276.2 = true then (some ((bt274.1 == bt276.1) == (x258000 == x259000 && (x258001 == x259001 && (x258002 == x259002 && (x258003 == x259003 && (x258004 == x259004 && (x258005 == x259005 && (x258006 == x259006 && (x258007 == x259007 && (x258008 == x259008 && (x258009 == x259009)))))))))))) else (some true)) else (some false))) else (if bt274.1 = 0 then (some true) else (some false)))))))))
def capnplaw02_PointerRoundTrip.f (k : Nat) (a0 : Int) (a1_0 : Int) (a1_1 : Int) (a1_2 : Int) (a1_3 : Int) (a1_4 : Int) (a1_5 : Int) (a1_6 : Bool) (a1_7 : Int) (a1_8 : Int) (a1_9 : Int) (a2_0 : Int) (a2_1 : Int) (a2_2 : Int) (a2_3 : Int) (a2_4 : Int) (a2_5 : Int) (a2_6 : Bool) (a2_7 : Int) (a2_8 : Int) (a2_9 : Int) : Option (Bool) := (capnplaw02_awake.f).bind fun t259 => (if t259 = true then ((pointer_Decode.f a0).bind fun bt260 => ((pointer_Encode.f bt260.1 bt260.2.1 bt260.2.2.1 bt260.2.2.2.1 bt260.2.2.2.2.1 bt260.2.2.2.2.2.1 bt260.2.2.2.2.2.2.1 bt260.2.2.2.2.2.2.2.1 bt260.2.2.2.2.2.2.2.2.1 bt260.2.2.2.2.2.2.2.2.2).bind fun bt271 => ((pointer_Valid.f bt260.1 bt260.2.1 bt260.2.2.1 bt260.2.2.2.1 bt260.2.2.2.2.1 bt260.2.2.2.2.2.1 bt260.2.2.2.2.2.2.1 bt260.2.2.2.2.2.2.2.1 bt260.2.2.2.2.2.2.2.2.1 bt260.2.2.2.2.2.2.2.2.2).bind fun t273 => (if t273 = true then (if bt271.2 = true then (capnplaw02_PointerRoundTrip.j0 k (bt271.1 != a0) a1_0 a1_1 a1_2 a1_3 a1_4 a1_5 a1_6 a1_7 a1_8 a1_9 a2_0 a2_1 a2_2 a2_3 a2_4 a2_5 a2_6 a2_7 a2_8 a2_9) else (capnplaw02_PointerRoundTrip.j0 k true a1_0 a1_1 a1_2 a1_3 a1_4 a1_5 a1_6 a1_7 a1_8 a1_9 a2_0 a2_1 a2_2 a2_3 a2_4 a2_5 a2_6 a2_7 a2_8 a2_9)) else (capnplaw02_PointerRoundTrip.j0 k true a1_0 a1_1 a1_2 a1_3 a1_4 a1_5 a1_6 a1_7 a1_8 a1_9 a2_0 a2_1 a2_2 a2_3 a2_4 a2_5 a2_6 a2_7 a2_8 a2_9))))) else (some false))
theorem capnplaw02_PointerRoundTrip.mono_l : ∀ k, (∀ y0 y1 y2 y3 y4 y5 y6 y7 y8 y9 y10 y11 y12 y13 y14 y15 y16 y17 y18 y19 y20, LeO (capnplaw02_PointerRoundTrip.j0 k y0 y1 y2 y3 y4 y5 y6 y7 y8 y9 y10 y11 y12 y13 y14 y15 y16 y17 y18 y19 y20) (capnplaw02_PointerRoundTrip.j0 (k + 1) y0 y1 y2 y3 y4 y5 y6 y7 y8 y9 y10 y11 y12 y13 y14 y15 y16 y17 y18 y19 y20))
  | 0 => fun _ _ _ _ _ _ _ _ _ _ _ _ _ _ _ _ _ _ _ _ _ r h => by simp [capnplaw02_PointerRoundTrip.j0] at h
  | k + 1 => by
    have ih0 := capnplaw02_PointerRoundTrip.mono_l k
    · intro y0 y1 y2 y3 y4 y5 y6 y7 y8 y9 y10 y11 y12 y13 y14 y15 y16 y17 y18 y19 y20
      unfold capnplaw02_PointerRoundTrip.j0
      repeat' first
      | (with_reducible exact ih0 _ _ _ _ _ _ _ _ _ _ _ _ _ _ _ _ _ _ _ _ _)
      | (with_reducible exact LeO.refl _)
      | (with_reducible exact LeO.none _)
      | (with_reducible refine LeO.ite ?_ ?_)
      | (with_reducible refine LeO.bind ?_ (fun _ => ?_))
      | exact ih0 _ _ _ _ _ _ _ _ _ _ _ _ _ _ _ _ _ _ _ _ _
      | exact LeO.none _
      | refine LeO.ite ?_ ?_
      | refine LeO.bind ?_ (fun _ => ?_)
theorem capnplaw02_PointerRoundTrip.mono : ∀ a0 a1 a2 a3 a4 a5 a6 a7 a8 a9 a10 a11 a12 a13 a14 a15 a16 a17 a18 a19 a20 k, LeO (capnplaw02_PointerRoundTrip.f k a0 a1 a2 a3 a4 a5 a6 a7 a8 a9 a10 a11 a12 a13 a14 a15 a16 a17 a18 a19 a20) (capnplaw02_PointerRoundTrip.f (k + 1) a0 a1 a2 a3 a4 a5 a6 a7 a8 a9 a10 a11 a12 a13 a14 a15 a16 a17 a18 a19 a20) := by
  intro a0 a1 a2 a3 a4 a5 a6 a7 a8 a9 a10 a11 a12 a13 a14 a15 a16 a17 a18 a19 a20 k
  have ih0 := capnplaw02_PointerRoundTrip.mono_l k
  unfold capnplaw02_PointerRoundTrip.f
  repeat' first
      | (with_reducible exact ih0 _ _ _ _ _ _ _ _ _ _ _ _ _ _ _ _ _ _ _ _ _)
      | (with_reducible exact LeO.refl _)
      | (with_reducible exact LeO.none _)
      | (with_reducible refine LeO.ite ?_ ?_)
      | (with_reducible refine LeO.bind ?_ (fun _ => ?_))
      | exact ih0 _ _ _ _ _ _ _ _ _ _ _ _ _ _ _ _ _ _ _ _ _
      | exact LeO.none _
      | refine LeO.ite ?_ ?_
      | refine LeO.bind ?_ (fun _ => ?_)
def capnplaw02_PointerRoundTrip.T11 : Bool × List (List Nat × List Nat) := (true, [([], []), ([0], [0]), ([1], [1]), ([2], [2]), ([3, 2, 2], [2, 3]), ([2], [2]), ([4, 5, 2], [2, 4, 5]), ([2, 6], [2, 6]), ([7, 4], [7]), ([8], [8]), ([9, 8], [8, 9]), ([10, 8, 8], [8, 10]), ([11], [11]), ([12, 11], [11, 12]), ([11, 13, 8], [8, 11, 13]), ([14, 11, 8], [8, 14]), ([15], [15]), ([15], [15]), ([16, 17, 15], [15, 16, 17]), ([15], [15]), ([15], [15]), ([19, 20, 15], [15, 19, 20]), ([18, 21, 15], [15, 18, 21]), ([15, 22, 8], [8, 15, 22]), ([8, 23], [8, 23]), ([24, 15, 0, 1, 2, 3, 4, 5, 6, 7, 8, 9, 10, 11, 12, 13, 14, 15, 16, 17, 18, 19, 20, 21, 22, 23, 24], [24])])
def capnplaw02_PointerRoundTrip.B11 : List Nat := [0, 1, 3, 7, 15, 7, 63, 127, 255, 511, 1023, 2047, 4095, 8191, 16383, 32767, 65535, 65535, 262143, 65535, 65535, 1638399, 4194303, 8388607, 16777215, 33554431]
theorem capnplaw02_PointerRoundTrip.tab11 : rtab .any (opsOf Tryd.f4 11) = capnplaw02_PointerRoundTrip.T11 := by kernel_rfl
theorem capnplaw02_PointerRoundTrip.bits11 : waitsOk capnplaw02_PointerRoundTrip.T11.2 capnplaw02_PointerRoundTrip.B11 = true := by kernel_rfl
set_option maxHeartbeats 8000000 in
set_option maxRecDepth 100000 in
theorem capnplaw02_PointerRoundTrip.calls (k : Nat) (a0 : Int) (a1_0 : Int) (a1_1 : Int) (a1_2 : Int) (a1_3 : Int) (a1_4 : Int) (a1_5 : Int) (a1_6 : Bool) (a1_7 : Int) (a1_8 : Int) (a1_9 : Int) (a2_0 : Int) (a2_1 : Int) (a2_2 : Int) (a2_3 : Int) (a2_4 : Int) (a2_5 : Int) (a2_6 : Bool) (a2_7 : Int) (a2_8 : Int) (a2_9 : Int) (r : Bool) (w : World) (hG : Glob w) (h : capnplaw02_PointerRoundTrip.f k a0 a1_0 a1_1 a1_2 a1_3 a1_4 a1_5 a1_6 a1_7 a1_8 a1_9 a2_0 a2_1 a2_2 a2_3 a2_4 a2_5 a2_6 a2_7 a2_8 a2_9 = some r) :
    Calls Tryd.prog 4 #[.int .u64 a0, .agg #[.int .i64 a1_0, .int .i64 a1_1, .int .i64 a1_2, .int .i64 a1_3, .int .i64 a1_4, .int .i64 a1_5, .bool a1_6, .int .i64 a1_7, .int .u32 a1_8, .int .u32 a1_9], .agg #[.int .i64 a2_0, .int .i64 a2_1, .int .i64 a2_2, .int .i64 a2_3, .int .i64 a2_4, .int .i64 a2_5, .bool a2_6, .int .i64 a2_7, .int .u32 a2_8, .int .u32 a2_9]] w fun e w' => e = .returned (.bool r) ∧ Below w.heap.size w w' := by
  have hu25 := Tryd.underlying25
  have HG := Aside0.mk hG
  clear hG
  have HB := Aside0.mk (Below.refl w.heap.size w)
  have H : ((capnplaw02_awake.f).bind fun t259 => (if t259 = true then ((pointer_Decode.f a0).bind fun bt260 => ((pointer_Encode.f bt260.1 bt260.2.1 bt260.2.2.1 bt260.2.2.2.1 bt260.2.2.2.2.1 bt260.2.2.2.2.2.1 bt260.2.2.2.2.2.2.1 bt260.2.2.2.2.2.2.2.1 bt260.2.2.2.2.2.2.2.2.1 bt260.2.2.2.2.2.2.2.2.2).bind fun bt271 => ((pointer_Valid.f bt260.1 bt260.2.1 bt260.2.2.1 bt260.2.2.2.1 bt260.2.2.2.2.1 bt260.2.2.2.2.2.1 bt260.2.2.2.2.2.2.1 bt260.2.2.2.2.2.2.2.1 bt260.2.2.2.2.2.2.2.2.1 bt260.2.2.2.2.2.2.2.2.2).bind fun t273 => (if t273 = true then (if bt271.2 = true then (capnplaw02_PointerRoundTrip.j0 k (bt271.1 != a0) a1_0 a1_1 a1_2 a1_3 a1_4 a1_5 a1_6 a1_7 a1_8 a1_9 a2_0 a2_1 a2_2 a2_3 a2_4 a2_5 a2_6 a2_7 a2_8 a2_9) else (capnplaw02_PointerRoundTrip.j0 k true a1_0 a1_1 a1_2 a1_3 a1_4 a1_5 a1_6 a1_7 a1_8 a1_9 a2_0 a2_1 a2_2 a2_3 a2_4 a2_5 a2_6 a2_7 a2_8 a2_9)) else (capnplaw02_PointerRoundTrip.j0 k true a1_0 a1_1 a1_2 a1_3 a1_4 a1_5 a1_6 a1_7 a1_8 a1_9 a2_0 a2_1 a2_2 a2_3 a2_4 a2_5 a2_6 a2_7 a2_8 a2_9))))) else (some false))) = some r := h
  clear h
  replace H := Option.bind_eq_some_iff.mp H
  obtain ⟨t259, A40, H⟩ := H
  replace H : (if t259 = true then ((pointer_Decode.f a0).bind fun bt260 => ((pointer_Encode.f bt260.1 bt260.2.1 bt260.2.2.1 bt260.2.2.2.1 bt260.2.2.2.2.1 bt260.2.2.2.2.2.1 bt260.2.2.2.2.2.2.1 bt260.2.2.2.2.2.2.2.1 bt260.2.2.2.2.2.2.2.2.1 bt260.2.2.2.2.2.2.2.2.2).bind fun bt271 => ((pointer_Valid.f bt260.1 bt260.2.1 bt260.2.2.1 bt260.2.2.2.1 bt260.2.2.2.2.1 bt260.2.2.2.2.2.1 bt260.2.2.2.2.2.2.1 bt260.2.2.2.2.2.2.2.1 bt260.2.2.2.2.2.2.2.2.1 bt260.2.2.2.2.2.2.2.2.2).bind fun t273 => (if t273 = true then (if bt271.2 = true then (capnplaw02_PointerRoundTrip.j0 k (bt271.1 != a0) a1_0 a1_1 a1_2 a1_3 a1_4 a1_5 a1_6 a1_7 a1_8 a1_9 a2_0 a2_1 a2_2 a2_3 a2_4 a2_5 a2_6 a2_7 a2_8 a2_9) else (capnplaw02_PointerRoundTrip.j0 k true a1_0 a1_1 a1_2 a1_3 a1_4 a1_5 a1_6 a1_7 a1_8 a1_9 a2_0 a2_1 a2_2 a2_3 a2_4 a2_5 a2_6 a2_7 a2_8 a2_9)) else (capnplaw02_PointerRoundTrip.j0 k true a1_0 a1_1 a1_2 a1_3 a1_4 a1_5 a1_6 a1_7 a1_8 a1_9 a2_0 a2_1 a2_2 a2_3 a2_4 a2_5 a2_6 a2_7 a2_8 a2_9))))) else (some false)) = some r := H
  have A4 := Aside0.mk A40
  clear A40
  by_cases c5 : t259 = true
  · subst c5
    have H1 : ((pointer_Decode.f a0).bind fun bt260 => ((pointer_Encode.f bt260.1 bt260.2.1 bt260.2.2.1 bt260.2.2.2.1 bt260.2.2.2.2.1 bt260.2.2.2.2.2.1 bt260.2.2.2.2.2.2.1 bt260.2.2.2.2.2.2.2.1 bt260.2.2.2.2.2.2.2.2.1 bt260.2.2.2.2.2.2.2.2.2).bind fun bt271 => ((pointer_Valid.f bt260.1 bt260.2.1 bt260.2.2.1 bt260.2.2.2.1 bt260.2.2.2.2.1 bt260.2.2.2.2.2.1 bt260.2.2.2.2.2.2.1 bt260.2.2.2.2.2.2.2.1 bt260.2.2.2.2.2.2.2.2.1 bt260.2.2.2.2.2.2.2.2.2).bind fun t273 => (if t273 = true then (if bt271.2 = true then (capnplaw02_PointerRoundTrip.j0 k (bt271.1 != a0) a1_0 a1_1 a1_2 a1_3 a1_4 a1_5 a1_6 a1_7 a1_8 a1_9 a2_0 a2_1 a2_2 a2_3 a2_4 a2_5 a2_6 a2_7 a2_8 a2_9) else (capnplaw02_PointerRoundTrip.j0 k true a1_0 a1_1 a1_2 a1_3 a1_4 a1_5 a1_6 a1_7 a1_8 a1_9 a2_0 a2_1 a2_2 a2_3 a2_4 a2_5 a2_6 a2_7 a2_8 a2_9)) else (capnplaw02_PointerRoundTrip.j0 k true a1_0 a1_1 a1_2 a1_3 a1_4 a1_5 a1_6 a1_7 a1_8 a1_9 a2_0 a2_1 a2_2 a2_3 a2_4 a2_5 a2_6 a2_7 a2_8 a2_9))))) = some r := by rw [if_pos rfl] at H; exact H
    clear H
    have H := H1
    clear H1
    replace H := Option.bind_eq_some_iff.mp H
    obtain ⟨⟨t260, t261, t262, t263, t264, t265, t266, t267, t268, t269⟩, A60, H⟩ := H
    replace H : ((pointer_Encode.f t260 t261 t262 t263 t264 t265 t266 t267 t268 t269).bind fun bt271 => ((pointer_Valid.f t260 t261 t262 t263 t264 t265 t266 t267 t268 t269).bind fun t273 => (if t273 = true then (if bt271.2 = true then (capnplaw02_PointerRoundTrip.j0 k (bt271.1 != a0) a1_0 a1_1 a1_2 a1_3 a1_4 a1_5 a1_6 a1_7 a1_8 a1_9 a2_0 a2_1 a2_2 a2_3 a2_4 a2_5 a2_6 a2_7 a2_8 a2_9) else (capnplaw02_PointerRoundTrip.j0 k true a1_0 a1_1 a1_2 a1_3 a1_4 a1_5 a1_6 a1_7 a1_8 a1_9 a2_0 a2_1 a2_2 a2_3 a2_4 a2_5 a2_6 a2_7 a2_8 a2_9)) else (capnplaw02_PointerRoundTrip.j0 k true a1_0 a1_1 a1_2 a1_3 a1_4 a1_5 a1_6 a1_7 a1_8 a1_9 a2_0 a2_1 a2_2 a2_3 a2_4 a2_5 a2_6 a2_7 a2_8 a2_9)))) = some r := H
    have A6 := Aside0.mk A60
    clear A60
    replace H := Option.bind_eq_some_iff.mp H
    obtain ⟨⟨t271, t272⟩, A70, H⟩ := H
    replace H : ((pointer_Valid.f t260 t261 t262 t263 t264 t265 t266 t267 t268 t269).bind fun t273 => (if t273 = true then (if t272 = true then (capnplaw02_PointerRoundTrip.j0 k (t271 != a0) a1_0 a1_1 a1_2 a1_3 a1_4 a1_5 a1_6 a1_7 a1_8 a1_9 a2_0 a2_1 a2_2 a2_3 a2_4 a2_5 a2_6 a2_7 a2_8 a2_9) else (capnplaw02_PointerRoundTrip.j0 k true a1_0 a1_1 a1_2 a1_3 a1_4 a1_5 a1_6 a1_7 a1_8 a1_9 a2_0 a2_1 a2_2 a2_3 a2_4 a2_5 a2_6 a2_7 a2_8 a2_9)) else (capnplaw02_PointerRoundTrip.j0 k true a1_0 a1_1 a1_2 a1_3 a1_4 a1_5 a1_6 a1_7 a1_8 a1_9 a2_0 a2_1 a2_2 a2_3 a2_4 a2_5 a2_6 a2_7 a2_8 a2_9))) = some r := H
    have A7 := Aside0.mk A70
    clear A70
    have HC8 := Aside0.mk H
    clear H
    go_enter Tryd.func4, Tryd.ntmps4
    go_upto_region 5 with (first | ((with_reducible refine gate_dst (N := 4) rfl ?_); refine box_event ?hg (N := 4) ?hd (cs := #[.int .i64 a1_0, .int .i64 a1_1, .int .i64 a1_2, .int .i64 a1_3, .int .i64 a1_4, .int .i64 a1_5, .bool a1_6, .int .i64 a1_7, .int .u32 a1_8, .int .u32 a1_9]) (t := 25) ?hr ?_; (case hd => rfl); (case hg => rfl); (case hr => first | (go_simp; done) | (go_simp; rfl)); intro gb257 hg w9 hbox hb; have n0_ := Aside0.mk (below_step (by repeat (first | (with_reducible first | exact HB.out | apply below_alloc | apply pw_below_drewN | apply below_drew1) | exact HB.out)) hb); have n1_ := Aside0.mk (hbox); have n2_ := Aside0.mk ((by rw [hg]; exact (below_size (by repeat (first | (with_reducible first | exact HB.out | apply below_alloc | apply pw_below_drewN | apply below_drew1) | exact HB.out))) : w.heap.size ≤ gb257)); have n3_ := Aside0.mk ((by rw [hg]; exact (below_size (by repeat (first | (with_reducible first | exact HB.out | apply below_alloc | apply pw_below_drewN | apply below_drew1) | exact HB.out))) : w.heap.size ≤ gb257)); clear HB; have HB := n0_; have BK257 := n1_; have GW257 := n2_; have GE257 := n3_; clear n0_ n1_ n2_ n3_; clear hb hbox hg) | ((with_reducible refine gate_dst (N := 5) rfl ?_); refine box_event ?hg (N := 5) ?hd (cs := #[.int .i64 a2_0, .int .i64 a2_1, .int .i64 a2_2, .int .i64 a2_3, .int .i64 a2_4, .int .i64 a2_5, .bool a2_6, .int .i64 a2_7, .int .u32 a2_8, .int .u32 a2_9]) (t := 25) ?hr ?_; (case hd => rfl); (case hg => rfl); (case hr => first | (go_simp; done) | (go_simp; rfl)); intro gb258 hg w10 hbox hb; have n0_ := Aside0.mk (blk_below (g := gb257) (o := .cells #[.int .i64 a1_0, .int .i64 a1_1, .int .i64 a1_2, .int .i64 a1_3, .int .i64 a1_4, .int .i64 a1_5, .bool a1_6, .int .i64 a1_7, .int .u32 a1_8, .int .u32 a1_9] 25 (0, 0)) (by (with_reducible repeat (first | refine blk_drewN ?_ _ | refine blk_drew ?_ | refine blk_alloc ?_ _)); exact BK257.out) hb); have n1_ := Aside0.mk (below_step (by repeat (first | (with_reducible first | exact HB.out | apply below_alloc | apply pw_below_drewN | apply below_drew1 | refine below_set ?_ GE257.out) | exact HB.out)) hb); have n2_ := Aside0.mk (hbox); have n3_ := Aside0.mk ((by rw [hg]; exact (below_size (by repeat (first | (with_reducible first | exact HB.out | apply below_alloc | apply pw_below_drewN | apply below_drew1 | refine below_set ?_ GE257.out) | exact HB.out))) : w.heap.size ≤ gb258)); have n4_ := Aside0.mk ((by rw [hg]; exact (below_size (by repeat (first | (with_reducible first | exact HB.out | apply below_alloc | apply pw_below_drewN | apply below_drew1 | refine below_set ?_ GE257.out) | exact HB.out))) : w.heap.size ≤ gb258)); have n5_ := Aside0.mk ((by rw [hg]; exact Nat.ne_of_lt (blk_lt (g := gb257) (o := .cells #[.int .i64 a1_0, .int .i64 a1_1, .int .i64 a1_2, .int .i64 a1_3, .int .i64 a1_4, .int .i64 a1_5, .bool a1_6, .int .i64 a1_7, .int .u32 a1_8, .int .u32 a1_9] 25 (0, 0)) (by (with_reducible repeat (first | refine blk_drewN ?_ _ | refine blk_drew ?_ | refine blk_alloc ?_ _)); exact BK257.out)) : gb257 ≠ gb258)); have n6_ := Aside0.mk ((by rw [hg]; exact Nat.ne_of_gt (blk_lt (g := gb257) (o := .cells #[.int .i64 a1_0, .int .i64 a1_1, .int .i64 a1_2, .int .i64 a1_3, .int .i64 a1_4, .int .i64 a1_5, .bool a1_6, .int .i64 a1_7, .int .u32 a1_8, .int .u32 a1_9] 25 (0, 0)) (by (with_reducible repeat (first | refine blk_drewN ?_ _ | refine blk_drew ?_ | refine blk_alloc ?_ _)); exact BK257.out)) : gb258 ≠ gb257)); clear BK257; clear HB; have BK257 := n0_; have HB := n1_; have BK258 := n2_; have GW258 := n3_; have GE258 := n4_; have NB257_258 := n5_; have NB258_257 := n6_; clear n0_ n1_ n2_ n3_ n4_ n5_ n6_; clear hb hbox hg) | ((with_reducible refine gate_callee (f := 8) rfl ?_); refine goesL_ (some 14) rfl rfl Tryd.func8 (by kernel_rfl) rfl #[] rfl (by (try simp only [List.map_toArray, List.map_cons, List.map_nil]); first | done | rfl | (simp only [List.length_drop, List.length_take]; rfl)) ?_; (with_reducible refine (capnplaw02_awake.calls  true _ ?side1 A4.out).mono ?_); (case side1 => exact Glob.below HG.out (by repeat (first | (with_reducible first | exact HB.out | apply below_alloc | apply pw_below_drewN | apply below_drew1 | refine below_set ?_ GE257.out | refine below_set ?_ GE258.out) | exact HB.out))); rintro e w11 ⟨rfl, hb⟩; refine ⟨_, rfl, ?_⟩; have n0_ := Aside0.mk (blk_below (g := gb257) (o := .cells #[.int .i64 a1_0, .int .i64 a1_1, .int .i64 a1_2, .int .i64 a1_3, .int .i64 a1_4, .int .i64 a1_5, .bool a1_6, .int .i64 a1_7, .int .u32 a1_8, .int .u32 a1_9] 25 (0, 0)) (by (with_reducible repeat (first | refine blk_drewN ?_ _ | refine blk_drew ?_ | refine blk_alloc ?_ _)); exact BK257.out) hb); have n1_ := Aside0.mk (blk_below (g := gb258) (o := .cells #[.int .i64 a2_0, .int .i64 a2_1, .int .i64 a2_2, .int .i64 a2_3, .int .i64 a2_4, .int .i64 a2_5, .bool a2_6, .int .i64 a2_7, .int .u32 a2_8, .int .u32 a2_9] 25 (0, 0)) (by (with_reducible repeat (first | refine blk_drewN ?_ _ | refine blk_drew ?_ | refine blk_alloc ?_ _)); exact BK258.out) hb); have n2_ := Aside0.mk (below_step (by repeat (first | (with_reducible first | exact HB.out | apply below_alloc | apply pw_below_drewN | apply below_drew1 | refine below_set ?_ GE257.out | refine below_set ?_ GE258.out) | exact HB.out)) hb); clear BK257; clear BK258; clear HB; have BK257 := n0_; have BK258 := n1_; have HB := n2_; clear n0_ n1_ n2_; (try clear hb); (try clear hb2); (try clear hk); (try clear hi)) | ((with_reducible refine gate_callee (f := 11) rfl ?_); refine goesL_ (some 17) rfl rfl Tryd.func11 (by kernel_rfl) rfl #[.int .u64 a0] rfl (by (try simp only [List.map_toArray, List.map_cons, List.map_nil]); first | done | rfl | (simp only [List.length_drop, List.length_take]; rfl)) ?_; (with_reducible refine (pointer_Decode.calls a0 t260 t261 t262 t263 t264 t265 t266 t267 t268 t269 _ ?side1 A6.out).mono ?_); (case side1 => exact Glob.below HG.out (by repeat (first | (with_reducible first | exact HB.out | apply below_alloc | apply pw_below_drewN | apply below_drew1 | refine below_set ?_ GE257.out | refine below_set ?_ GE258.out) | exact HB.out))); rintro e w12 ⟨rfl, hb⟩; refine ⟨_, rfl, ?_⟩; have n0_ := Aside0.mk (blk_below (g := gb257) (o := .cells #[.int .i64 a1_0, .int .i64 a1_1, .int .i64 a1_2, .int .i64 a1_3, .int .i64 a1_4, .int .i64 a1_5, .bool a1_6, .int .i64 a1_7, .int .u32 a1_8, .int .u32 a1_9] 25 (0, 0)) (by (with_reducible repeat (first | refine blk_drewN ?_ _ | refine blk_drew ?_ | refine blk_alloc ?_ _)); exact BK257.out) hb); have n1_ := Aside0.mk (blk_below (g := gb258) (o := .cells #[.int .i64 a2_0, .int .i64 a2_1, .int .i64 a2_2, .int .i64 a2_3, .int .i64 a2_4, .int .i64 a2_5, .bool a2_6, .int .i64 a2_7, .int .u32 a2_8, .int .u32 a2_9] 25 (0, 0)) (by (with_reducible repeat (first | refine blk_drewN ?_ _ | refine blk_drew ?_ | refine blk_alloc ?_ _)); exact BK258.out) hb); have n2_ := Aside0.mk (below_step (by repeat (first | (with_reducible first | exact HB.out | apply below_alloc | apply pw_below_drewN | apply below_drew1 | refine below_set ?_ GE257.out | refine below_set ?_ GE258.out) | exact HB.out)) hb); clear BK257; clear BK258; clear HB; have BK257 := n0_; have BK258 := n1_; have HB := n2_; clear n0_ n1_ n2_; (try clear hb); (try clear hb2); (try clear hk); (try clear hi)) | ((with_reducible refine gate_dst (N := 7) rfl ?_); refine box_event ?hg (N := 7) ?hd (cs := #[.int .i64 0, .int .i64 0, .int .i64 0, .int .i64 0, .int .i64 0, .int .i64 0, .bool false, .int .i64 0, .int .u32 0, .int .u32 0]) (t := 25) ?hr ?_; (case hd => rfl); (case hg => rfl); (case hr => first | (go_simp; done) | (go_simp; rfl)); intro gb270 hg w13 hbox hb; have n0_ := Aside0.mk (blk_below (g := gb257) (o := .cells #[.int .i64 a1_0, .int .i64 a1_1, .int .i64 a1_2, .int .i64 a1_3, .int .i64 a1_4, .int .i64 a1_5, .bool a1_6, .int .i64 a1_7, .int .u32 a1_8, .int .u32 a1_9] 25 (0, 0)) (by (with_reducible repeat (first | refine blk_drewN ?_ _ | refine blk_drew ?_ | refine blk_alloc ?_ _)); exact BK257.out) hb); have n1_ := Aside0.mk (blk_below (g := gb258) (o := .cells #[.int .i64 a2_0, .int .i64 a2_1, .int .i64 a2_2, .int .i64 a2_3, .int .i64 a2_4, .int .i64 a2_5, .bool a2_6, .int .i64 a2_7, .int .u32 a2_8, .int .u32 a2_9] 25 (0, 0)) (by (with_reducible repeat (first | refine blk_drewN ?_ _ | refine blk_drew ?_ | refine blk_alloc ?_ _)); exact BK258.out) hb); have n2_ := Aside0.mk (below_step (by repeat (first | (with_reducible first | exact HB.out | apply below_alloc | apply pw_below_drewN | apply below_drew1 | refine below_set ?_ GE257.out | refine below_set ?_ GE258.out) | exact HB.out)) hb); have n3_ := Aside0.mk (hbox); have n4_ := Aside0.mk ((by rw [hg]; exact (below_size (by repeat (first | (with_reducible first | exact HB.out | apply below_alloc | apply pw_below_drewN | apply below_drew1 | refine below_set ?_ GE257.out | refine below_set ?_ GE258.out) | exact HB.out))) : w.heap.size ≤ gb270)); have n5_ := Aside0.mk ((by rw [hg]; exact (below_size (by repeat (first | (with_reducible first | exact HB.out | apply below_alloc | apply pw_below_drewN | apply below_drew1 | refine below_set ?_ GE257.out | refine below_set ?_ GE258.out) | exact HB.out))) : w.heap.size ≤ gb270)); have n6_ := Aside0.mk ((by rw [hg]; exact Nat.ne_of_lt (blk_lt (g := gb257) (o := .cells #[.int .i64 a1_0, .int .i64 a1_1, .int .i64 a1_2, .int .i64 a1_3, .int .i64 a1_4, .int .i64 a1_5, .bool a1_6, .int .i64 a1_7, .int .u32 a1_8, .int .u32 a1_9] 25 (0, 0)) (by (with_reducible repeat (first | refine blk_drewN ?_ _ | refine blk_drew ?_ | refine blk_alloc ?_ _)); exact BK257.out)) : gb257 ≠ gb270)); have n7_ := Aside0.mk ((by rw [hg]; exact Nat.ne_of_gt (blk_lt (g := gb257) (o := .cells #[.int .i64 a1_0, .int .i64 a1_1, .int .i64 a1_2, .int .i64 a1_3, .int .i64 a1_4, .int .i64 a1_5, .bool a1_6, .int .i64 a1_7, .int .u32 a1_8, .int .u32 a1_9] 25 (0, 0)) (by (with_reducible repeat (first | refine blk_drewN ?_ _ | refine blk_drew ?_ | refine blk_alloc ?_ _)); exact BK257.out)) : gb270 ≠ gb257)); have n8_ := Aside0.mk ((by rw [hg]; exact Nat.ne_of_lt (blk_lt (g := gb258) (o := .cells #[.int .i64 a2_0, .int .i64 a2_1, .int .i64 a2_2, .int .i64 a2_3, .int .i64 a2_4, .int .i64 a2_5, .bool a2_6, .int .i64 a2_7, .int .u32 a2_8, .int .u32 a2_9] 25 (0, 0)) (by (with_reducible repeat (first | refine blk_drewN ?_ _ | refine blk_drew ?_ | refine blk_alloc ?_ _)); exact BK258.out)) : gb258 ≠ gb270)); have n9_ := Aside0.mk ((by rw [hg]; exact Nat.ne_of_gt (blk_lt (g := gb258) (o := .cells #[.int .i64 a2_0, .int .i64 a2_1, .int .i64 a2_2, .int .i64 a2_3, .int .i64 a2_4, .int .i64 a2_5, .bool a2_6, .int .i64 a2_7, .int .u32 a2_8, .int .u32 a2_9] 25 (0, 0)) (by (with_reducible repeat (first | refine blk_drewN ?_ _ | refine blk_drew ?_ | refine blk_alloc ?_ _)); exact BK258.out)) : gb270 ≠ gb258)); clear BK257; clear BK258; clear HB; have BK257 := n0_; have BK258 := n1_; have HB := n2_; have BK270 := n3_; have GW270 := n4_; have GE270 := n5_; have NB257_270 := n6_; have NB270_257 := n7_; have NB258_270 := n8_; have NB270_258 := n9_; clear n0_ n1_ n2_ n3_ n4_ n5_ n6_ n7_ n8_ n9_; clear hb hbox hg; have hnb14 := NB270_257.out; have hnc14 := NB257_270.out; have hnb15 := NB270_258.out; have hnc15 := NB258_270.out; have hcz16_0 : w13.cell? ⟨gb270, 0, none⟩ = some (.int .i64 0) := (blk_cell BK270.out 0).trans rfl; have hcz16_1 : w13.cell? ⟨gb270, 1, none⟩ = some (.int .i64 0) := (blk_cell BK270.out 1).trans rfl; have hcz16_2 : w13.cell? ⟨gb270, 2, none⟩ = some (.int .i64 0) := (blk_cell BK270.out 2).trans rfl; have hcz16_3 : w13.cell? ⟨gb270, 3, none⟩ = some (.int .i64 0) := (blk_cell BK270.out 3).trans rfl; have hcz16_4 : w13.cell? ⟨gb270, 4, none⟩ = some (.int .i64 0) := (blk_cell BK270.out 4).trans rfl; have hcz16_5 : w13.cell? ⟨gb270, 5, none⟩ = some (.int .i64 0) := (blk_cell BK270.out 5).trans rfl; have hcz16_6 : w13.cell? ⟨gb270, 6, none⟩ = some (.bool false) := (blk_cell BK270.out 6).trans rfl; have hcz16_7 : w13.cell? ⟨gb270, 7, none⟩ = some (.int .i64 0) := (blk_cell BK270.out 7).trans rfl; have hcz16_8 : w13.cell? ⟨gb270, 8, none⟩ = some (.int .u32 0) := (blk_cell BK270.out 8).trans rfl; have hcz16_9 : w13.cell? ⟨gb270, 9, none⟩ = some (.int .u32 0) := (blk_cell BK270.out 9).trans rfl; have hfz16_0 := blk_frozen BK270.out 0; have hfz16_1 := blk_frozen BK270.out 1; have hfz16_2 := blk_frozen BK270.out 2; have hfz16_3 := blk_frozen BK270.out 3; have hfz16_4 := blk_frozen BK270.out 4; have hfz16_5 := blk_frozen BK270.out 5; have hfz16_6 := blk_frozen BK270.out 6; have hfz16_7 := blk_frozen BK270.out 7; have hfz16_8 := blk_frozen BK270.out 8; have hfz16_9 := blk_frozen BK270.out 9) | ((with_reducible refine gate_callee (f := 9) rfl ?_); refine goesL_ (some 20) rfl rfl Tryd.func9 (by kernel_rfl) rfl #[.agg #[.int .i64 t260, .int .i64 t261, .int .i64 t262, .int .i64 t263, .int .i64 t264, .int .i64 t265, .bool t266, .int .i64 t267, .int .u32 t268, .int .u32 t269]] rfl (by (try simp only [List.map_toArray, List.map_cons, List.map_nil]); first | done | rfl | (simp only [List.length_drop, List.length_take]; rfl)) ?_; (with_reducible refine (pointer_Encode.calls t260 t261 t262 t263 t264 t265 t266 t267 t268 t269 t271 t272 _ ?side1 A7.out).mono ?_); (case side1 => exact Glob.below HG.out (by repeat (first | (with_reducible first | exact HB.out | apply below_alloc | apply pw_below_drewN | apply below_drew1 | refine below_set ?_ GE257.out | refine below_set ?_ GE258.out | refine below_set ?_ GE270.out) | exact HB.out))); rintro e w17 ⟨rfl, hb⟩; refine ⟨_, rfl, ?_⟩; have n0_ := Aside0.mk (blk_below (g := gb257) (o := .cells #[.int .i64 a1_0, .int .i64 a1_1, .int .i64 a1_2, .int .i64 a1_3, .int .i64 a1_4, .int .i64 a1_5, .bool a1_6, .int .i64 a1_7, .int .u32 a1_8, .int .u32 a1_9] 25 (0, 0)) (by (with_reducible repeat (first | refine blk_drewN ?_ _ | refine blk_drew ?_ | refine blk_alloc ?_ _)); refine blk_far ?_ NB257_270.out _; (with_reducible repeat (first | refine blk_drewN ?_ _ | refine blk_drew ?_ | refine blk_alloc ?_ _)); refine blk_far ?_ NB257_270.out _; (with_reducible repeat (first | refine blk_drewN ?_ _ | refine blk_drew ?_ | refine blk_alloc ?_ _)); refine blk_far ?_ NB257_270.out _; (with_reducible repeat (first | refine blk_drewN ?_ _ | refine blk_drew ?_ | refine blk_alloc ?_ _)); refine blk_far ?_ NB257_270.out _; (with_reducible repeat (first | refine blk_drewN ?_ _ | refine blk_drew ?_ | refine blk_alloc ?_ _)); refine blk_far ?_ NB257_270.out _; (with_reducible repeat (first | refine blk_drewN ?_ _ | refine blk_drew ?_ | refine blk_alloc ?_ _)); refine blk_far ?_ NB257_270.out _; (with_reducible repeat (first | refine blk_drewN ?_ _ | refine blk_drew ?_ | refine blk_alloc ?_ _)); refine blk_far ?_ NB257_270.out _; (with_reducible repeat (first | refine blk_drewN ?_ _ | refine blk_drew ?_ | refine blk_alloc ?_ _)); refine blk_far ?_ NB257_270.out _; (with_reducible repeat (first | refine blk_drewN ?_ _ | refine blk_drew ?_ | refine blk_alloc ?_ _)); refine blk_far ?_ NB257_270.out _; (with_reducible repeat (first | refine blk_drewN ?_ _ | refine blk_drew ?_ | refine blk_alloc ?_ _)); refine blk_far ?_ NB257_270.out _; (with_reducible repeat (first | refine blk_drewN ?_ _ | refine blk_drew ?_ | refine blk_alloc ?_ _)); exact BK257.out) hb); have n1_ := Aside0.mk (blk_below (g := gb258) (o := .cells #[.int .i64 a2_0, .int .i64 a2_1, .int .i64 a2_2, .int .i64 a2_3, .int .i64 a2_4, .int .i64 a2_5, .bool a2_6, .int .i64 a2_7, .int .u32 a2_8, .int .u32 a2_9] 25 (0, 0)) (by (with_reducible repeat (first | refine blk_drewN ?_ _ | refine blk_drew ?_ | refine blk_alloc ?_ _)); refine blk_far ?_ NB258_270.out _; (with_reducible repeat (first | refine blk_drewN ?_ _ | refine blk_drew ?_ | refine blk_alloc ?_ _)); refine blk_far ?_ NB258_270.out _; (with_reducible repeat (first | refine blk_drewN ?_ _ | refine blk_drew ?_ | refine blk_alloc ?_ _)); refine blk_far ?_ NB258_270.out _; (with_reducible repeat (first | refine blk_drewN ?_ _ | refine blk_drew ?_ | refine blk_alloc ?_ _)); refine blk_far ?_ NB258_270.out _; (with_reducible repeat (first | refine blk_drewN ?_ _ | refine blk_drew ?_ | refine blk_alloc ?_ _)); refine blk_far ?_ NB258_270.out _; (with_reducible repeat (first | refine blk_drewN ?_ _ | refine blk_drew ?_ | refine blk_alloc ?_ _)); refine blk_far ?_ NB258_270.out _; (with_reducible repeat (first | refine blk_drewN ?_ _ | refine blk_drew ?_ | refine blk_alloc ?_ _)); refine blk_far ?_ NB258_270.out _; (with_reducible repeat (first | refine blk_drewN ?_ _ | refine blk_drew ?_ | refine blk_alloc ?_ _)); refine blk_far ?_ NB258_270.out _; (with_reducible repeat (first | refine blk_drewN ?_ _ | refine blk_drew ?_ | refine blk_alloc ?_ _)); refine blk_far ?_ NB258_270.out _; (with_reducible repeat (first | refine blk_drewN ?_ _ | refine blk_drew ?_ | refine blk_alloc ?_ _)); refine blk_far ?_ NB258_270.out _; (with_reducible repeat (first | refine blk_drewN ?_ _ | refine blk_drew ?_ | refine blk_alloc ?_ _)); exact BK258.out) hb); have n2_ := Aside0.mk (blk_below (g := gb270) (o := .cells #[.int .i64 t260, .int .i64 t261, .int .i64 t262, .int .i64 t263, .int .i64 t264, .int .i64 t265, .bool t266, .int .i64 t267, .int .u32 t268, .int .u32 t269] 25 (0, 0)) (by (with_reducible repeat (first | refine blk_drewN ?_ _ | refine blk_drew ?_ | refine blk_alloc ?_ _)); refine blk_put (cs := #[.int .i64 t260, .int .i64 t261, .int .i64 t262, .int .i64 t263, .int .i64 t264, .int .i64 t265, .bool t266, .int .i64 t267, .int .u32 t268, .int .u32 0]) ?_ 9 _ rfl; (with_reducible repeat (first | refine blk_drewN ?_ _ | refine blk_drew ?_ | refine blk_alloc ?_ _)); refine blk_put (cs := #[.int .i64 t260, .int .i64 t261, .int .i64 t262, .int .i64 t263, .int .i64 t264, .int .i64 t265, .bool t266, .int .i64 t267, .int .u32 0, .int .u32 0]) ?_ 8 _ rfl; (with_reducible repeat (first | refine blk_drewN ?_ _ | refine blk_drew ?_ | refine blk_alloc ?_ _)); refine blk_put (cs := #[.int .i64 t260, .int .i64 t261, .int .i64 t262, .int .i64 t263, .int .i64 t264, .int .i64 t265, .bool t266, .int .i64 0, .int .u32 0, .int .u32 0]) ?_ 7 _ rfl; (with_reducible repeat (first | refine blk_drewN ?_ _ | refine blk_drew ?_ | refine blk_alloc ?_ _)); refine blk_put (cs := #[.int .i64 t260, .int .i64 t261, .int .i64 t262, .int .i64 t263, .int .i64 t264, .int .i64 t265, .bool false, .int .i64 0, .int .u32 0, .int .u32 0]) ?_ 6 _ rfl; (with_reducible repeat (first | refine blk_drewN ?_ _ | refine blk_drew ?_ | refine blk_alloc ?_ _)); refine blk_put (cs := #[.int .i64 t260, .int .i64 t261, .int .i64 t262, .int .i64 t263, .int .i64 t264, .int .i64 0, .bool false, .int .i64 0, .int .u32 0, .int .u32 0]) ?_ 5 _ rfl; (with_reducible repeat (first | refine blk_drewN ?_ _ | refine blk_drew ?_ | refine blk_alloc ?_ _)); refine blk_put (cs := #[.int .i64 t260, .int .i64 t261, .int .i64 t262, .int .i64 t263, .int .i64 0, .int .i64 0, .bool false, .int .i64 0, .int .u32 0, .int .u32 0]) ?_ 4 _ rfl; (with_reducible repeat (first | refine blk_drewN ?_ _ | refine blk_drew ?_ | refine blk_alloc ?_ _)); refine blk_put (cs := #[.int .i64 t260, .int .i64 t261, .int .i64 t262, .int .i64 0, .int .i64 0, .int .i64 0, .bool false, .int .i64 0, .int .u32 0, .int .u32 0]) ?_ 3 _ rfl; (with_reducible repeat (first | refine blk_drewN ?_ _ | refine blk_drew ?_ | refine blk_alloc ?_ _)); refine blk_put (cs := #[.int .i64 t260, .int .i64 t261, .int .i64 0, .int .i64 0, .int .i64 0, .int .i64 0, .bool false, .int .i64 0, .int .u32 0, .int .u32 0]) ?_ 2 _ rfl; (with_reducible repeat (first | refine blk_drewN ?_ _ | refine blk_drew ?_ | refine blk_alloc ?_ _)); refine blk_put (cs := #[.int .i64 t260, .int .i64 0, .int .i64 0, .int .i64 0, .int .i64 0, .int .i64 0, .bool false, .int .i64 0, .int .u32 0, .int .u32 0]) ?_ 1 _ rfl; (with_reducible repeat (first | refine blk_drewN ?_ _ | refine blk_drew ?_ | refine blk_alloc ?_ _)); refine blk_put (cs := #[.int .i64 0, .int .i64 0, .int .i64 0, .int .i64 0, .int .i64 0, .int .i64 0, .bool false, .int .i64 0, .int .u32 0, .int .u32 0]) ?_ 0 _ rfl; (with_reducible repeat (first | refine blk_drewN ?_ _ | refine blk_drew ?_ | refine blk_alloc ?_ _)); exact BK270.out) hb); have n3_ := Aside0.mk (below_step (by repeat (first | (with_reducible first | exact HB.out | apply below_alloc | apply pw_below_drewN | apply below_drew1 | refine below_set ?_ GE257.out | refine below_set ?_ GE258.out | refine below_set ?_ GE270.out) | exact HB.out)) hb); clear BK257; clear BK258; clear BK270; clear HB; have BK257 := n0_; have BK258 := n1_; have BK270 := n2_; have HB := n3_; clear n0_ n1_ n2_ n3_; (try clear hb); (try clear hb2); (try clear hk); (try clear hi)))
    (try simp only [Act.put, List.setIfInBounds_toArray, List.set_cons_zero, List.set_cons_succ])
    go_cut [34] (fun v34 wc => ∃ (kq : Nat) (x34_7 : Bool), v34 = .bool x34_7 ∧ Aside0 (capnplaw02_PointerRoundTrip.j0 kq x34_7 a1_0 a1_1 a1_2 a1_3 a1_4 a1_5 a1_6 a1_7 a1_8 a1_9 a2_0 a2_1 a2_2 a2_3 a2_4 a2_5 a2_6 a2_7 a2_8 a2_9 = some r) ∧ Aside0 (kq ≤ k) ∧ Aside0 (wc.heap[gb257]? = some (.cells #[.int .i64 a1_0, .int .i64 a1_1, .int .i64 a1_2, .int .i64 a1_3, .int .i64 a1_4, .int .i64 a1_5, .bool a1_6, .int .i64 a1_7, .int .u32 a1_8, .int .u32 a1_9] 25 (0, 0))) ∧ Aside0 (wc.heap[gb258]? = some (.cells #[.int .i64 a2_0, .int .i64 a2_1, .int .i64 a2_2, .int .i64 a2_3, .int .i64 a2_4, .int .i64 a2_5, .bool a2_6, .int .i64 a2_7, .int .u32 a2_8, .int .u32 a2_9] 25 (0, 0))) ∧ Aside0 (wc.heap[gb270]? = some (.cells #[.int .i64 t260, .int .i64 t261, .int .i64 t262, .int .i64 t263, .int .i64 t264, .int .i64 t265, .bool t266, .int .i64 t267, .int .u32 t268, .int .u32 t269] 25 (0, 0))) ∧ Aside0 (Below w.heap.size w wc))
    case first =>
      have H := HC8.out
      clear HC8
      replace H := Option.bind_eq_some_iff.mp H
      obtain ⟨t273, A180, H⟩ := H
      replace H : (if t273 = true then (if t272 = true then (capnplaw02_PointerRoundTrip.j0 k (t271 != a0) a1_0 a1_1 a1_2 a1_3 a1_4 a1_5 a1_6 a1_7 a1_8 a1_9 a2_0 a2_1 a2_2 a2_3 a2_4 a2_5 a2_6 a2_7 a2_8 a2_9) else (capnplaw02_PointerRoundTrip.j0 k true a1_0 a1_1 a1_2 a1_3 a1_4 a1_5 a1_6 a1_7 a1_8 a1_9 a2_0 a2_1 a2_2 a2_3 a2_4 a2_5 a2_6 a2_7 a2_8 a2_9)) else (capnplaw02_PointerRoundTrip.j0 k true a1_0 a1_1 a1_2 a1_3 a1_4 a1_5 a1_6 a1_7 a1_8 a1_9 a2_0 a2_1 a2_2 a2_3 a2_4 a2_5 a2_6 a2_7 a2_8 a2_9)) = some r := H
      have A18 := Aside0.mk A180
      clear A180
      by_cases c19 : t273 = true
      · subst c19
        have H1 : (if t272 = true then (capnplaw02_PointerRoundTrip.j0 k (t271 != a0) a1_0 a1_1 a1_2 a1_3 a1_4 a1_5 a1_6 a1_7 a1_8 a1_9 a2_0 a2_1 a2_2 a2_3 a2_4 a2_5 a2_6 a2_7 a2_8 a2_9) else (capnplaw02_PointerRoundTrip.j0 k true a1_0 a1_1 a1_2 a1_3 a1_4 a1_5 a1_6 a1_7 a1_8 a1_9 a2_0 a2_1 a2_2 a2_3 a2_4 a2_5 a2_6 a2_7 a2_8 a2_9)) = some r := by rw [if_pos rfl] at H; exact H
        clear H
        have H := H1
        clear H1
        by_cases c20 : t272 = true
        · subst c20
          have H1 : (capnplaw02_PointerRoundTrip.j0 k (t271 != a0) a1_0 a1_1 a1_2 a1_3 a1_4 a1_5 a1_6 a1_7 a1_8 a1_9 a2_0 a2_1 a2_2 a2_3 a2_4 a2_5 a2_6 a2_7 a2_8 a2_9) = some r := by rw [if_pos rfl] at H; exact H
          clear H
          have H := H1
          clear H1
          have H' := Aside0.mk H
          clear H
          have hnb21 := NB270_257.out
          have hnc21 := NB257_270.out
          have hnb22 := NB270_258.out
          have hnc22 := NB258_270.out
          have hcz23_0 : w17.cell? ⟨gb270, 0, none⟩ = some (.int .i64 t260) := (blk_cell BK270.out 0).trans rfl
          have hcz23_1 : w17.cell? ⟨gb270, 1, none⟩ = some (.int .i64 t261) := (blk_cell BK270.out 1).trans rfl
          have hcz23_2 : w17.cell? ⟨gb270, 2, none⟩ = some (.int .i64 t262) := (blk_cell BK270.out 2).trans rfl
          have hcz23_3 : w17.cell? ⟨gb270, 3, none⟩ = some (.int .i64 t263) := (blk_cell BK270.out 3).trans rfl
          have hcz23_4 : w17.cell? ⟨gb270, 4, none⟩ = some (.int .i64 t264) := (blk_cell BK270.out 4).trans rfl
          have hcz23_5 : w17.cell? ⟨gb270, 5, none⟩ = some (.int .i64 t265) := (blk_cell BK270.out 5).trans rfl
          have hcz23_6 : w17.cell? ⟨gb270, 6, none⟩ = some (.bool t266) := (blk_cell BK270.out 6).trans rfl
          have hcz23_7 : w17.cell? ⟨gb270, 7, none⟩ = some (.int .i64 t267) := (blk_cell BK270.out 7).trans rfl
          have hcz23_8 : w17.cell? ⟨gb270, 8, none⟩ = some (.int .u32 t268) := (blk_cell BK270.out 8).trans rfl
          have hcz23_9 : w17.cell? ⟨gb270, 9, none⟩ = some (.int .u32 t269) := (blk_cell BK270.out 9).trans rfl
          have hfz23_0 := blk_frozen BK270.out 0
          have hfz23_1 := blk_frozen BK270.out 1
          have hfz23_2 := blk_frozen BK270.out 2
          have hfz23_3 := blk_frozen BK270.out 3
          have hfz23_4 := blk_frozen BK270.out 4
          have hfz23_5 := blk_frozen BK270.out 5
          have hfz23_6 := blk_frozen BK270.out 6
          have hfz23_7 := blk_frozen BK270.out 7
          have hfz23_8 := blk_frozen BK270.out 8
          have hfz23_9 := blk_frozen BK270.out 9
          go_wp2_with (first | ((with_reducible refine gate_callee (f := 13) rfl ?_); refine goesL_ (some 24) rfl rfl Tryd.func13 (by kernel_rfl) rfl #[.agg #[.int .i64 t260, .int .i64 t261, .int .i64 t262, .int .i64 t263, .int .i64 t264, .int .i64 t265, .bool t266, .int .i64 t267, .int .u32 t268, .int .u32 t269]] rfl (by (try simp only [List.map_toArray, List.map_cons, List.map_nil]); first | done | rfl | (simp only [List.length_drop, List.length_take]; rfl)) ?_; (with_reducible refine (pointer_Valid.calls t260 t261 t262 t263 t264 t265 t266 t267 t268 t269 true _ ?side1 A18.out).mono ?_); (case side1 => exact Glob.below HG.out (by repeat (first | (with_reducible first | exact HB.out | apply below_alloc | apply pw_below_drewN | apply below_drew1 | refine below_set ?_ GE257.out | refine below_set ?_ GE258.out | refine below_set ?_ GE270.out) | exact HB.out))); rintro e w24 ⟨rfl, hb⟩; refine ⟨_, rfl, ?_⟩; have n0_ := Aside0.mk (blk_below (g := gb257) (o := .cells #[.int .i64 a1_0, .int .i64 a1_1, .int .i64 a1_2, .int .i64 a1_3, .int .i64 a1_4, .int .i64 a1_5, .bool a1_6, .int .i64 a1_7, .int .u32 a1_8, .int .u32 a1_9] 25 (0, 0)) (by (with_reducible repeat (first | refine blk_drewN ?_ _ | refine blk_drew ?_ | refine blk_alloc ?_ _)); exact BK257.out) hb); have n1_ := Aside0.mk (blk_below (g := gb258) (o := .cells #[.int .i64 a2_0, .int .i64 a2_1, .int .i64 a2_2, .int .i64 a2_3, .int .i64 a2_4, .int .i64 a2_5, .bool a2_6, .int .i64 a2_7, .int .u32 a2_8, .int .u32 a2_9] 25 (0, 0)) (by (with_reducible repeat (first | refine blk_drewN ?_ _ | refine blk_drew ?_ | refine blk_alloc ?_ _)); exact BK258.out) hb); have n2_ := Aside0.mk (blk_below (g := gb270) (o := .cells #[.int .i64 t260, .int .i64 t261, .int .i64 t262, .int .i64 t263, .int .i64 t264, .int .i64 t265, .bool t266, .int .i64 t267, .int .u32 t268, .int .u32 t269] 25 (0, 0)) (by (with_reducible repeat (first | refine blk_drewN ?_ _ | refine blk_drew ?_ | refine blk_alloc ?_ _)); exact BK270.out) hb); have n3_ := Aside0.mk (below_step (by repeat (first | (with_reducible first | exact HB.out | apply below_alloc | apply pw_below_drewN | apply below_drew1 | refine below_set ?_ GE257.out | refine below_set ?_ GE258.out | refine below_set ?_ GE270.out) | exact HB.out)) hb); clear BK257; clear BK258; clear BK270; clear HB; have BK257 := n0_; have BK258 := n1_; have BK270 := n2_; have HB := n3_; clear n0_ n1_ n2_ n3_; (try clear hb); (try clear hb2); (try clear hk); (try clear hi)))
          go_meet
          case rel => exact ⟨_, ((t271 != a0)), (by first | rfl | (simp; done) | (simp [*]; done)), H', ⟨by first | omega | exact Nat.le_refl _⟩, ⟨by (with_reducible repeat (first | refine blk_drewN ?_ _ | refine blk_drew ?_ | refine blk_alloc ?_ _)); exact BK257.out⟩, ⟨by (with_reducible repeat (first | refine blk_drewN ?_ _ | refine blk_drew ?_ | refine blk_alloc ?_ _)); exact BK258.out⟩, ⟨by (with_reducible repeat (first | refine blk_drewN ?_ _ | refine blk_drew ?_ | refine blk_alloc ?_ _)); exact BK270.out⟩, ⟨by repeat (first | (with_reducible first | exact HB.out | apply below_alloc | apply pw_below_drewN | apply below_drew1 | refine below_set ?_ GE257.out | refine below_set ?_ GE258.out | refine below_set ?_ GE270.out) | exact HB.out)⟩⟩
        · replace c20 := Bool.eq_false_iff.mpr c20
          subst c20
          have H1 : (capnplaw02_PointerRoundTrip.j0 k true a1_0 a1_1 a1_2 a1_3 a1_4 a1_5 a1_6 a1_7 a1_8 a1_9 a2_0 a2_1 a2_2 a2_3 a2_4 a2_5 a2_6 a2_7 a2_8 a2_9) = some r := by rw [if_neg (show ¬ (false = true) by decide)] at H; exact H
          clear H
          have H := H1
          clear H1
          have H' := Aside0.mk H
          clear H
          have hnb25 := NB270_257.out
          have hnc25 := NB257_270.out
          have hnb26 := NB270_258.out
          have hnc26 := NB258_270.out
          have hcz27_0 : w17.cell? ⟨gb270, 0, none⟩ = some (.int .i64 t260) := (blk_cell BK270.out 0).trans rfl
          have hcz27_1 : w17.cell? ⟨gb270, 1, none⟩ = some (.int .i64 t261) := (blk_cell BK270.out 1).trans rfl
          have hcz27_2 : w17.cell? ⟨gb270, 2, none⟩ = some (.int .i64 t262) := (blk_cell BK270.out 2).trans rfl
          have hcz27_3 : w17.cell? ⟨gb270, 3, none⟩ = some (.int .i64 t263) := (blk_cell BK270.out 3).trans rfl
          have hcz27_4 : w17.cell? ⟨gb270, 4, none⟩ = some (.int .i64 t264) := (blk_cell BK270.out 4).trans rfl
          have hcz27_5 : w17.cell? ⟨gb270, 5, none⟩ = some (.int .i64 t265) := (blk_cell BK270.out 5).trans rfl
          have hcz27_6 : w17.cell? ⟨gb270, 6, none⟩ = some (.bool t266) := (blk_cell BK270.out 6).trans rfl
          have hcz27_7 : w17.cell? ⟨gb270, 7, none⟩ = some (.int .i64 t267) := (blk_cell BK270.out 7).trans rfl
          have hcz27_8 : w17.cell? ⟨gb270, 8, none⟩ = some (.int .u32 t268) := (blk_cell BK270.out 8).trans rfl
          have hcz27_9 : w17.cell? ⟨gb270, 9, none⟩ = some (.int .u32 t269) := (blk_cell BK270.out 9).trans rfl
          have hfz27_0 := blk_frozen BK270.out 0
          have hfz27_1 := blk_frozen BK270.out 1
          have hfz27_2 := blk_frozen BK270.out 2
          have hfz27_3 := blk_frozen BK270.out 3
          have hfz27_4 := blk_frozen BK270.out 4
          have hfz27_5 := blk_frozen BK270.out 5
          have hfz27_6 := blk_frozen BK270.out 6
          have hfz27_7 := blk_frozen BK270.out 7
          have hfz27_8 := blk_frozen BK270.out 8
          have hfz27_9 := blk_frozen BK270.out 9
          go_wp2_with (first | ((with_reducible refine gate_callee (f := 13) rfl ?_); refine goesL_ (some 24) rfl rfl Tryd.func13 (by kernel_rfl) rfl #[.agg #[.int .i64 t260, .int .i64 t261, .int .i64 t262, .int .i64 t263, .int .i64 t264, .int .i64 t265, .bool t266, .int .i64 t267, .int .u32 t268, .int .u32 t269]] rfl (by (try simp only [List.map_toArray, List.map_cons, List.map_nil]); first | done | rfl | (simp only [List.length_drop, List.length_take]; rfl)) ?_; (with_reducible refine (pointer_Valid.calls t260 t261 t262 t263 t264 t265 t266 t267 t268 t269 true _ ?side1 A18.out).mono ?_); (case side1 => exact Glob.below HG.out (by repeat (first | (with_reducible first | exact HB.out | apply below_alloc | apply pw_below_drewN | apply below_drew1 | refine below_set ?_ GE257.out | refine below_set ?_ GE258.out | refine below_set ?_ GE270.out) | exact HB.out))); rintro e w28 ⟨rfl, hb⟩; refine ⟨_, rfl, ?_⟩; have n0_ := Aside0.mk (blk_below (g := gb257) (o := .cells #[.int .i64 a1_0, .int .i64 a1_1, .int .i64 a1_2, .int .i64 a1_3, .int .i64 a1_4, .int .i64 a1_5, .bool a1_6, .int .i64 a1_7, .int .u32 a1_8, .int .u32 a1_9] 25 (0, 0)) (by (with_reducible repeat (first | refine blk_drewN ?_ _ | refine blk_drew ?_ | refine blk_alloc ?_ _)); exact BK257.out) hb); have n1_ := Aside0.mk (blk_below (g := gb258) (o := .cells #[.int .i64 a2_0, .int .i64 a2_1, .int .i64 a2_2, .int .i64 a2_3, .int .i64 a2_4, .int .i64 a2_5, .bool a2_6, .int .i64 a2_7, .int .u32 a2_8, .int .u32 a2_9] 25 (0, 0)) (by (with_reducible repeat (first | refine blk_drewN ?_ _ | refine blk_drew ?_ | refine blk_alloc ?_ _)); exact BK258.out) hb); have n2_ := Aside0.mk (blk_below (g := gb270) (o := .cells #[.int .i64 t260, .int .i64 t261, .int .i64 t262, .int .i64 t263, .int .i64 t264, .int .i64 t265, .bool t266, .int .i64 t267, .int .u32 t268, .int .u32 t269] 25 (0, 0)) (by (with_reducible repeat (first | refine blk_drewN ?_ _ | refine blk_drew ?_ | refine blk_alloc ?_ _)); exact BK270.out) hb); have n3_ := Aside0.mk (below_step (by repeat (first | (with_reducible first | exact HB.out | apply below_alloc | apply pw_below_drewN | apply below_drew1 | refine below_set ?_ GE257.out | refine below_set ?_ GE258.out | refine below_set ?_ GE270.out) | exact HB.out)) hb); clear BK257; clear BK258; clear BK270; clear HB; have BK257 := n0_; have BK258 := n1_; have BK270 := n2_; have HB := n3_; clear n0_ n1_ n2_ n3_; (try clear hb); (try clear hb2); (try clear hk); (try clear hi)))
          go_meet
          case rel => exact ⟨_, (true), (by first | rfl | (simp; done) | (simp [*]; done)), H', ⟨by first | omega | exact Nat.le_refl _⟩, ⟨by (with_reducible repeat (first | refine blk_drewN ?_ _ | refine blk_drew ?_ | refine blk_alloc ?_ _)); exact BK257.out⟩, ⟨by (with_reducible repeat (first | refine blk_drewN ?_ _ | refine blk_drew ?_ | refine blk_alloc ?_ _)); exact BK258.out⟩, ⟨by (with_reducible repeat (first | refine blk_drewN ?_ _ | refine blk_drew ?_ | refine blk_alloc ?_ _)); exact BK270.out⟩, ⟨by repeat (first | (with_reducible first | exact HB.out | apply below_alloc | apply pw_below_drewN | apply below_drew1 | refine below_set ?_ GE257.out | refine below_set ?_ GE258.out | refine below_set ?_ GE270.out) | exact HB.out)⟩⟩
      · replace c19 := Bool.eq_false_iff.mpr c19
        subst c19
        have H1 : (capnplaw02_PointerRoundTrip.j0 k true a1_0 a1_1 a1_2 a1_3 a1_4 a1_5 a1_6 a1_7 a1_8 a1_9 a2_0 a2_1 a2_2 a2_3 a2_4 a2_5 a2_6 a2_7 a2_8 a2_9) = some r := by rw [if_neg (show ¬ (false = true) by decide)] at H; exact H
        clear H
        have H := H1
        clear H1
        have H' := Aside0.mk H
        clear H
        have hnb29 := NB270_257.out
        have hnc29 := NB257_270.out
        have hnb30 := NB270_258.out
        have hnc30 := NB258_270.out
        have hcz31_0 : w17.cell? ⟨gb270, 0, none⟩ = some (.int .i64 t260) := (blk_cell BK270.out 0).trans rfl
        have hcz31_1 : w17.cell? ⟨gb270, 1, none⟩ = some (.int .i64 t261) := (blk_cell BK270.out 1).trans rfl
        have hcz31_2 : w17.cell? ⟨gb270, 2, none⟩ = some (.int .i64 t262) := (blk_cell BK270.out 2).trans rfl
        have hcz31_3 : w17.cell? ⟨gb270, 3, none⟩ = some (.int .i64 t263) := (blk_cell BK270.out 3).trans rfl
        have hcz31_4 : w17.cell? ⟨gb270, 4, none⟩ = some (.int .i64 t264) := (blk_cell BK270.out 4).trans rfl
        have hcz31_5 : w17.cell? ⟨gb270, 5, none⟩ = some (.int .i64 t265) := (blk_cell BK270.out 5).trans rfl
        have hcz31_6 : w17.cell? ⟨gb270, 6, none⟩ = some (.bool t266) := (blk_cell BK270.out 6).trans rfl
        have hcz31_7 : w17.cell? ⟨gb270, 7, none⟩ = some (.int .i64 t267) := (blk_cell BK270.out 7).trans rfl
        have hcz31_8 : w17.cell? ⟨gb270, 8, none⟩ = some (.int .u32 t268) := (blk_cell BK270.out 8).trans rfl
        have hcz31_9 : w17.cell? ⟨gb270, 9, none⟩ = some (.int .u32 t269) := (blk_cell BK270.out 9).trans rfl
        have hfz31_0 := blk_frozen BK270.out 0
        have hfz31_1 := blk_frozen BK270.out 1
        have hfz31_2 := blk_frozen BK270.out 2
        have hfz31_3 := blk_frozen BK270.out 3
        have hfz31_4 := blk_frozen BK270.out 4
        have hfz31_5 := blk_frozen BK270.out 5
        have hfz31_6 := blk_frozen BK270.out 6
        have hfz31_7 := blk_frozen BK270.out 7
        have hfz31_8 := blk_frozen BK270.out 8
        have hfz31_9 := blk_frozen BK270.out 9
        go_wp2_with (first | ((with_reducible refine gate_callee (f := 13) rfl ?_); refine goesL_ (some 24) rfl rfl Tryd.func13 (by kernel_rfl) rfl #[.agg #[.int .i64 t260, .int .i64 t261, .int .i64 t262, .int .i64 t263, .int .i64 t264, .int .i64 t265, .bool t266, .int .i64 t267, .int .u32 t268, .int .u32 t269]] rfl (by (try simp only [List.map_toArray, List.map_cons, List.map_nil]); first | done | rfl | (simp only [List.length_drop, List.length_take]; rfl)) ?_; (with_reducible refine (pointer_Valid.calls t260 t261 t262 t263 t264 t265 t266 t267 t268 t269 false _ ?side1 A18.out).mono ?_); (case side1 => exact Glob.below HG.out (by repeat (first | (with_reducible first | exact HB.out | apply below_alloc | apply pw_below_drewN | apply below_drew1 | refine below_set ?_ GE257.out | refine below_set ?_ GE258.out | refine below_set ?_ GE270.out) | exact HB.out))); rintro e w32 ⟨rfl, hb⟩; refine ⟨_, rfl, ?_⟩; have n0_ := Aside0.mk (blk_below (g := gb257) (o := .cells #[.int .i64 a1_0, .int .i64 a1_1, .int .i64 a1_2, .int .i64 a1_3, .int .i64 a1_4, .int .i64 a1_5, .bool a1_6, .int .i64 a1_7, .int .u32 a1_8, .int .u32 a1_9] 25 (0, 0)) (by (with_reducible repeat (first | refine blk_drewN ?_ _ | refine blk_drew ?_ | refine blk_alloc ?_ _)); exact BK257.out) hb); have n1_ := Aside0.mk (blk_below (g := gb258) (o := .cells #[.int .i64 a2_0, .int .i64 a2_1, .int .i64 a2_2, .int .i64 a2_3, .int .i64 a2_4, .int .i64 a2_5, .bool a2_6, .int .i64 a2_7, .int .u32 a2_8, .int .u32 a2_9] 25 (0, 0)) (by (with_reducible repeat (first | refine blk_drewN ?_ _ | refine blk_drew ?_ | refine blk_alloc ?_ _)); exact BK258.out) hb); have n2_ := Aside0.mk (blk_below (g := gb270) (o := .cells #[.int .i64 t260, .int .i64 t261, .int .i64 t262, .int .i64 t263, .int .i64 t264, .int .i64 t265, .bool t266, .int .i64 t267, .int .u32 t268, .int .u32 t269] 25 (0, 0)) (by (with_reducible repeat (first | refine blk_drewN ?_ _ | refine blk_drew ?_ | refine blk_alloc ?_ _)); exact BK270.out) hb); have n3_ := Aside0.mk (below_step (by repeat (first | (with_reducible first | exact HB.out | apply below_alloc | apply pw_below_drewN | apply below_drew1 | refine below_set ?_ GE257.out | refine below_set ?_ GE258.out | refine below_set ?_ GE270.out) | exact HB.out)) hb); clear BK257; clear BK258; clear BK270; clear HB; have BK257 := n0_; have BK258 := n1_; have BK270 := n2_; have HB := n3_; clear n0_ n1_ n2_ n3_; (try clear hb); (try clear hb2); (try clear hk); (try clear hi)))
        go_meet
        case rel => exact ⟨_, (true), (by first | rfl | (simp; done) | (simp [*]; done)), H', ⟨by first | omega | exact Nat.le_refl _⟩, ⟨by (with_reducible repeat (first | refine blk_drewN ?_ _ | refine blk_drew ?_ | refine blk_alloc ?_ _)); exact BK257.out⟩, ⟨by (with_reducible repeat (first | refine blk_drewN ?_ _ | refine blk_drew ?_ | refine blk_alloc ?_ _)); exact BK258.out⟩, ⟨by (with_reducible repeat (first | refine blk_drewN ?_ _ | refine blk_drew ?_ | refine blk_alloc ?_ _)); exact BK270.out⟩, ⟨by repeat (first | (with_reducible first | exact HB.out | apply below_alloc | apply pw_below_drewN | apply below_drew1 | refine below_set ?_ GE257.out | refine below_set ?_ GE258.out | refine below_set ?_ GE270.out) | exact HB.out)⟩⟩
    case rest =>
      clear HC8
      try clear c1
      try clear c2
      try clear p2
      try clear c3
      try clear c4
      try clear c5
      try clear c8
      try clear c9
      try clear c11
      try clear c13
      try clear c14
      try clear c15
      try clear c19
      try clear c20
      try clear c21
      try clear c22
      try clear c25
      try clear c26
      try clear c29
      try clear c30
      try clear hcz16_0
      try clear hcz16_1
      try clear hcz16_2
      try clear hcz16_3
      try clear hcz16_4
      try clear hcz16_5
      try clear hcz16_6
      try clear hcz16_7
      try clear hcz16_8
      try clear hcz16_9
      try clear hcz23_0
      try clear hcz23_1
      try clear hcz23_2
      try clear hcz23_3
      try clear hcz23_4
      try clear hcz23_5
      try clear hcz23_6
      try clear hcz23_7
      try clear hcz23_8
      try clear hcz23_9
      try clear hcz27_0
      try clear hcz27_1
      try clear hcz27_2
      try clear hcz27_3
      try clear hcz27_4
      try clear hcz27_5
      try clear hcz27_6
      try clear hcz27_7
      try clear hcz27_8
      try clear hcz27_9
      try clear hcz31_0
      try clear hcz31_1
      try clear hcz31_2
      try clear hcz31_3
      try clear hcz31_4
      try clear hcz31_5
      try clear hcz31_6
      try clear hcz31_7
      try clear hcz31_8
      try clear hcz31_9
      try clear hfz16_0
      try clear hfz16_1
      try clear hfz16_2
      try clear hfz16_3
      try clear hfz16_4
      try clear hfz16_5
      try clear hfz16_6
      try clear hfz16_7
      try clear hfz16_8
      try clear hfz16_9
      try clear hfz23_0
      try clear hfz23_1
      try clear hfz23_2
      try clear hfz23_3
      try clear hfz23_4
      try clear hfz23_5
      try clear hfz23_6
      try clear hfz23_7
      try clear hfz23_8
      try clear hfz23_9
      try clear hfz27_0
      try clear hfz27_1
      try clear hfz27_2
      try clear hfz27_3
      try clear hfz27_4
      try clear hfz27_5
      try clear hfz27_6
      try clear hfz27_7
      try clear hfz27_8
      try clear hfz27_9
      try clear hfz31_0
      try clear hfz31_1
      try clear hfz31_2
      try clear hfz31_3
      try clear hfz31_4
      try clear hfz31_5
      try clear hfz31_6
      try clear hfz31_7
      try clear hfz31_8
      try clear hfz31_9
      obtain ⟨kq, x34_7, rfl, HA, HJ7, BK257, BK258, BK270, HB⟩ := hcut
      cases kq with
      | zero => exact absurd HA.out (by simp [capnplaw02_PointerRoundTrip.j0])
      | succ kj7 =>
        have H := HA.out
        clear HA
        simp only [capnplaw02_PointerRoundTrip.j0] at H
        by_cases c33 : x34_7 = true
        · subst c33
          have H1 : (some false) = some r := by rw [if_pos rfl] at H; exact H
          clear H
          have H := H1
          clear H1
          obtain rfl := Option.some.inj H
          go_wp2
          go_ret
          exact ⟨by first | rfl | (simp [errW_none, errW_some] <;> rfl) | (simp [*, errW_none, errW_some] <;> rfl), by repeat (first | (with_reducible first | exact HB.out | apply below_alloc | apply pw_below_drewN | apply below_drew1 | refine below_set ?_ GE257.out | refine below_set ?_ GE258.out | refine below_set ?_ GE270.out) | exact HB.out)⟩
        · replace c33 := Bool.eq_false_iff.mpr c33
          subst c33
          have H1 : ((pointer_Encode.f a1_0 a1_1 a1_2 a1_3 a1_4 a1_5 a1_6 a1_7 a1_8 a1_9).bind fun bt274 => ((pointer_Encode.f a2_0 a2_1 a2_2 a2_3 a2_4 a2_5 a2_6 a2_7 a2_8 a2_9).bind fun bt276 => ((pointer_Valid.f a1_0 a1_1 a1_2 a1_3 a1_4 a1_5 a1_6 a1_7 a1_8 a1_9).bind fun t278 => (if (bt274.2 != t278) = true then (some false) else ((pointer_Valid.f a2_0 a2_1 a2_2 a2_3 a2_4 a2_5 a2_6 a2_7 a2_8 a2_9).bind fun t279 => (if (bt276.2 != t279) = true then (some false) else (if bt274.2 = true then ((pointer_Decode.f bt274.1).bind fun bt280 => (if (bt280.1 == a1_0 && (bt280.2.1 == a1_1 && (bt280.2.2.1 == a1_2 && (bt280.2.2.2.1 == a1_3 && (bt280.2.2.2.2.1 == a1_4 && (bt280.2.2.2.2.2.1 == a1_5 && (bt280.2.2.2.2.2.2.1 == a1_6 && (bt280.2.2.2.2.2.2.2.1 == a1_7 && (bt280.2.2.2.2.2.2.2.2.1 == a1_8 && (bt280.2.2.2.2.2.2.2.2.2 == a1_9)))))))))) = true then (if bt276.2 = true then (some ((bt274.1 == bt276.1) == (a1_0 == a2_0 && (a1_1 == a2_1 && (a1_2 == a2_2 && (a1_3 == a2_3 && (a1_4 == a2_4 && (a1_5 == a2_5 && (a1_6 == a2_6 && (a1_7 == a2_7 && (a1_8 == a2_8 && (a1_9 == a2_9)))))))))))) else (some true)) else (some false))) else (if bt274.1 = 0 then (some true) else (some false))))))))) = some r := by rw [if_neg (show ¬ (false = true) by decide)] at H; exact H
          clear H
          have H := H1
          clear H1
          replace H := Option.bind_eq_some_iff.mp H
          obtain ⟨⟨t274, t275⟩, A340, H⟩ := H
          replace H : ((pointer_Encode.f a2_0 a2_1 a2_2 a2_3 a2_4 a2_5 a2_6 a2_7 a2_8 a2_9).bind fun bt276 => ((pointer_Valid.f a1_0 a1_1 a1_2 a1_3 a1_4 a1_5 a1_6 a1_7 a1_8 a1_9).bind fun t278 => (if (t275 != t278) = true then (some false) else ((pointer_Valid.f a2_0 a2_1 a2_2 a2_3 a2_4 a2_5 a2_6 a2_7 a2_8 a2_9).bind fun t279 => (if (bt276.2 != t279) = true then (some false) else (if t275 = true then ((pointer_Decode.f t274).bind fun bt280 => (if (bt280.1 == a1_0 && (bt280.2.1 == a1_1 && (bt280.2.2.1 == a1_2 && (bt280.2.2.2.1 == a1_3 && (bt280.2.2.2.2.1 == a1_4 && (bt280.2.2.2.2.2.1 == a1_5 && (bt280.2.2.2.2.2.2.1 == a1_6 && (bt280.2.2.2.2.2.2.2.1 == a1_7 && (bt280.2.2.2.2.2.2.2.2.1 == a1_8 && (bt280.2.2.2.2.2.2.2.2.2 == a1_9)))))))))) = true then (if bt276.2 = true then (some ((t274 == bt276.1) == (a1_0 == a2_0 && (a1_1 == a2_1 && (a1_2 == a2_2 && (a1_3 == a2_3 && (a1_4 == a2_4 && (a1_5 == a2_5 && (a1_6 == a2_6 && (a1_7 == a2_7 && (a1_8 == a2_8 && (a1_9 == a2_9)))))))))))) else (some true)) else (some false))) else (if t274 = 0 then (some true) else (some false)))))))) = some r := H
          have A34 := Aside0.mk A340
          clear A340
          replace H := Option.bind_eq_some_iff.mp H
          obtain ⟨⟨t276, t277⟩, A350, H⟩ := H
          replace H : ((pointer_Valid.f a1_0 a1_1 a1_2 a1_3 a1_4 a1_5 a1_6 a1_7 a1_8 a1_9).bind fun t278 => (if (t275 != t278) = true then (some false) else ((pointer_Valid.f a2_0 a2_1 a2_2 a2_3 a2_4 a2_5 a2_6 a2_7 a2_8 a2_9).bind fun t279 => (if (t277 != t279) = true then (some false) else (if t275 = true then ((pointer_Decode.f t274).bind fun bt280 => (if (bt280.1 == a1_0 && (bt280.2.1 == a1_1 && (bt280.2.2.1 == a1_2 && (bt280.2.2.2.1 == a1_3 && (bt280.2.2.2.2.1 == a1_4 && (bt280.2.2.2.2.2.1 == a1_5 && (bt280.2.2.2.2.2.2.1 == a1_6 && (bt280.2.2.2.2.2.2.2.1 == a1_7 && (bt280.2.2.2.2.2.2.2.2.1 == a1_8 && (bt280.2.2.2.2.2.2.2.2.2 == a1_9)))))))))) = true then (if t277 = true then (some ((t274 == t276) == (a1_0 == a2_0 && (a1_1 == a2_1 && (a1_2 == a2_2 && (a1_3 == a2_3 && (a1_4 == a2_4 && (a1_5 == a2_5 && (a1_6 == a2_6 && (a1_7 == a2_7 && (a1_8 == a2_8 && (a1_9 == a2_9)))))))))))) else (some true)) else (some false))) else (if t274 = 0 then (some true) else (some false))))))) = some r := H
          have A35 := Aside0.mk A350
          clear A350
          replace H := Option.bind_eq_some_iff.mp H
          obtain ⟨t278, A360, H⟩ := H
          replace H : (if (t275 != t278) = true then (some false) else ((pointer_Valid.f a2_0 a2_1 a2_2 a2_3 a2_4 a2_5 a2_6 a2_7 a2_8 a2_9).bind fun t279 => (if (t277 != t279) = true then (some false) else (if t275 = true then ((pointer_Decode.f t274).bind fun bt280 => (if (bt280.1 == a1_0 && (bt280.2.1 == a1_1 && (bt280.2.2.1 == a1_2 && (bt280.2.2.2.1 == a1_3 && (bt280.2.2.2.2.1 == a1_4 && (bt280.2.2.2.2.2.1 == a1_5 && (bt280.2.2.2.2.2.2.1 == a1_6 && (bt280.2.2.2.2.2.2.2.1 == a1_7 && (bt280.2.2.2.2.2.2.2.2.1 == a1_8 && (bt280.2.2.2.2.2.2.2.2.2 == a1_9)))))))))) = true then (if t277 = true then (some ((t274 == t276) == (a1_0 == a2_0 && (a1_1 == a2_1 && (a1_2 == a2_2 && (a1_3 == a2_3 && (a1_4 == a2_4 && (a1_5 == a2_5 && (a1_6 == a2_6 && (a1_7 == a2_7 && (a1_8 == a2_8 && (a1_9 == a2_9)))))))))))) else (some true)) else (some false))) else (if t274 = 0 then (some true) else (some false)))))) = some r := H
          have A36 := Aside0.mk A360
          clear A360
          by_cases c37 : (t275 != t278) = true
          · rw [if_pos c37] at H
            have c37b0 : (t275 != t278) = true := c37
            (try (have c37b1 : decide (t275 = t278) = false := by simpa using c37))
            (try (have c37b2 : (t275 == t278) = false := by simpa using c37))
            (try (have c37b3 : ¬ (t275 = t278) := by simpa using c37))
            clear c37
            obtain rfl := Option.some.inj H
            have hnb38 := NB257_258.out
            have hnc38 := NB258_257.out
            have hnb39 := NB257_270.out
            have hnc39 := NB270_257.out
            have hcz40_0 : wc.cell? ⟨gb257, 0, none⟩ = some (.int .i64 a1_0) := (blk_cell BK257.out 0).trans rfl
            have hcz40_1 : wc.cell? ⟨gb257, 1, none⟩ = some (.int .i64 a1_1) := (blk_cell BK257.out 1).trans rfl
            have hcz40_2 : wc.cell? ⟨gb257, 2, none⟩ = some (.int .i64 a1_2) := (blk_cell BK257.out 2).trans rfl
            have hcz40_3 : wc.cell? ⟨gb257, 3, none⟩ = some (.int .i64 a1_3) := (blk_cell BK257.out 3).trans rfl
            have hcz40_4 : wc.cell? ⟨gb257, 4, none⟩ = some (.int .i64 a1_4) := (blk_cell BK257.out 4).trans rfl
            have hcz40_5 : wc.cell? ⟨gb257, 5, none⟩ = some (.int .i64 a1_5) := (blk_cell BK257.out 5).trans rfl
            have hcz40_6 : wc.cell? ⟨gb257, 6, none⟩ = some (.bool a1_6) := (blk_cell BK257.out 6).trans rfl
            have hcz40_7 : wc.cell? ⟨gb257, 7, none⟩ = some (.int .i64 a1_7) := (blk_cell BK257.out 7).trans rfl
            have hcz40_8 : wc.cell? ⟨gb257, 8, none⟩ = some (.int .u32 a1_8) := (blk_cell BK257.out 8).trans rfl
            have hcz40_9 : wc.cell? ⟨gb257, 9, none⟩ = some (.int .u32 a1_9) := (blk_cell BK257.out 9).trans rfl
            have hfz40_0 := blk_frozen BK257.out 0
            have hfz40_1 := blk_frozen BK257.out 1
            have hfz40_2 := blk_frozen BK257.out 2
            have hfz40_3 := blk_frozen BK257.out 3
            have hfz40_4 := blk_frozen BK257.out 4
            have hfz40_5 := blk_frozen BK257.out 5
            have hfz40_6 := blk_frozen BK257.out 6
            have hfz40_7 := blk_frozen BK257.out 7
            have hfz40_8 := blk_frozen BK257.out 8
            have hfz40_9 := blk_frozen BK257.out 9
            go_wp2_with (first | ((with_reducible refine gate_callee (f := 9) rfl ?_); refine goesL_ (some 37) rfl rfl Tryd.func9 (by kernel_rfl) rfl #[.agg #[.int .i64 a1_0, .int .i64 a1_1, .int .i64 a1_2, .int .i64 a1_3, .int .i64 a1_4, .int .i64 a1_5, .bool a1_6, .int .i64 a1_7, .int .u32 a1_8, .int .u32 a1_9]] rfl (by (try simp only [List.map_toArray, List.map_cons, List.map_nil]); first | done | rfl | (simp only [List.length_drop, List.length_take]; rfl)) ?_; (with_reducible refine (pointer_Encode.calls a1_0 a1_1 a1_2 a1_3 a1_4 a1_5 a1_6 a1_7 a1_8 a1_9 t274 t275 _ ?side1 A34.out).mono ?_); (case side1 => exact Glob.below HG.out (by repeat (first | (with_reducible first | exact HB.out | apply below_alloc | apply pw_below_drewN | apply below_drew1 | refine below_set ?_ GE257.out | refine below_set ?_ GE258.out | refine below_set ?_ GE270.out) | exact HB.out))); rintro e w41 ⟨rfl, hb⟩; refine ⟨_, rfl, ?_⟩; have n0_ := Aside0.mk (blk_below (g := gb257) (o := .cells #[.int .i64 a1_0, .int .i64 a1_1, .int .i64 a1_2, .int .i64 a1_3, .int .i64 a1_4, .int .i64 a1_5, .bool a1_6, .int .i64 a1_7, .int .u32 a1_8, .int .u32 a1_9] 25 (0, 0)) (by (with_reducible repeat (first | refine blk_drewN ?_ _ | refine blk_drew ?_ | refine blk_alloc ?_ _)); exact BK257.out) hb); have n1_ := Aside0.mk (blk_below (g := gb258) (o := .cells #[.int .i64 a2_0, .int .i64 a2_1, .int .i64 a2_2, .int .i64 a2_3, .int .i64 a2_4, .int .i64 a2_5, .bool a2_6, .int .i64 a2_7, .int .u32 a2_8, .int .u32 a2_9] 25 (0, 0)) (by (with_reducible repeat (first | refine blk_drewN ?_ _ | refine blk_drew ?_ | refine blk_alloc ?_ _)); exact BK258.out) hb); have n2_ := Aside0.mk (blk_below (g := gb270) (o := .cells #[.int .i64 t260, .int .i64 t261, .int .i64 t262, .int .i64 t263, .int .i64 t264, .int .i64 t265, .bool t266, .int .i64 t267, .int .u32 t268, .int .u32 t269] 25 (0, 0)) (by (with_reducible repeat (first | refine blk_drewN ?_ _ | refine blk_drew ?_ | refine blk_alloc ?_ _)); exact BK270.out) hb); have n3_ := Aside0.mk (below_step (by repeat (first | (with_reducible first | exact HB.out | apply below_alloc | apply pw_below_drewN | apply below_drew1 | refine below_set ?_ GE257.out | refine below_set ?_ GE258.out | refine below_set ?_ GE270.out) | exact HB.out)) hb); clear BK257; clear BK258; clear BK270; clear HB; have BK257 := n0_; have BK258 := n1_; have BK270 := n2_; have HB := n3_; clear n0_ n1_ n2_ n3_; (try clear hb); (try clear hb2); (try clear hk); (try clear hi); have hnb42 := NB258_270.out; have hnc42 := NB270_258.out; have hcz43_0 : w41.cell? ⟨gb258, 0, none⟩ = some (.int .i64 a2_0) := (blk_cell BK258.out 0).trans rfl; have hcz43_1 : w41.cell? ⟨gb258, 1, none⟩ = some (.int .i64 a2_1) := (blk_cell BK258.out 1).trans rfl; have hcz43_2 : w41.cell? ⟨gb258, 2, none⟩ = some (.int .i64 a2_2) := (blk_cell BK258.out 2).trans rfl; have hcz43_3 : w41.cell? ⟨gb258, 3, none⟩ = some (.int .i64 a2_3) := (blk_cell BK258.out 3).trans rfl; have hcz43_4 : w41.cell? ⟨gb258, 4, none⟩ = some (.int .i64 a2_4) := (blk_cell BK258.out 4).trans rfl; have hcz43_5 : w41.cell? ⟨gb258, 5, none⟩ = some (.int .i64 a2_5) := (blk_cell BK258.out 5).trans rfl; have hcz43_6 : w41.cell? ⟨gb258, 6, none⟩ = some (.bool a2_6) := (blk_cell BK258.out 6).trans rfl; have hcz43_7 : w41.cell? ⟨gb258, 7, none⟩ = some (.int .i64 a2_7) := (blk_cell BK258.out 7).trans rfl; have hcz43_8 : w41.cell? ⟨gb258, 8, none⟩ = some (.int .u32 a2_8) := (blk_cell BK258.out 8).trans rfl; have hcz43_9 : w41.cell? ⟨gb258, 9, none⟩ = some (.int .u32 a2_9) := (blk_cell BK258.out 9).trans rfl; have hfz43_0 := blk_frozen BK258.out 0; have hfz43_1 := blk_frozen BK258.out 1; have hfz43_2 := blk_frozen BK258.out 2; have hfz43_3 := blk_frozen BK258.out 3; have hfz43_4 := blk_frozen BK258.out 4; have hfz43_5 := blk_frozen BK258.out 5; have hfz43_6 := blk_frozen BK258.out 6; have hfz43_7 := blk_frozen BK258.out 7; have hfz43_8 := blk_frozen BK258.out 8; have hfz43_9 := blk_frozen BK258.out 9) | ((with_reducible refine gate_callee (f := 9) rfl ?_); refine goesL_ (some 42) rfl rfl Tryd.func9 (by kernel_rfl) rfl #[.agg #[.int .i64 a2_0, .int .i64 a2_1, .int .i64 a2_2, .int .i64 a2_3, .int .i64 a2_4, .int .i64 a2_5, .bool a2_6, .int .i64 a2_7, .int .u32 a2_8, .int .u32 a2_9]] rfl (by (try simp only [List.map_toArray, List.map_cons, List.map_nil]); first | done | rfl | (simp only [List.length_drop, List.length_take]; rfl)) ?_; (with_reducible refine (pointer_Encode.calls a2_0 a2_1 a2_2 a2_3 a2_4 a2_5 a2_6 a2_7 a2_8 a2_9 t276 t277 _ ?side1 A35.out).mono ?_); (case side1 => exact Glob.below HG.out (by repeat (first | (with_reducible first | exact HB.out | apply below_alloc | apply pw_below_drewN | apply below_drew1 | refine below_set ?_ GE257.out | refine below_set ?_ GE258.out | refine below_set ?_ GE270.out) | exact HB.out))); rintro e w44 ⟨rfl, hb⟩; refine ⟨_, rfl, ?_⟩; have n0_ := Aside0.mk (blk_below (g := gb257) (o := .cells #[.int .i64 a1_0, .int .i64 a1_1, .int .i64 a1_2, .int .i64 a1_3, .int .i64 a1_4, .int .i64 a1_5, .bool a1_6, .int .i64 a1_7, .int .u32 a1_8, .int .u32 a1_9] 25 (0, 0)) (by (with_reducible repeat (first | refine blk_drewN ?_ _ | refine blk_drew ?_ | refine blk_alloc ?_ _)); exact BK257.out) hb); have n1_ := Aside0.mk (blk_below (g := gb258) (o := .cells #[.int .i64 a2_0, .int .i64 a2_1, .int .i64 a2_2, .int .i64 a2_3, .int .i64 a2_4, .int .i64 a2_5, .bool a2_6, .int .i64 a2_7, .int .u32 a2_8, .int .u32 a2_9] 25 (0, 0)) (by (with_reducible repeat (first | refine blk_drewN ?_ _ | refine blk_drew ?_ | refine blk_alloc ?_ _)); exact BK258.out) hb); have n2_ := Aside0.mk (blk_below (g := gb270) (o := .cells #[.int .i64 t260, .int .i64 t261, .int .i64 t262, .int .i64 t263, .int .i64 t264, .int .i64 t265, .bool t266, .int .i64 t267, .int .u32 t268, .int .u32 t269] 25 (0, 0)) (by (with_reducible repeat (first | refine blk_drewN ?_ _ | refine blk_drew ?_ | refine blk_alloc ?_ _)); exact BK270.out) hb); have n3_ := Aside0.mk (below_step (by repeat (first | (with_reducible first | exact HB.out | apply below_alloc | apply pw_below_drewN | apply below_drew1 | refine below_set ?_ GE257.out | refine below_set ?_ GE258.out | refine below_set ?_ GE270.out) | exact HB.out)) hb); clear BK257; clear BK258; clear BK270; clear HB; have BK257 := n0_; have BK258 := n1_; have BK270 := n2_; have HB := n3_; clear n0_ n1_ n2_ n3_; (try clear hb); (try clear hb2); (try clear hk); (try clear hi); have hcz45_0 : w44.cell? ⟨gb257, 0, none⟩ = some (.int .i64 a1_0) := (blk_cell BK257.out 0).trans rfl; have hcz45_1 : w44.cell? ⟨gb257, 1, none⟩ = some (.int .i64 a1_1) := (blk_cell BK257.out 1).trans rfl; have hcz45_2 : w44.cell? ⟨gb257, 2, none⟩ = some (.int .i64 a1_2) := (blk_cell BK257.out 2).trans rfl; have hcz45_3 : w44.cell? ⟨gb257, 3, none⟩ = some (.int .i64 a1_3) := (blk_cell BK257.out 3).trans rfl; have hcz45_4 : w44.cell? ⟨gb257, 4, none⟩ = some (.int .i64 a1_4) := (blk_cell BK257.out 4).trans rfl; have hcz45_5 : w44.cell? ⟨gb257, 5, none⟩ = some (.int .i64 a1_5) := (blk_cell BK257.out 5).trans rfl; have hcz45_6 : w44.cell? ⟨gb257, 6, none⟩ = some (.bool a1_6) := (blk_cell BK257.out 6).trans rfl; have hcz45_7 : w44.cell? ⟨gb257, 7, none⟩ = some (.int .i64 a1_7) := (blk_cell BK257.out 7).trans rfl; have hcz45_8 : w44.cell? ⟨gb257, 8, none⟩ = some (.int .u32 a1_8) := (blk_cell BK257.out 8).trans rfl; have hcz45_9 : w44.cell? ⟨gb257, 9, none⟩ = some (.int .u32 a1_9) := (blk_cell BK257.out 9).trans rfl; have hfz45_0 := blk_frozen BK257.out 0; have hfz45_1 := blk_frozen BK257.out 1; have hfz45_2 := blk_frozen BK257.out 2; have hfz45_3 := blk_frozen BK257.out 3; have hfz45_4 := blk_frozen BK257.out 4; have hfz45_5 := blk_frozen BK257.out 5; have hfz45_6 := blk_frozen BK257.out 6; have hfz45_7 := blk_frozen BK257.out 7; have hfz45_8 := blk_frozen BK257.out 8; have hfz45_9 := blk_frozen BK257.out 9) | ((with_reducible refine gate_callee (f := 13) rfl ?_); refine goesL_ (some 47) rfl rfl Tryd.func13 (by kernel_rfl) rfl #[.agg #[.int .i64 a1_0, .int .i64 a1_1, .int .i64 a1_2, .int .i64 a1_3, .int .i64 a1_4, .int .i64 a1_5, .bool a1_6, .int .i64 a1_7, .int .u32 a1_8, .int .u32 a1_9]] rfl (by (try simp only [List.map_toArray, List.map_cons, List.map_nil]); first | done | rfl | (simp only [List.length_drop, List.length_take]; rfl)) ?_; (with_reducible refine (pointer_Valid.calls a1_0 a1_1 a1_2 a1_3 a1_4 a1_5 a1_6 a1_7 a1_8 a1_9 t278 _ ?side1 A36.out).mono ?_); (case side1 => exact Glob.below HG.out (by repeat (first | (with_reducible first | exact HB.out | apply below_alloc | apply pw_below_drewN | apply below_drew1 | refine below_set ?_ GE257.out | refine below_set ?_ GE258.out | refine below_set ?_ GE270.out) | exact HB.out))); rintro e w46 ⟨rfl, hb⟩; refine ⟨_, rfl, ?_⟩; have n0_ := Aside0.mk (blk_below (g := gb257) (o := .cells #[.int .i64 a1_0, .int .i64 a1_1, .int .i64 a1_2, .int .i64 a1_3, .int .i64 a1_4, .int .i64 a1_5, .bool a1_6, .int .i64 a1_7, .int .u32 a1_8, .int .u32 a1_9] 25 (0, 0)) (by (with_reducible repeat (first | refine blk_drewN ?_ _ | refine blk_drew ?_ | refine blk_alloc ?_ _)); exact BK257.out) hb); have n1_ := Aside0.mk (blk_below (g := gb258) (o := .cells #[.int .i64 a2_0, .int .i64 a2_1, .int .i64 a2_2, .int .i64 a2_3, .int .i64 a2_4, .int .i64 a2_5, .bool a2_6, .int .i64 a2_7, .int .u32 a2_8, .int .u32 a2_9] 25 (0, 0)) (by (with_reducible repeat (first | refine blk_drewN ?_ _ | refine blk_drew ?_ | refine blk_alloc ?_ _)); exact BK258.out) hb); have n2_ := Aside0.mk (blk_below (g := gb270) (o := .cells #[.int .i64 t260, .int .i64 t261, .int .i64 t262, .int .i64 t263, .int .i64 t264, .int .i64 t265, .bool t266, .int .i64 t267, .int .u32 t268, .int .u32 t269] 25 (0, 0)) (by (with_reducible repeat (first | refine blk_drewN ?_ _ | refine blk_drew ?_ | refine blk_alloc ?_ _)); exact BK270.out) hb); have n3_ := Aside0.mk (below_step (by repeat (first | (with_reducible first | exact HB.out | apply below_alloc | apply pw_below_drewN | apply below_drew1 | refine below_set ?_ GE257.out | refine below_set ?_ GE258.out | refine below_set ?_ GE270.out) | exact HB.out)) hb); clear BK257; clear BK258; clear BK270; clear HB; have BK257 := n0_; have BK258 := n1_; have BK270 := n2_; have HB := n3_; clear n0_ n1_ n2_ n3_; (try clear hb); (try clear hb2); (try clear hk); (try clear hi)))
            go_ret
            exact ⟨by first | rfl | (simp [errW_none, errW_some] <;> rfl) | (simp [*, errW_none, errW_some] <;> rfl), by repeat (first | (with_reducible first | exact HB.out | apply below_alloc | apply pw_below_drewN | apply below_drew1 | refine below_set ?_ GE257.out | refine below_set ?_ GE258.out | refine below_set ?_ GE270.out) | exact HB.out)⟩
          · rw [if_neg c37] at H
            have c37b0 : (t275 != t278) = false := by simpa using c37
            (try (have c37b1 : decide (t275 = t278) = true := by simpa using c37))
            (try (have c37b2 : (t275 == t278) = true := by simpa using c37))
            clear c37
            replace H := Option.bind_eq_some_iff.mp H
            obtain ⟨t279, A470, H⟩ := H
            replace H : (if (t277 != t279) = true then (some false) else (if t275 = true then ((pointer_Decode.f t274).bind fun bt280 => (if (bt280.1 == a1_0 && (bt280.2.1 == a1_1 && (bt280.2.2.1 == a1_2 && (bt280.2.2.2.1 == a1_3 && (bt280.2.2.2.2.1 == a1_4 && (bt280.2.2.2.2.2.1 == a1_5 && (bt280.2.2.2.2.2.2.1 == a1_6 && (bt280.2.2.2.2.2.2.2.1 == a1_7 && (bt280.2.2.2.2.2.2.2.2.1 == a1_8 && (bt280.2.2.2.2.2.2.2.2.2 == a1_9)))))))))) = true then (if t277 = true then (some ((t274 == t276) == (a1_0 == a2_0 && (a1_1 == a2_1 && (a1_2 == a2_2 && (a1_3 == a2_3 && (a1_4 == a2_4 && (a1_5 == a2_5 && (a1_6 == a2_6 && (a1_7 == a2_7 && (a1_8 == a2_8 && (a1_9 == a2_9)))))))))))) else (some true)) else (some false))) else (if t274 = 0 then (some true) else (some false)))) = some r := H
            have A47 := Aside0.mk A470
            clear A470
            by_cases c48 : (t277 != t279) = true
            · rw [if_pos c48] at H
              have c48b0 : (t277 != t279) = true := c48
              (try (have c48b1 : decide (t277 = t279) = false := by simpa using c48))
              (try (have c48b2 : (t277 == t279) = false := by simpa using c48))
              (try (have c48b3 : ¬ (t277 = t279) := by simpa using c48))
              clear c48
              obtain rfl := Option.some.inj H
              have hnb49 := NB257_258.out
              have hnc49 := NB258_257.out
              have hnb50 := NB257_270.out
              have hnc50 := NB270_257.out
              have hcz51_0 : wc.cell? ⟨gb257, 0, none⟩ = some (.int .i64 a1_0) := (blk_cell BK257.out 0).trans rfl
              have hcz51_1 : wc.cell? ⟨gb257, 1, none⟩ = some (.int .i64 a1_1) := (blk_cell BK257.out 1).trans rfl
              have hcz51_2 : wc.cell? ⟨gb257, 2, none⟩ = some (.int .i64 a1_2) := (blk_cell BK257.out 2).trans rfl
              have hcz51_3 : wc.cell? ⟨gb257, 3, none⟩ = some (.int .i64 a1_3) := (blk_cell BK257.out 3).trans rfl
              have hcz51_4 : wc.cell? ⟨gb257, 4, none⟩ = some (.int .i64 a1_4) := (blk_cell BK257.out 4).trans rfl
              have hcz51_5 : wc.cell? ⟨gb257, 5, none⟩ = some (.int .i64 a1_5) := (blk_cell BK257.out 5).trans rfl
              have hcz51_6 : wc.cell? ⟨gb257, 6, none⟩ = some (.bool a1_6) := (blk_cell BK257.out 6).trans rfl
              have hcz51_7 : wc.cell? ⟨gb257, 7, none⟩ = some (.int .i64 a1_7) := (blk_cell BK257.out 7).trans rfl
              have hcz51_8 : wc.cell? ⟨gb257, 8, none⟩ = some (.int .u32 a1_8) := (blk_cell BK257.out 8).trans rfl
              have hcz51_9 : wc.cell? ⟨gb257, 9, none⟩ = some (.int .u32 a1_9) := (blk_cell BK257.out 9).trans rfl
              have hfz51_0 := blk_frozen BK257.out 0
              have hfz51_1 := blk_frozen BK257.out 1
              have hfz51_2 := blk_frozen BK257.out 2
              have hfz51_3 := blk_frozen BK257.out 3
              have hfz51_4 := blk_frozen BK257.out 4
              have hfz51_5 := blk_frozen BK257.out 5
              have hfz51_6 := blk_frozen BK257.out 6
              have hfz51_7 := blk_frozen BK257.out 7
              have hfz51_8 := blk_frozen BK257.out 8
              have hfz51_9 := blk_frozen BK257.out 9
              go_wp2_with (first | ((with_reducible refine gate_callee (f := 9) rfl ?_); refine goesL_ (some 37) rfl rfl Tryd.func9 (by kernel_rfl) rfl #[.agg #[.int .i64 a1_0, .int .i64 a1_1, .int .i64 a1_2, .int .i64 a1_3, .int .i64 a1_4, .int .i64 a1_5, .bool a1_6, .int .i64 a1_7, .int .u32 a1_8, .int .u32 a1_9]] rfl (by (try simp only [List.map_toArray, List.map_cons, List.map_nil]); first | done | rfl | (simp only [List.length_drop, List.length_take]; rfl)) ?_; (with_reducible refine (pointer_Encode.calls a1_0 a1_1 a1_2 a1_3 a1_4 a1_5 a1_6 a1_7 a1_8 a1_9 t274 t275 _ ?side1 A34.out).mono ?_); (case side1 => exact Glob.below HG.out (by repeat (first | (with_reducible first | exact HB.out | apply below_alloc | apply pw_below_drewN | apply below_drew1 | refine below_set ?_ GE257.out | refine below_set ?_ GE258.out | refine below_set ?_ GE270.out) | exact HB.out))); rintro e w52 ⟨rfl, hb⟩; refine ⟨_, rfl, ?_⟩; have n0_ := Aside0.mk (blk_below (g := gb257) (o := .cells #[.int .i64 a1_0, .int .i64 a1_1, .int .i64 a1_2, .int .i64 a1_3, .int .i64 a1_4, .int .i64 a1_5, .bool a1_6, .int .i64 a1_7, .int .u32 a1_8, .int .u32 a1_9] 25 (0, 0)) (by (with_reducible repeat (first | refine blk_drewN ?_ _ | refine blk_drew ?_ | refine blk_alloc ?_ _)); exact BK257.out) hb); have n1_ := Aside0.mk (blk_below (g := gb258) (o := .cells #[.int .i64 a2_0, .int .i64 a2_1, .int .i64 a2_2, .int .i64 a2_3, .int .i64 a2_4, .int .i64 a2_5, .bool a2_6, .int .i64 a2_7, .int .u32 a2_8, .int .u32 a2_9] 25 (0, 0)) (by (with_reducible repeat (first | refine blk_drewN ?_ _ | refine blk_drew ?_ | refine blk_alloc ?_ _)); exact BK258.out) hb); have n2_ := Aside0.mk (blk_below (g := gb270) (o := .cells #[.int .i64 t260, .int .i64 t261, .int .i64 t262, .int .i64 t263, .int .i64 t264, .int .i64 t265, .bool t266, .int .i64 t267, .int .u32 t268, .int .u32 t269] 25 (0, 0)) (by (with_reducible repeat (first | refine blk_drewN ?_ _ | refine blk_drew ?_ | refine blk_alloc ?_ _)); exact BK270.out) hb); have n3_ := Aside0.mk (below_step (by repeat (first | (with_reducible first | exact HB.out | apply below_alloc | apply pw_below_drewN | apply below_drew1 | refine below_set ?_ GE257.out | refine below_set ?_ GE258.out | refine below_set ?_ GE270.out) | exact HB.out)) hb); clear BK257; clear BK258; clear BK270; clear HB; have BK257 := n0_; have BK258 := n1_; have BK270 := n2_; have HB := n3_; clear n0_ n1_ n2_ n3_; (try clear hb); (try clear hb2); (try clear hk); (try clear hi); have hnb53 := NB258_270.out; have hnc53 := NB270_258.out; have hcz54_0 : w52.cell? ⟨gb258, 0, none⟩ = some (.int .i64 a2_0) := (blk_cell BK258.out 0).trans rfl; have hcz54_1 : w52.cell? ⟨gb258, 1, none⟩ = some (.int .i64 a2_1) := (blk_cell BK258.out 1).trans rfl; have hcz54_2 : w52.cell? ⟨gb258, 2, none⟩ = some (.int .i64 a2_2) := (blk_cell BK258.out 2).trans rfl; have hcz54_3 : w52.cell? ⟨gb258, 3, none⟩ = some (.int .i64 a2_3) := (blk_cell BK258.out 3).trans rfl; have hcz54_4 : w52.cell? ⟨gb258, 4, none⟩ = some (.int .i64 a2_4) := (blk_cell BK258.out 4).trans rfl; have hcz54_5 : w52.cell? ⟨gb258, 5, none⟩ = some (.int .i64 a2_5) := (blk_cell BK258.out 5).trans rfl; have hcz54_6 : w52.cell? ⟨gb258, 6, none⟩ = some (.bool a2_6) := (blk_cell BK258.out 6).trans rfl; have hcz54_7 : w52.cell? ⟨gb258, 7, none⟩ = some (.int .i64 a2_7) := (blk_cell BK258.out 7).trans rfl; have hcz54_8 : w52.cell? ⟨gb258, 8, none⟩ = some (.int .u32 a2_8) := (blk_cell BK258.out 8).trans rfl; have hcz54_9 : w52.cell? ⟨gb258, 9, none⟩ = some (.int .u32 a2_9) := (blk_cell BK258.out 9).trans rfl; have hfz54_0 := blk_frozen BK258.out 0; have hfz54_1 := blk_frozen BK258.out 1; have hfz54_2 := blk_frozen BK258.out 2; have hfz54_3 := blk_frozen BK258.out 3; have hfz54_4 := blk_frozen BK258.out 4; have hfz54_5 := blk_frozen BK258.out 5; have hfz54_6 := blk_frozen BK258.out 6; have hfz54_7 := blk_frozen BK258.out 7; have hfz54_8 := blk_frozen BK258.out 8; have hfz54_9 := blk_frozen BK258.out 9) | ((with_reducible refine gate_callee (f := 9) rfl ?_); refine goesL_ (some 42) rfl rfl Tryd.func9 (by kernel_rfl) rfl #[.agg #[.int .i64 a2_0, .int .i64 a2_1, .int .i64 a2_2, .int .i64 a2_3, .int .i64 a2_4, .int .i64 a2_5, .bool a2_6, .int .i64 a2_7, .int .u32 a2_8, .int .u32 a2_9]] rfl (by (try simp only [List.map_toArray, List.map_cons, List.map_nil]); first | done | rfl | (simp only [List.length_drop, List.length_take]; rfl)) ?_; (with_reducible refine (pointer_Encode.calls a2_0 a2_1 a2_2 a2_3 a2_4 a2_5 a2_6 a2_7 a2_8 a2_9 t276 t277 _ ?side1 A35.out).mono ?_); (case side1 => exact Glob.below HG.out (by repeat (first | (with_reducible first | exact HB.out | apply below_alloc | apply pw_below_drewN | apply below_drew1 | refine below_set ?_ GE257.out | refine below_set ?_ GE258.out | refine below_set ?_ GE270.out) | exact HB.out))); rintro e w55 ⟨rfl, hb⟩; refine ⟨_, rfl, ?_⟩; have n0_ := Aside0.mk (blk_below (g := gb257) (o := .cells #[.int .i64 a1_0, .int .i64 a1_1, .int .i64 a1_2, .int .i64 a1_3, .int .i64 a1_4, .int .i64 a1_5, .bool a1_6, .int .i64 a1_7, .int .u32 a1_8, .int .u32 a1_9] 25 (0, 0)) (by (with_reducible repeat (first | refine blk_drewN ?_ _ | refine blk_drew ?_ | refine blk_alloc ?_ _)); exact BK257.out) hb); have n1_ := Aside0.mk (blk_below (g := gb258) (o := .cells #[.int .i64 a2_0, .int .i64 a2_1, .int .i64 a2_2, .int .i64 a2_3, .int .i64 a2_4, .int .i64 a2_5, .bool a2_6, .int .i64 a2_7, .int .u32 a2_8, .int .u32 a2_9] 25 (0, 0)) (by (with_reducible repeat (first | refine blk_drewN ?_ _ | refine blk_drew ?_ | refine blk_alloc ?_ _)); exact BK258.out) hb); have n2_ := Aside0.mk (blk_below (g := gb270) (o := .cells #[.int .i64 t260, .int .i64 t261, .int .i64 t262, .int .i64 t263, .int .i64 t264, .int .i64 t265, .bool t266, .int .i64 t267, .int .u32 t268, .int .u32 t269] 25 (0, 0)) (by (with_reducible repeat (first | refine blk_drewN ?_ _ | refine blk_drew ?_ | refine blk_alloc ?_ _)); exact BK270.out) hb); have n3_ := Aside0.mk (below_step (by repeat (first | (with_reducible first | exact HB.out | apply below_alloc | apply pw_below_drewN | apply below_drew1 | refine below_set ?_ GE257.out | refine below_set ?_ GE258.out | refine below_set ?_ GE270.out) | exact HB.out)) hb); clear BK257; clear BK258; clear BK270; clear HB; have BK257 := n0_; have BK258 := n1_; have BK270 := n2_; have HB := n3_; clear n0_ n1_ n2_ n3_; (try clear hb); (try clear hb2); (try clear hk); (try clear hi); have hcz56_0 : w55.cell? ⟨gb257, 0, none⟩ = some (.int .i64 a1_0) := (blk_cell BK257.out 0).trans rfl; have hcz56_1 : w55.cell? ⟨gb257, 1, none⟩ = some (.int .i64 a1_1) := (blk_cell BK257.out 1).trans rfl; have hcz56_2 : w55.cell? ⟨gb257, 2, none⟩ = some (.int .i64 a1_2) := (blk_cell BK257.out 2).trans rfl; have hcz56_3 : w55.cell? ⟨gb257, 3, none⟩ = some (.int .i64 a1_3) := (blk_cell BK257.out 3).trans rfl; have hcz56_4 : w55.cell? ⟨gb257, 4, none⟩ = some (.int .i64 a1_4) := (blk_cell BK257.out 4).trans rfl; have hcz56_5 : w55.cell? ⟨gb257, 5, none⟩ = some (.int .i64 a1_5) := (blk_cell BK257.out 5).trans rfl; have hcz56_6 : w55.cell? ⟨gb257, 6, none⟩ = some (.bool a1_6) := (blk_cell BK257.out 6).trans rfl; have hcz56_7 : w55.cell? ⟨gb257, 7, none⟩ = some (.int .i64 a1_7) := (blk_cell BK257.out 7).trans rfl; have hcz56_8 : w55.cell? ⟨gb257, 8, none⟩ = some (.int .u32 a1_8) := (blk_cell BK257.out 8).trans rfl; have hcz56_9 : w55.cell? ⟨gb257, 9, none⟩ = some (.int .u32 a1_9) := (blk_cell BK257.out 9).trans rfl; have hfz56_0 := blk_frozen BK257.out 0; have hfz56_1 := blk_frozen BK257.out 1; have hfz56_2 := blk_frozen BK257.out 2; have hfz56_3 := blk_frozen BK257.out 3; have hfz56_4 := blk_frozen BK257.out 4; have hfz56_5 := blk_frozen BK257.out 5; have hfz56_6 := blk_frozen BK257.out 6; have hfz56_7 := blk_frozen BK257.out 7; have hfz56_8 := blk_frozen BK257.out 8; have hfz56_9 := blk_frozen BK257.out 9) | ((with_reducible refine gate_callee (f := 13) rfl ?_); refine goesL_ (some 47) rfl rfl Tryd.func13 (by kernel_rfl) rfl #[.agg #[.int .i64 a1_0, .int .i64 a1_1, .int .i64 a1_2, .int .i64 a1_3, .int .i64 a1_4, .int .i64 a1_5, .bool a1_6, .int .i64 a1_7, .int .u32 a1_8, .int .u32 a1_9]] rfl (by (try simp only [List.map_toArray, List.map_cons, List.map_nil]); first | done | rfl | (simp only [List.length_drop, List.length_take]; rfl)) ?_; (with_reducible refine (pointer_Valid.calls a1_0 a1_1 a1_2 a1_3 a1_4 a1_5 a1_6 a1_7 a1_8 a1_9 t278 _ ?side1 A36.out).mono ?_); (case side1 => exact Glob.below HG.out (by repeat (first | (with_reducible first | exact HB.out | apply below_alloc | apply pw_below_drewN | apply below_drew1 | refine below_set ?_ GE257.out | refine below_set ?_ GE258.out | refine below_set ?_ GE270.out) | exact HB.out))); rintro e w57 ⟨rfl, hb⟩; refine ⟨_, rfl, ?_⟩; have n0_ := Aside0.mk (blk_below (g := gb257) (o := .cells #[.int .i64 a1_0, .int .i64 a1_1, .int .i64 a1_2, .int .i64 a1_3, .int .i64 a1_4, .int .i64 a1_5, .bool a1_6, .int .i64 a1_7, .int .u32 a1_8, .int .u32 a1_9] 25 (0, 0)) (by (with_reducible repeat (first | refine blk_drewN ?_ _ | refine blk_drew ?_ | refine blk_alloc ?_ _)); exact BK257.out) hb); have n1_ := Aside0.mk (blk_below (g := gb258) (o := .cells #[.int .i64 a2_0, .int .i64 a2_1, .int .i64 a2_2, .int .i64 a2_3, .int .i64 a2_4, .int .i64 a2_5, .bool a2_6, .int .i64 a2_7, .int .u32 a2_8, .int .u32 a2_9] 25 (0, 0)) (by (with_reducible repeat (first | refine blk_drewN ?_ _ | refine blk_drew ?_ | refine blk_alloc ?_ _)); exact BK258.out) hb); have n2_ := Aside0.mk (blk_below (g := gb270) (o := .cells #[.int .i64 t260, .int .i64 t261, .int .i64 t262, .int .i64 t263, .int .i64 t264, .int .i64 t265, .bool t266, .int .i64 t267, .int .u32 t268, .int .u32 t269] 25 (0, 0)) (by (with_reducible repeat (first | refine blk_drewN ?_ _ | refine blk_drew ?_ | refine blk_alloc ?_ _)); exact BK270.out) hb); have n3_ := Aside0.mk (below_step (by repeat (first | (with_reducible first | exact HB.out | apply below_alloc | apply pw_below_drewN | apply below_drew1 | refine below_set ?_ GE257.out | refine below_set ?_ GE258.out | refine below_set ?_ GE270.out) | exact HB.out)) hb); clear BK257; clear BK258; clear BK270; clear HB; have BK257 := n0_; have BK258 := n1_; have BK270 := n2_; have HB := n3_; clear n0_ n1_ n2_ n3_; (try clear hb); (try clear hb2); (try clear hk); (try clear hi); have hcz58_0 : w57.cell? ⟨gb258, 0, none⟩ = some (.int .i64 a2_0) := (blk_cell BK258.out 0).trans rfl; have hcz58_1 : w57.cell? ⟨gb258, 1, none⟩ = some (.int .i64 a2_1) := (blk_cell BK258.out 1).trans rfl; have hcz58_2 : w57.cell? ⟨gb258, 2, none⟩ = some (.int .i64 a2_2) := (blk_cell BK258.out 2).trans rfl; have hcz58_3 : w57.cell? ⟨gb258, 3, none⟩ = some (.int .i64 a2_3) := (blk_cell BK258.out 3).trans rfl; have hcz58_4 : w57.cell? ⟨gb258, 4, none⟩ = some (.int .i64 a2_4) := (blk_cell BK258.out 4).trans rfl; have hcz58_5 : w57.cell? ⟨gb258, 5, none⟩ = some (.int .i64 a2_5) := (blk_cell BK258.out 5).trans rfl; have hcz58_6 : w57.cell? ⟨gb258, 6, none⟩ = some (.bool a2_6) := (blk_cell BK258.out 6).trans rfl; have hcz58_7 : w57.cell? ⟨gb258, 7, none⟩ = some (.int .i64 a2_7) := (blk_cell BK258.out 7).trans rfl; have hcz58_8 : w57.cell? ⟨gb258, 8, none⟩ = some (.int .u32 a2_8) := (blk_cell BK258.out 8).trans rfl; have hcz58_9 : w57.cell? ⟨gb258, 9, none⟩ = some (.int .u32 a2_9) := (blk_cell BK258.out 9).trans rfl; have hfz58_0 := blk_frozen BK258.out 0; have hfz58_1 := blk_frozen BK258.out 1; have hfz58_2 := blk_frozen BK258.out 2; have hfz58_3 := blk_frozen BK258.out 3; have hfz58_4 := blk_frozen BK258.out 4; have hfz58_5 := blk_frozen BK258.out 5; have hfz58_6 := blk_frozen BK258.out 6; have hfz58_7 := blk_frozen BK258.out 7; have hfz58_8 := blk_frozen BK258.out 8; have hfz58_9 := blk_frozen BK258.out 9) | (go_at_call 13; (with_reducible refine (pointer_Valid.calls a2_0 a2_1 a2_2 a2_3 a2_4 a2_5 a2_6 a2_7 a2_8 a2_9 t279 _ ?side1 A47.out).mono ?_); (case side1 => exact Glob.below HG.out (by repeat (first | (with_reducible first | exact HB.out | apply below_alloc | apply pw_below_drewN | apply below_drew1 | refine below_set ?_ GE257.out | refine below_set ?_ GE258.out | refine below_set ?_ GE270.out) | exact HB.out))); rintro e w59 ⟨rfl, hb⟩; have n0_ := Aside0.mk (blk_below (g := gb257) (o := .cells #[.int .i64 a1_0, .int .i64 a1_1, .int .i64 a1_2, .int .i64 a1_3, .int .i64 a1_4, .int .i64 a1_5, .bool a1_6, .int .i64 a1_7, .int .u32 a1_8, .int .u32 a1_9] 25 (0, 0)) (by (with_reducible repeat (first | refine blk_drewN ?_ _ | refine blk_drew ?_ | refine blk_alloc ?_ _)); exact BK257.out) hb); have n1_ := Aside0.mk (blk_below (g := gb258) (o := .cells #[.int .i64 a2_0, .int .i64 a2_1, .int .i64 a2_2, .int .i64 a2_3, .int .i64 a2_4, .int .i64 a2_5, .bool a2_6, .int .i64 a2_7, .int .u32 a2_8, .int .u32 a2_9] 25 (0, 0)) (by (with_reducible repeat (first | refine blk_drewN ?_ _ | refine blk_drew ?_ | refine blk_alloc ?_ _)); exact BK258.out) hb); have n2_ := Aside0.mk (blk_below (g := gb270) (o := .cells #[.int .i64 t260, .int .i64 t261, .int .i64 t262, .int .i64 t263, .int .i64 t264, .int .i64 t265, .bool t266, .int .i64 t267, .int .u32 t268, .int .u32 t269] 25 (0, 0)) (by (with_reducible repeat (first | refine blk_drewN ?_ _ | refine blk_drew ?_ | refine blk_alloc ?_ _)); exact BK270.out) hb); have n3_ := Aside0.mk (below_step (by repeat (first | (with_reducible first | exact HB.out | apply below_alloc | apply pw_below_drewN | apply below_drew1 | refine below_set ?_ GE257.out | refine below_set ?_ GE258.out | refine below_set ?_ GE270.out) | exact HB.out)) hb); clear BK257; clear BK258; clear BK270; clear HB; have BK257 := n0_; have BK258 := n1_; have BK270 := n2_; have HB := n3_; clear n0_ n1_ n2_ n3_; (try clear hb); (try clear hb2); (try clear hk); (try clear hi)))
              go_ret
              exact ⟨by first | rfl | (simp [errW_none, errW_some] <;> rfl) | (simp [*, errW_none, errW_some] <;> rfl), by repeat (first | (with_reducible first | exact HB.out | apply below_alloc | apply pw_below_drewN | apply below_drew1 | refine below_set ?_ GE257.out | refine below_set ?_ GE258.out | refine below_set ?_ GE270.out) | exact HB.out)⟩
            · rw [if_neg c48] at H
              have c48b0 : (t277 != t279) = false := by simpa using c48
              (try (have c48b1 : decide (t277 = t279) = true := by simpa using c48))
              (try (have c48b2 : (t277 == t279) = true := by simpa using c48))
              clear c48
              by_cases c60 : t275 = true
              · subst c60
                have H1 : ((pointer_Decode.f t274).bind fun bt280 => (if (bt280.1 == a1_0 && (bt280.2.1 == a1_1 && (bt280.2.2.1 == a1_2 && (bt280.2.2.2.1 == a1_3 && (bt280.2.2.2.2.1 == a1_4 && (bt280.2.2.2.2.2.1 == a1_5 && (bt280.2.2.2.2.2.2.1 == a1_6 && (bt280.2.2.2.2.2.2.2.1 == a1_7 && (bt280.2.2.2.2.2.2.2.2.1 == a1_8 && (bt280.2.2.2.2.2.2.2.2.2 == a1_9)))))))))) = true then (if t277 = true then (some ((t274 == t276) == (a1_0 == a2_0 && (a1_1 == a2_1 && (a1_2 == a2_2 && (a1_3 == a2_3 && (a1_4 == a2_4 && (a1_5 == a2_5 && (a1_6 == a2_6 && (a1_7 == a2_7 && (a1_8 == a2_8 && (a1_9 == a2_9)))))))))))) else (some true)) else (some false))) = some r := by rw [if_pos rfl] at H; exact H
                clear H
                have H := H1
                clear H1
                replace H := Option.bind_eq_some_iff.mp H
                obtain ⟨⟨t280, t281, t282, t283, t284, t285, t286, t287, t288, t289⟩, A610, H⟩ := H
                replace H : (if (t280 == a1_0 && (t281 == a1_1 && (t282 == a1_2 && (t283 == a1_3 && (t284 == a1_4 && (t285 == a1_5 && (t286 == a1_6 && (t287 == a1_7 && (t288 == a1_8 && (t289 == a1_9)))))))))) = true then (if t277 = true then (some ((t274 == t276) == (a1_0 == a2_0 && (a1_1 == a2_1 && (a1_2 == a2_2 && (a1_3 == a2_3 && (a1_4 == a2_4 && (a1_5 == a2_5 && (a1_6 == a2_6 && (a1_7 == a2_7 && (a1_8 == a2_8 && (a1_9 == a2_9)))))))))))) else (some true)) else (some false)) = some r := H
                have A61 := Aside0.mk A610
                clear A610
                by_cases c62 : (t280 == a1_0 && (t281 == a1_1 && (t282 == a1_2 && (t283 == a1_3 && (t284 == a1_4 && (t285 == a1_5 && (t286 == a1_6 && (t287 == a1_7 && (t288 == a1_8 && (t289 == a1_9)))))))))) = true
                · rw [if_pos c62] at H
                  have c62b0 : (t280 == a1_0 && (t281 == a1_1 && (t282 == a1_2 && (t283 == a1_3 && (t284 == a1_4 && (t285 == a1_5 && (t286 == a1_6 && (t287 == a1_7 && (t288 == a1_8 && (t289 == a1_9)))))))))) = true := c62
                  (try (have c62b1 : decide (t280 = a1_0 && (t281 == a1_1 && (t282 == a1_2 && (t283 == a1_3 && (t284 == a1_4 && (t285 == a1_5 && (t286 == a1_6 && (t287 == a1_7 && (t288 == a1_8 && (t289 == a1_9)))))))))) = true := by simpa using c62))
                  (try (have c62b2 : (t280 == a1_0 && (t281 == a1_1 && (t282 == a1_2 && (t283 == a1_3 && (t284 == a1_4 && (t285 == a1_5 && (t286 == a1_6 && (t287 == a1_7 && (t288 == a1_8 && (t289 == a1_9)))))))))) = true := by simpa using c62))
                  clear c62
                  by_cases c63 : t277 = true
                  · subst c63
                    have H1 : (some ((t274 == t276) == (a1_0 == a2_0 && (a1_1 == a2_1 && (a1_2 == a2_2 && (a1_3 == a2_3 && (a1_4 == a2_4 && (a1_5 == a2_5 && (a1_6 == a2_6 && (a1_7 == a2_7 && (a1_8 == a2_8 && (a1_9 == a2_9)))))))))))) = some r := by rw [if_pos rfl] at H; exact H
                    clear H
                    have H := H1
                    clear H1
                    obtain rfl := Option.some.inj H
                    have hnb64 := NB257_258.out
                    have hnc64 := NB258_257.out
                    have hnb65 := NB257_270.out
                    have hnc65 := NB270_257.out
                    have hcz66_0 : wc.cell? ⟨gb257, 0, none⟩ = some (.int .i64 a1_0) := (blk_cell BK257.out 0).trans rfl
                    have hcz66_1 : wc.cell? ⟨gb257, 1, none⟩ = some (.int .i64 a1_1) := (blk_cell BK257.out 1).trans rfl
                    have hcz66_2 : wc.cell? ⟨gb257, 2, none⟩ = some (.int .i64 a1_2) := (blk_cell BK257.out 2).trans rfl
                    have hcz66_3 : wc.cell? ⟨gb257, 3, none⟩ = some (.int .i64 a1_3) := (blk_cell BK257.out 3).trans rfl
                    have hcz66_4 : wc.cell? ⟨gb257, 4, none⟩ = some (.int .i64 a1_4) := (blk_cell BK257.out 4).trans rfl
                    have hcz66_5 : wc.cell? ⟨gb257, 5, none⟩ = some (.int .i64 a1_5) := (blk_cell BK257.out 5).trans rfl
                    have hcz66_6 : wc.cell? ⟨gb257, 6, none⟩ = some (.bool a1_6) := (blk_cell BK257.out 6).trans rfl
                    have hcz66_7 : wc.cell? ⟨gb257, 7, none⟩ = some (.int .i64 a1_7) := (blk_cell BK257.out 7).trans rfl
                    have hcz66_8 : wc.cell? ⟨gb257, 8, none⟩ = some (.int .u32 a1_8) := (blk_cell BK257.out 8).trans rfl
                    have hcz66_9 : wc.cell? ⟨gb257, 9, none⟩ = some (.int .u32 a1_9) := (blk_cell BK257.out 9).trans rfl
                    have hfz66_0 := blk_frozen BK257.out 0
                    have hfz66_1 := blk_frozen BK257.out 1
                    have hfz66_2 := blk_frozen BK257.out 2
                    have hfz66_3 := blk_frozen BK257.out 3
                    have hfz66_4 := blk_frozen BK257.out 4
                    have hfz66_5 := blk_frozen BK257.out 5
                    have hfz66_6 := blk_frozen BK257.out 6
                    have hfz66_7 := blk_frozen BK257.out 7
                    have hfz66_8 := blk_frozen BK257.out 8
                    have hfz66_9 := blk_frozen BK257.out 9
                    try go_wp2_with (first | ((with_reducible refine gate_callee (f := 9) rfl ?_); refine goesL_ (some 37) rfl rfl Tryd.func9 (by kernel_rfl) rfl #[.agg #[.int .i64 a1_0, .int .i64 a1_1, .int .i64 a1_2, .int .i64 a1_3, .int .i64 a1_4, .int .i64 a1_5, .bool a1_6, .int .i64 a1_7, .int .u32 a1_8, .int .u32 a1_9]] rfl (by (try simp only [List.map_toArray, List.map_cons, List.map_nil]); first | done | rfl | (simp only [List.length_drop, List.length_take]; rfl)) ?_; (with_reducible refine (pointer_Encode.calls a1_0 a1_1 a1_2 a1_3 a1_4 a1_5 a1_6 a1_7 a1_8 a1_9 t274 true _ ?side1 A34.out).mono ?_); (case side1 => exact Glob.below HG.out (by repeat (first | (with_reducible first | exact HB.out | apply below_alloc | apply pw_below_drewN | apply below_drew1 | refine below_set ?_ GE257.out | refine below_set ?_ GE258.out | refine below_set ?_ GE270.out) | exact HB.out))); rintro e w67 ⟨rfl, hb⟩; refine ⟨_, rfl, ?_⟩; have n0_ := Aside0.mk (blk_below (g := gb257) (o := .cells #[.int .i64 a1_0, .int .i64 a1_1, .int .i64 a1_2, .int .i64 a1_3, .int .i64 a1_4, .int .i64 a1_5, .bool a1_6, .int .i64 a1_7, .int .u32 a1_8, .int .u32 a1_9] 25 (0, 0)) (by (with_reducible repeat (first | refine blk_drewN ?_ _ | refine blk_drew ?_ | refine blk_alloc ?_ _)); exact BK257.out) hb); have n1_ := Aside0.mk (blk_below (g := gb258) (o := .cells #[.int .i64 a2_0, .int .i64 a2_1, .int .i64 a2_2, .int .i64 a2_3, .int .i64 a2_4, .int .i64 a2_5, .bool a2_6, .int .i64 a2_7, .int .u32 a2_8, .int .u32 a2_9] 25 (0, 0)) (by (with_reducible repeat (first | refine blk_drewN ?_ _ | refine blk_drew ?_ | refine blk_alloc ?_ _)); exact BK258.out) hb); have n2_ := Aside0.mk (blk_below (g := gb270) (o := .cells #[.int .i64 t260, .int .i64 t261, .int .i64 t262, .int .i64 t263, .int .i64 t264, .int .i64 t265, .bool t266, .int .i64 t267, .int .u32 t268, .int .u32 t269] 25 (0, 0)) (by (with_reducible repeat (first | refine blk_drewN ?_ _ | refine blk_drew ?_ | refine blk_alloc ?_ _)); exact BK270.out) hb); have n3_ := Aside0.mk (below_step (by repeat (first | (with_reducible first | exact HB.out | apply below_alloc | apply pw_below_drewN | apply below_drew1 | refine below_set ?_ GE257.out | refine below_set ?_ GE258.out | refine below_set ?_ GE270.out) | exact HB.out)) hb); clear BK257; clear BK258; clear BK270; clear HB; have BK257 := n0_; have BK258 := n1_; have BK270 := n2_; have HB := n3_; clear n0_ n1_ n2_ n3_; (try clear hb); (try clear hb2); (try clear hk); (try clear hi); have hnb68 := NB258_270.out; have hnc68 := NB270_258.out; have hcz69_0 : w67.cell? ⟨gb258, 0, none⟩ = some (.int .i64 a2_0) := (blk_cell BK258.out 0).trans rfl; have hcz69_1 : w67.cell? ⟨gb258, 1, none⟩ = some (.int .i64 a2_1) := (blk_cell BK258.out 1).trans rfl; have hcz69_2 : w67.cell? ⟨gb258, 2, none⟩ = some (.int .i64 a2_2) := (blk_cell BK258.out 2).trans rfl; have hcz69_3 : w67.cell? ⟨gb258, 3, none⟩ = some (.int .i64 a2_3) := (blk_cell BK258.out 3).trans rfl; have hcz69_4 : w67.cell? ⟨gb258, 4, none⟩ = some (.int .i64 a2_4) := (blk_cell BK258.out 4).trans rfl; have hcz69_5 : w67.cell? ⟨gb258, 5, none⟩ = some (.int .i64 a2_5) := (blk_cell BK258.out 5).trans rfl; have hcz69_6 : w67.cell? ⟨gb258, 6, none⟩ = some (.bool a2_6) := (blk_cell BK258.out 6).trans rfl; have hcz69_7 : w67.cell? ⟨gb258, 7, none⟩ = some (.int .i64 a2_7) := (blk_cell BK258.out 7).trans rfl; have hcz69_8 : w67.cell? ⟨gb258, 8, none⟩ = some (.int .u32 a2_8) := (blk_cell BK258.out 8).trans rfl; have hcz69_9 : w67.cell? ⟨gb258, 9, none⟩ = some (.int .u32 a2_9) := (blk_cell BK258.out 9).trans rfl; have hfz69_0 := blk_frozen BK258.out 0; have hfz69_1 := blk_frozen BK258.out 1; have hfz69_2 := blk_frozen BK258.out 2; have hfz69_3 := blk_frozen BK258.out 3; have hfz69_4 := blk_frozen BK258.out 4; have hfz69_5 := blk_frozen BK258.out 5; have hfz69_6 := blk_frozen BK258.out 6; have hfz69_7 := blk_frozen BK258.out 7; have hfz69_8 := blk_frozen BK258.out 8; have hfz69_9 := blk_frozen BK258.out 9) | ((with_reducible refine gate_callee (f := 9) rfl ?_); refine goesL_ (some 42) rfl rfl Tryd.func9 (by kernel_rfl) rfl #[.agg #[.int .i64 a2_0, .int .i64 a2_1, .int .i64 a2_2, .int .i64 a2_3, .int .i64 a2_4, .int .i64 a2_5, .bool a2_6, .int .i64 a2_7, .int .u32 a2_8, .int .u32 a2_9]] rfl (by (try simp only [List.map_toArray, List.map_cons, List.map_nil]); first | done | rfl | (simp only [List.length_drop, List.length_take]; rfl)) ?_; (with_reducible refine (pointer_Encode.calls a2_0 a2_1 a2_2 a2_3 a2_4 a2_5 a2_6 a2_7 a2_8 a2_9 t276 true _ ?side1 A35.out).mono ?_); (case side1 => exact Glob.below HG.out (by repeat (first | (with_reducible first | exact HB.out | apply below_alloc | apply pw_below_drewN | apply below_drew1 | refine below_set ?_ GE257.out | refine below_set ?_ GE258.out | refine below_set ?_ GE270.out) | exact HB.out))); rintro e w70 ⟨rfl, hb⟩; refine ⟨_, rfl, ?_⟩; have n0_ := Aside0.mk (blk_below (g := gb257) (o := .cells #[.int .i64 a1_0, .int .i64 a1_1, .int .i64 a1_2, .int .i64 a1_3, .int .i64 a1_4, .int .i64 a1_5, .bool a1_6, .int .i64 a1_7, .int .u32 a1_8, .int .u32 a1_9] 25 (0, 0)) (by (with_reducible repeat (first | refine blk_drewN ?_ _ | refine blk_drew ?_ | refine blk_alloc ?_ _)); exact BK257.out) hb); have n1_ := Aside0.mk (blk_below (g := gb258) (o := .cells #[.int .i64 a2_0, .int .i64 a2_1, .int .i64 a2_2, .int .i64 a2_3, .int .i64 a2_4, .int .i64 a2_5, .bool a2_6, .int .i64 a2_7, .int .u32 a2_8, .int .u32 a2_9] 25 (0, 0)) (by (with_reducible repeat (first | refine blk_drewN ?_ _ | refine blk_drew ?_ | refine blk_alloc ?_ _)); exact BK258.out) hb); have n2_ := Aside0.mk (blk_below (g := gb270) (o := .cells #[.int .i64 t260, .int .i64 t261, .int .i64 t262, .int .i64 t263, .int .i64 t264, .int .i64 t265, .bool t266, .int .i64 t267, .int .u32 t268, .int .u32 t269] 25 (0, 0)) (by (with_reducible repeat (first | refine blk_drewN ?_ _ | refine blk_drew ?_ | refine blk_alloc ?_ _)); exact BK270.out) hb); have n3_ := Aside0.mk (below_step (by repeat (first | (with_reducible first | exact HB.out | apply below_alloc | apply pw_below_drewN | apply below_drew1 | refine below_set ?_ GE257.out | refine below_set ?_ GE258.out | refine below_set ?_ GE270.out) | exact HB.out)) hb); clear BK257; clear BK258; clear BK270; clear HB; have BK257 := n0_; have BK258 := n1_; have BK270 := n2_; have HB := n3_; clear n0_ n1_ n2_ n3_; (try clear hb); (try clear hb2); (try clear hk); (try clear hi); have hcz71_0 : w70.cell? ⟨gb257, 0, none⟩ = some (.int .i64 a1_0) := (blk_cell BK257.out 0).trans rfl; have hcz71_1 : w70.cell? ⟨gb257, 1, none⟩ = some (.int .i64 a1_1) := (blk_cell BK257.out 1).trans rfl; have hcz71_2 : w70.cell? ⟨gb257, 2, none⟩ = some (.int .i64 a1_2) := (blk_cell BK257.out 2).trans rfl; have hcz71_3 : w70.cell? ⟨gb257, 3, none⟩ = some (.int .i64 a1_3) := (blk_cell BK257.out 3).trans rfl; have hcz71_4 : w70.cell? ⟨gb257, 4, none⟩ = some (.int .i64 a1_4) := (blk_cell BK257.out 4).trans rfl; have hcz71_5 : w70.cell? ⟨gb257, 5, none⟩ = some (.int .i64 a1_5) := (blk_cell BK257.out 5).trans rfl; have hcz71_6 : w70.cell? ⟨gb257, 6, none⟩ = some (.bool a1_6) := (blk_cell BK257.out 6).trans rfl; have hcz71_7 : w70.cell? ⟨gb257, 7, none⟩ = some (.int .i64 a1_7) := (blk_cell BK257.out 7).trans rfl; have hcz71_8 : w70.cell? ⟨gb257, 8, none⟩ = some (.int .u32 a1_8) := (blk_cell BK257.out 8).trans rfl; have hcz71_9 : w70.cell? ⟨gb257, 9, none⟩ = some (.int .u32 a1_9) := (blk_cell BK257.out 9).trans rfl; have hfz71_0 := blk_frozen BK257.out 0; have hfz71_1 := blk_frozen BK257.out 1; have hfz71_2 := blk_frozen BK257.out 2; have hfz71_3 := blk_frozen BK257.out 3; have hfz71_4 := blk_frozen BK257.out 4; have hfz71_5 := blk_frozen BK257.out 5; have hfz71_6 := blk_frozen BK257.out 6; have hfz71_7 := blk_frozen BK257.out 7; have hfz71_8 := blk_frozen BK257.out 8; have hfz71_9 := blk_frozen BK257.out 9) | ((with_reducible refine gate_callee (f := 13) rfl ?_); refine goesL_ (some 47) rfl rfl Tryd.func13 (by kernel_rfl) rfl #[.agg #[.int .i64 a1_0, .int .i64 a1_1, .int .i64 a1_2, .int .i64 a1_3, .int .i64 a1_4, .int .i64 a1_5, .bool a1_6, .int .i64 a1_7, .int .u32 a1_8, .int .u32 a1_9]] rfl (by (try simp only [List.map_toArray, List.map_cons, List.map_nil]); first | done | rfl | (simp only [List.length_drop, List.length_take]; rfl)) ?_; (with_reducible refine (pointer_Valid.calls a1_0 a1_1 a1_2 a1_3 a1_4 a1_5 a1_6 a1_7 a1_8 a1_9 t278 _ ?side1 A36.out).mono ?_); (case side1 => exact Glob.below HG.out (by repeat (first | (with_reducible first | exact HB.out | apply below_alloc | apply pw_below_drewN | apply below_drew1 | refine below_set ?_ GE257.out | refine below_set ?_ GE258.out | refine below_set ?_ GE270.out) | exact HB.out))); rintro e w72 ⟨rfl, hb⟩; refine ⟨_, rfl, ?_⟩; have n0_ := Aside0.mk (blk_below (g := gb257) (o := .cells #[.int .i64 a1_0, .int .i64 a1_1, .int .i64 a1_2, .int .i64 a1_3, .int .i64 a1_4, .int .i64 a1_5, .bool a1_6, .int .i64 a1_7, .int .u32 a1_8, .int .u32 a1_9] 25 (0, 0)) (by (with_reducible repeat (first | refine blk_drewN ?_ _ | refine blk_drew ?_ | refine blk_alloc ?_ _)); exact BK257.out) hb); have n1_ := Aside0.mk (blk_below (g := gb258) (o := .cells #[.int .i64 a2_0, .int .i64 a2_1, .int .i64 a2_2, .int .i64 a2_3, .int .i64 a2_4, .int .i64 a2_5, .bool a2_6, .int .i64 a2_7, .int .u32 a2_8, .int .u32 a2_9] 25 (0, 0)) (by (with_reducible repeat (first | refine blk_drewN ?_ _ | refine blk_drew ?_ | refine blk_alloc ?_ _)); exact BK258.out) hb); have n2_ := Aside0.mk (blk_below (g := gb270) (o := .cells #[.int .i64 t260, .int .i64 t261, .int .i64 t262, .int .i64 t263, .int .i64 t264, .int .i64 t265, .bool t266, .int .i64 t267, .int .u32 t268, .int .u32 t269] 25 (0, 0)) (by (with_reducible repeat (first | refine blk_drewN ?_ _ | refine blk_drew ?_ | refine blk_alloc ?_ _)); exact BK270.out) hb); have n3_ := Aside0.mk (below_step (by repeat (first | (with_reducible first | exact HB.out | apply below_alloc | apply pw_below_drewN | apply below_drew1 | refine below_set ?_ GE257.out | refine below_set ?_ GE258.out | refine below_set ?_ GE270.out) | exact HB.out)) hb); clear BK257; clear BK258; clear BK270; clear HB; have BK257 := n0_; have BK258 := n1_; have BK270 := n2_; have HB := n3_; clear n0_ n1_ n2_ n3_; (try clear hb); (try clear hb2); (try clear hk); (try clear hi); have hcz73_0 : w72.cell? ⟨gb258, 0, none⟩ = some (.int .i64 a2_0) := (blk_cell BK258.out 0).trans rfl; have hcz73_1 : w72.cell? ⟨gb258, 1, none⟩ = some (.int .i64 a2_1) := (blk_cell BK258.out 1).trans rfl; have hcz73_2 : w72.cell? ⟨gb258, 2, none⟩ = some (.int .i64 a2_2) := (blk_cell BK258.out 2).trans rfl; have hcz73_3 : w72.cell? ⟨gb258, 3, none⟩ = some (.int .i64 a2_3) := (blk_cell BK258.out 3).trans rfl; have hcz73_4 : w72.cell? ⟨gb258, 4, none⟩ = some (.int .i64 a2_4) := (blk_cell BK258.out 4).trans rfl; have hcz73_5 : w72.cell? ⟨gb258, 5, none⟩ = some (.int .i64 a2_5) := (blk_cell BK258.out 5).trans rfl; have hcz73_6 : w72.cell? ⟨gb258, 6, none⟩ = some (.bool a2_6) := (blk_cell BK258.out 6).trans rfl; have hcz73_7 : w72.cell? ⟨gb258, 7, none⟩ = some (.int .i64 a2_7) := (blk_cell BK258.out 7).trans rfl; have hcz73_8 : w72.cell? ⟨gb258, 8, none⟩ = some (.int .u32 a2_8) := (blk_cell BK258.out 8).trans rfl; have hcz73_9 : w72.cell? ⟨gb258, 9, none⟩ = some (.int .u32 a2_9) := (blk_cell BK258.out 9).trans rfl; have hfz73_0 := blk_frozen BK258.out 0; have hfz73_1 := blk_frozen BK258.out 1; have hfz73_2 := blk_frozen BK258.out 2; have hfz73_3 := blk_frozen BK258.out 3; have hfz73_4 := blk_frozen BK258.out 4; have hfz73_5 := blk_frozen BK258.out 5; have hfz73_6 := blk_frozen BK258.out 6; have hfz73_7 := blk_frozen BK258.out 7; have hfz73_8 := blk_frozen BK258.out 8; have hfz73_9 := blk_frozen BK258.out 9) | (go_at_call 13; (with_reducible refine (pointer_Valid.calls a2_0 a2_1 a2_2 a2_3 a2_4 a2_5 a2_6 a2_7 a2_8 a2_9 t279 _ ?side1 A47.out).mono ?_); (case side1 => exact Glob.below HG.out (by repeat (first | (with_reducible first | exact HB.out | apply below_alloc | apply pw_below_drewN | apply below_drew1 | refine below_set ?_ GE257.out | refine below_set ?_ GE258.out | refine below_set ?_ GE270.out) | exact HB.out))); rintro e w74 ⟨rfl, hb⟩; have n0_ := Aside0.mk (blk_below (g := gb257) (o := .cells #[.int .i64 a1_0, .int .i64 a1_1, .int .i64 a1_2, .int .i64 a1_3, .int .i64 a1_4, .int .i64 a1_5, .bool a1_6, .int .i64 a1_7, .int .u32 a1_8, .int .u32 a1_9] 25 (0, 0)) (by (with_reducible repeat (first | refine blk_drewN ?_ _ | refine blk_drew ?_ | refine blk_alloc ?_ _)); exact BK257.out) hb); have n1_ := Aside0.mk (blk_below (g := gb258) (o := .cells #[.int .i64 a2_0, .int .i64 a2_1, .int .i64 a2_2, .int .i64 a2_3, .int .i64 a2_4, .int .i64 a2_5, .bool a2_6, .int .i64 a2_7, .int .u32 a2_8, .int .u32 a2_9] 25 (0, 0)) (by (with_reducible repeat (first | refine blk_drewN ?_ _ | refine blk_drew ?_ | refine blk_alloc ?_ _)); exact BK258.out) hb); have n2_ := Aside0.mk (blk_below (g := gb270) (o := .cells #[.int .i64 t260, .int .i64 t261, .int .i64 t262, .int .i64 t263, .int .i64 t264, .int .i64 t265, .bool t266, .int .i64 t267, .int .u32 t268, .int .u32 t269] 25 (0, 0)) (by (with_reducible repeat (first | refine blk_drewN ?_ _ | refine blk_drew ?_ | refine blk_alloc ?_ _)); exact BK270.out) hb); have n3_ := Aside0.mk (below_step (by repeat (first | (with_reducible first | exact HB.out | apply below_alloc | apply pw_below_drewN | apply below_drew1 | refine below_set ?_ GE257.out | refine below_set ?_ GE258.out | refine below_set ?_ GE270.out) | exact HB.out)) hb); clear BK257; clear BK258; clear BK270; clear HB; have BK257 := n0_; have BK258 := n1_; have BK270 := n2_; have HB := n3_; clear n0_ n1_ n2_ n3_; (try clear hb); (try clear hb2); (try clear hk); (try clear hi)))
                    have n0_ := Aside0.mk (blk_drew BK257.out)
                    have n1_ := Aside0.mk (blk_drew BK258.out)
                    have n2_ := Aside0.mk (blk_drew BK270.out)
                    have n3_ := Aside0.mk (below_drew1 HB.out)
                    clear BK257
                    clear BK258
                    clear BK270
                    clear HB
                    have BK257 := n0_
                    have BK258 := n1_
                    have BK270 := n2_
                    have HB := n3_
                    clear n0_ n1_ n2_ n3_
                    refine start_ (n := 26) (S := fun w' => w'.cell? ⟨gb257, 0, none⟩ = some (.int .i64 a1_0) ∧ w'.cell? ⟨gb257, 1, none⟩ = some (.int .i64 a1_1) ∧ w'.cell? ⟨gb257, 2, none⟩ = some (.int .i64 a1_2) ∧ w'.cell? ⟨gb257, 3, none⟩ = some (.int .i64 a1_3) ∧ w'.cell? ⟨gb257, 4, none⟩ = some (.int .i64 a1_4) ∧ w'.cell? ⟨gb257, 5, none⟩ = some (.int .i64 a1_5) ∧ w'.cell? ⟨gb257, 6, none⟩ = some (.bool a1_6) ∧ w'.cell? ⟨gb257, 7, none⟩ = some (.int .i64 a1_7) ∧ w'.cell? ⟨gb257, 8, none⟩ = some (.int .u32 a1_8) ∧ w'.cell? ⟨gb257, 9, none⟩ = some (.int .u32 a1_9) ∧ w'.cell? ⟨gb258, 0, none⟩ = some (.int .i64 a2_0) ∧ w'.cell? ⟨gb258, 1, none⟩ = some (.int .i64 a2_1) ∧ w'.cell? ⟨gb258, 2, none⟩ = some (.int .i64 a2_2) ∧ w'.cell? ⟨gb258, 3, none⟩ = some (.int .i64 a2_3) ∧ w'.cell? ⟨gb258, 4, none⟩ = some (.int .i64 a2_4) ∧ w'.cell? ⟨gb258, 5, none⟩ = some (.int .i64 a2_5) ∧ w'.cell? ⟨gb258, 6, none⟩ = some (.bool a2_6) ∧ w'.cell? ⟨gb258, 7, none⟩ = some (.int .i64 a2_7) ∧ w'.cell? ⟨gb258, 8, none⟩ = some (.int .u32 a2_8) ∧ w'.cell? ⟨gb258, 9, none⟩ = some (.int .u32 a2_9)) (ds := []) #[false, false, false, false, false, false, false, false, false, false, false, false, false, false, false, false, false, false, false, false, false, false, false, false, false, false] (by kernel_rfl) rfl rfl ⟨(blk_cell BK257.out 0).trans rfl, (blk_cell BK257.out 1).trans rfl, (blk_cell BK257.out 2).trans rfl, (blk_cell BK257.out 3).trans rfl, (blk_cell BK257.out 4).trans rfl, (blk_cell BK257.out 5).trans rfl, (blk_cell BK257.out 6).trans rfl, (blk_cell BK257.out 7).trans rfl, (blk_cell BK257.out 8).trans rfl, (blk_cell BK257.out 9).trans rfl, (blk_cell BK258.out 0).trans rfl, (blk_cell BK258.out 1).trans rfl, (blk_cell BK258.out 2).trans rfl, (blk_cell BK258.out 3).trans rfl, (blk_cell BK258.out 4).trans rfl, (blk_cell BK258.out 5).trans rfl, (blk_cell BK258.out 6).trans rfl, (blk_cell BK258.out 7).trans rfl, (blk_cell BK258.out 8).trans rfl, (blk_cell BK258.out 9).trans rfl⟩ (fun hHeld => ?_); refine with_tabW capnplaw02_PointerRoundTrip.tab11 capnplaw02_PointerRoundTrip.bits11 (fun HT_ HW_ => ?_)
                    generalize w74.drew = w75 at BK257 BK258 BK270 HB hHeld ⊢
                    refine pure_ (i := 0) (N := some 63) (v := ?_) (a' := ?_) #[true, false, false, false, false, false, false, false, false, false, false, false, false, false, false, false, false, false, false, false, false, false, false, false, false, false] rfl rfl (any_of HT_.out (by kernel_rfl)) (fun _ _ _ h => h) (Or.inl ⟨by rfl, ?_⟩) ?_ ?_
                    rotate_left
                    · intro w'
                      go_simp
                      with_reducible rfl
                    rotate_left
                    · simp only [Act.put, List.setIfInBounds_toArray, List.set_cons_zero, List.set_cons_succ, i64_w, i32_w]
                      rfl
                    refine pure_ (i := 1) (N := some 64) (v := ?_) (a' := ?_) #[true, true, false, false, false, false, false, false, false, false, false, false, false, false, false, false, false, false, false, false, false, false, false, false, false, false] rfl rfl (any_of HT_.out (by kernel_rfl)) (fun _ _ _ h => h) (Or.inl ⟨by rfl, ?_⟩) ?_ ?_
                    rotate_left
                    · intro w'
                      go_simp
                      with_reducible rfl
                    rotate_left
                    · simp only [Act.put, List.setIfInBounds_toArray, List.set_cons_zero, List.set_cons_succ, i64_w, i32_w]
                      rfl
                    refine pure_ (i := 2) (N := some 65) (v := ?_) (a' := ?_) #[true, true, true, false, false, false, false, false, false, false, false, false, false, false, false, false, false, false, false, false, false, false, false, false, false, false] rfl rfl (any_of HT_.out (by kernel_rfl)) (fun _ _ _ h => h) (Or.inl ⟨by rfl, ?_⟩) ?_ ?_
                    rotate_left
                    · intro w'
                      go_simp
                      with_reducible rfl
                    rotate_left
                    · simp only [Act.put, List.setIfInBounds_toArray, List.set_cons_zero, List.set_cons_succ, i64_w, i32_w]
                      rfl
                    refine pure_ (i := 3) (N := some 66) (v := ?_) (a' := ?_) #[true, true, true, true, false, false, false, false, false, false, false, false, false, false, false, false, false, false, false, false, false, false, false, false, false, false] rfl rfl (any_of HT_.out (by kernel_rfl)) (fun _ _ _ h => h) (Or.inl ⟨by rfl, ?_⟩) ?_ ?_
                    rotate_left
                    · intro w'
                      go_simp
                      with_reducible rfl
                    rotate_left
                    · simp only [Act.put, List.setIfInBounds_toArray, List.set_cons_zero, List.set_cons_succ, i64_w, i32_w]
                      rfl
                    refine take_ (i := 5) (N := some 68) (v := ?_) (a' := ?_) #[true, true, true, true, false, true, false, false, false, false, false, false, false, false, false, false, false, false, false, false, false, false, false, false, false, false] rfl rfl (take_ofW HT_.out HW_.out (by kernel_rfl)) (fun _ _ _ h => h) (Or.inl ⟨by rfl, ?_⟩) hHeld ?_ ?_
                    rotate_left
                    · rintro w' ⟨s0, s1, s2, s3, s4, s5, s6, s7, s8, s9, s10, s11, s12, s13, s14, s15, s16, s17, s18, s19⟩
                      go_simp
                      with_reducible rfl
                    rotate_left
                    · simp only [Act.put, List.setIfInBounds_toArray, List.set_cons_zero, List.set_cons_succ, i64_w, i32_w]
                      rfl
                    refine one_ (i := 4) (N := some 67) #[true, true, true, true, true, true, false, false, false, false, false, false, false, false, false, false, false, false, false, false, false, false, false, false, false, false] rfl rfl (one_of HT_.out (by kernel_rfl)) (by decide) (fun K hK => ?_)
                    refine goes_ Tryd.func11 (by kernel_rfl) rfl #[.int .u64 t274] (by rfl) rfl rfl (by (try simp only [List.map_toArray, List.map_cons, List.map_nil]); first | done | rfl | (simp only [List.length_drop, List.length_take]; rfl)) ?_
                    with_reducible refine (pointer_Decode.calls t274 t280 t281 t282 t283 t284 t285 t286 t287 t288 t289 _ ?side1 A61.out).mono ?_
                    (case side1 => exact Glob.below HG.out (by repeat (first | (with_reducible first | exact HB.out | apply below_alloc | apply pw_below_drewN | apply below_drew1 | refine below_set ?_ GE257.out | refine below_set ?_ GE258.out | refine below_set ?_ GE270.out) | exact HB.out)))
                    rintro e w76 ⟨rfl, hb⟩
                    refine ⟨_, rfl, ?_⟩
                    have n0_ := Aside0.mk (blk_below (g := gb257) (o := .cells #[.int .i64 a1_0, .int .i64 a1_1, .int .i64 a1_2, .int .i64 a1_3, .int .i64 a1_4, .int .i64 a1_5, .bool a1_6, .int .i64 a1_7, .int .u32 a1_8, .int .u32 a1_9] 25 (0, 0)) (by (with_reducible repeat (first | refine blk_drewN ?_ _ | refine blk_drew ?_ | refine blk_alloc ?_ _)); exact BK257.out) hb)
                    have n1_ := Aside0.mk (blk_below (g := gb258) (o := .cells #[.int .i64 a2_0, .int .i64 a2_1, .int .i64 a2_2, .int .i64 a2_3, .int .i64 a2_4, .int .i64 a2_5, .bool a2_6, .int .i64 a2_7, .int .u32 a2_8, .int .u32 a2_9] 25 (0, 0)) (by (with_reducible repeat (first | refine blk_drewN ?_ _ | refine blk_drew ?_ | refine blk_alloc ?_ _)); exact BK258.out) hb)
                    have n2_ := Aside0.mk (blk_below (g := gb270) (o := .cells #[.int .i64 t260, .int .i64 t261, .int .i64 t262, .int .i64 t263, .int .i64 t264, .int .i64 t265, .bool t266, .int .i64 t267, .int .u32 t268, .int .u32 t269] 25 (0, 0)) (by (with_reducible repeat (first | refine blk_drewN ?_ _ | refine blk_drew ?_ | refine blk_alloc ?_ _)); exact BK270.out) hb)
                    have n3_ := Aside0.mk (below_step (by repeat (first | (with_reducible first | exact HB.out | apply below_alloc | apply pw_below_drewN | apply below_drew1 | refine below_set ?_ GE257.out | refine below_set ?_ GE258.out | refine below_set ?_ GE270.out) | exact HB.out)) hb)
                    clear BK257
                    clear BK258
                    clear BK270
                    clear HB
                    have BK257 := n0_
                    have BK258 := n1_
                    have BK270 := n2_
                    have HB := n3_
                    clear n0_ n1_ n2_ n3_
                    (try clear hb)
                    (try clear hb2)
                    (try clear hk)
                    (try clear hi)
                    refine hK.out _ _ ⟨(blk_cell BK257.out 0).trans rfl, (blk_cell BK257.out 1).trans rfl, (blk_cell BK257.out 2).trans rfl, (blk_cell BK257.out 3).trans rfl, (blk_cell BK257.out 4).trans rfl, (blk_cell BK257.out 5).trans rfl, (blk_cell BK257.out 6).trans rfl, (blk_cell BK257.out 7).trans rfl, (blk_cell BK257.out 8).trans rfl, (blk_cell BK257.out 9).trans rfl, (blk_cell BK258.out 0).trans rfl, (blk_cell BK258.out 1).trans rfl, (blk_cell BK258.out 2).trans rfl, (blk_cell BK258.out 3).trans rfl, (blk_cell BK258.out 4).trans rfl, (blk_cell BK258.out 5).trans rfl, (blk_cell BK258.out 6).trans rfl, (blk_cell BK258.out 7).trans rfl, (blk_cell BK258.out 8).trans rfl, (blk_cell BK258.out 9).trans rfl⟩ (fun hHeld => ?_)
                    clear hK K
                    refine norm_ (a' := ?_) ?_ ?_
                    rotate_left
                    · show Act.put _ (some 67) _ = _
                      simp only [Act.put, List.setIfInBounds_toArray, List.set_cons_zero, List.set_cons_succ, i64_w, i32_w]
                      rfl
                    refine pure_ (i := 6) (N := some 69) (v := ?_) (a' := ?_) #[true, true, true, true, true, true, true, false, false, false, false, false, false, false, false, false, false, false, false, false, false, false, false, false, false, false] rfl rfl (any_of HT_.out (by kernel_rfl)) (fun _ _ _ h => h) (Or.inl ⟨by rfl, ?_⟩) ?_ ?_
                    rotate_left
                    · intro w'
                      go_simp
                      with_reducible rfl
                    rotate_left
                    · simp only [Act.put, List.setIfInBounds_toArray, List.set_cons_zero, List.set_cons_succ, i64_w, i32_w]
                      rfl
                    refine pure_ (i := 7) (N := some 70) (v := ?_) (a' := ?_) #[true, true, true, true, true, true, true, true, false, false, false, false, false, false, false, false, false, false, false, false, false, false, false, false, false, false] rfl rfl (any_of HT_.out (by kernel_rfl)) (fun _ _ _ h => h) (Or.inl ⟨by rfl, ?_⟩) ?_ ?_
                    rotate_left
                    · intro w'
                      go_simp
                      with_reducible rfl
                    rotate_left
                    · simp only [Act.put, List.setIfInBounds_toArray, List.set_cons_zero, List.set_cons_succ, i64_w, i32_w]
                      rfl
                    refine pure_ (i := 8) (N := some 71) (v := ?_) (a' := ?_) #[true, true, true, true, true, true, true, true, true, false, false, false, false, false, false, false, false, false, false, false, false, false, false, false, false, false] rfl rfl (any_of HT_.out (by kernel_rfl)) (fun _ _ _ h => h) (Or.inl ⟨by rfl, ?_⟩) ?_ ?_
                    rotate_left
                    · intro w'
                      go_simp
                      with_reducible rfl
                    rotate_left
                    · simp only [Act.put, List.setIfInBounds_toArray, List.set_cons_zero, List.set_cons_succ, i64_w, i32_w]
                      rfl
                    refine pure_ (i := 9) (N := some 72) (v := ?_) (a' := ?_) #[true, true, true, true, true, true, true, true, true, true, false, false, false, false, false, false, false, false, false, false, false, false, false, false, false, false] rfl rfl (any_of HT_.out (by kernel_rfl)) (fun _ _ _ h => h) (Or.inl ⟨by rfl, ?_⟩) ?_ ?_
                    rotate_left
                    · intro w'
                      go_simp
                      with_reducible rfl
                    rotate_left
                    · simp only [Act.put, List.setIfInBounds_toArray, List.set_cons_zero, List.set_cons_succ, i64_w, i32_w]
                      rfl
                    refine pure_ (i := 10) (N := some 73) (v := ?_) (a' := ?_) #[true, true, true, true, true, true, true, true, true, true, true, false, false, false, false, false, false, false, false, false, false, false, false, false, false, false] rfl rfl (any_of HT_.out (by kernel_rfl)) (fun _ _ _ h => h) (Or.inl ⟨by rfl, ?_⟩) ?_ ?_
                    rotate_left
                    · intro w'
                      go_simp
                      with_reducible rfl
                    rotate_left
                    · simp only [Act.put, List.setIfInBounds_toArray, List.set_cons_zero, List.set_cons_succ, i64_w, i32_w]
                      rfl
                    refine pure_ (i := 11) (N := some 74) (v := ?_) (a' := ?_) #[true, true, true, true, true, true, true, true, true, true, true, true, false, false, false, false, false, false, false, false, false, false, false, false, false, false] rfl rfl (any_of HT_.out (by kernel_rfl)) (fun _ _ _ h => h) (Or.inl ⟨by rfl, ?_⟩) ?_ ?_
                    rotate_left
                    · intro w'
                      go_simp
                      with_reducible rfl
                    rotate_left
                    · simp only [Act.put, List.setIfInBounds_toArray, List.set_cons_zero, List.set_cons_succ, i64_w, i32_w]
                      rfl
                    refine pure_ (i := 12) (N := some 75) (v := ?_) (a' := ?_) #[true, true, true, true, true, true, true, true, true, true, true, true, true, false, false, false, false, false, false, false, false, false, false, false, false, false] rfl rfl (any_of HT_.out (by kernel_rfl)) (fun _ _ _ h => h) (Or.inl ⟨by rfl, ?_⟩) ?_ ?_
                    rotate_left
                    · intro w'
                      go_simp
                      with_reducible rfl
                    rotate_left
                    · simp only [Act.put, List.setIfInBounds_toArray, List.set_cons_zero, List.set_cons_succ, i64_w, i32_w]
                      rfl
                    refine pure_ (i := 13) (N := some 76) (v := ?_) (a' := ?_) #[true, true, true, true, true, true, true, true, true, true, true, true, true, true, false, false, false, false, false, false, false, false, false, false, false, false] rfl rfl (any_of HT_.out (by kernel_rfl)) (fun _ _ _ h => h) (Or.inl ⟨by rfl, ?_⟩) ?_ ?_
                    rotate_left
                    · intro w'
                      go_simp
                      with_reducible rfl
                    rotate_left
                    · simp only [Act.put, List.setIfInBounds_toArray, List.set_cons_zero, List.set_cons_succ, i64_w, i32_w]
                      rfl
                    refine pure_ (i := 14) (N := some 77) (v := ?_) (a' := ?_) #[true, true, true, true, true, true, true, true, true, true, true, true, true, true, true, false, false, false, false, false, false, false, false, false, false, false] rfl rfl (any_of HT_.out (by kernel_rfl)) (fun _ _ _ h => h) (Or.inl ⟨by rfl, ?_⟩) ?_ ?_
                    rotate_left
                    · intro w'
                      go_simp
                      with_reducible rfl
                    rotate_left
                    · simp only [Act.put, List.setIfInBounds_toArray, List.set_cons_zero, List.set_cons_succ, i64_w, i32_w]
                      rfl
                    refine pure_ (i := 15) (N := some 78) (v := ?_) (a' := ?_) #[true, true, true, true, true, true, true, true, true, true, true, true, true, true, true, true, false, false, false, false, false, false, false, false, false, false] rfl rfl (any_of HT_.out (by kernel_rfl)) (fun _ _ _ h => h) (Or.inl ⟨by rfl, ?_⟩) ?_ ?_
                    rotate_left
                    · intro w'
                      go_simp
                      with_reducible rfl
                    rotate_left
                    · simp only [Act.put, List.setIfInBounds_toArray, List.set_cons_zero, List.set_cons_succ, i64_w, i32_w]
                      rfl
                    refine pure_ (i := 16) (N := some 79) (v := ?_) (a' := ?_) #[true, true, true, true, true, true, true, true, true, true, true, true, true, true, true, true, true, false, false, false, false, false, false, false, false, false] rfl rfl (any_of HT_.out (by kernel_rfl)) (fun _ _ _ h => h) (Or.inl ⟨by rfl, ?_⟩) ?_ ?_
                    rotate_left
                    · intro w'
                      go_simp
                      with_reducible rfl
                    rotate_left
                    · simp only [Act.put, List.setIfInBounds_toArray, List.set_cons_zero, List.set_cons_succ, i64_w, i32_w]
                      rfl
                    refine pure_ (i := 17) (N := some 80) (v := ?_) (a' := ?_) #[true, true, true, true, true, true, true, true, true, true, true, true, true, true, true, true, true, true, false, false, false, false, false, false, false, false] rfl rfl (any_of HT_.out (by kernel_rfl)) (fun _ _ _ h => h) (Or.inl ⟨by rfl, ?_⟩) ?_ ?_
                    rotate_left
                    · intro w'
                      go_simp
                      with_reducible rfl
                    rotate_left
                    · simp only [Act.put, List.setIfInBounds_toArray, List.set_cons_zero, List.set_cons_succ, i64_w, i32_w]
                      rfl
                    refine pure_ (i := 18) (N := some 81) (v := ?_) (a' := ?_) #[true, true, true, true, true, true, true, true, true, true, true, true, true, true, true, true, true, true, true, false, false, false, false, false, false, false] rfl rfl (any_of HT_.out (by kernel_rfl)) (fun _ _ _ h => h) (Or.inl ⟨by rfl, ?_⟩) ?_ ?_
                    rotate_left
                    · intro w'
                      go_simp
                      with_reducible rfl
                    rotate_left
                    · simp only [Act.put, List.setIfInBounds_toArray, List.set_cons_zero, List.set_cons_succ, i64_w, i32_w]
                      rfl
                    refine take_ (i := 19) (N := some 82) (v := ?_) (a' := ?_) #[true, true, true, true, true, true, true, true, true, true, true, true, true, true, true, true, true, true, true, true, false, false, false, false, false, false] rfl rfl (take_ofW HT_.out HW_.out (by kernel_rfl)) (fun _ _ _ h => h) (Or.inl ⟨by rfl, ?_⟩) hHeld ?_ ?_
                    rotate_left
                    · rintro w' ⟨s0, s1, s2, s3, s4, s5, s6, s7, s8, s9, s10, s11, s12, s13, s14, s15, s16, s17, s18, s19⟩
                      go_simp
                      with_reducible rfl
                    rotate_left
                    · simp only [Act.put, List.setIfInBounds_toArray, List.set_cons_zero, List.set_cons_succ, i64_w, i32_w]
                      rfl
                    refine take_ (i := 20) (N := some 83) (v := ?_) (a' := ?_) #[true, true, true, true, true, true, true, true, true, true, true, true, true, true, true, true, true, true, true, true, true, false, false, false, false, false] rfl rfl (take_ofW HT_.out HW_.out (by kernel_rfl)) (fun _ _ _ h => h) (Or.inl ⟨by rfl, ?_⟩) hHeld ?_ ?_
                    rotate_left
                    · rintro w' ⟨s0, s1, s2, s3, s4, s5, s6, s7, s8, s9, s10, s11, s12, s13, s14, s15, s16, s17, s18, s19⟩
                      go_simp
                      with_reducible rfl
                    rotate_left
                    · simp only [Act.put, List.setIfInBounds_toArray, List.set_cons_zero, List.set_cons_succ, i64_w, i32_w]
                      rfl
                    refine pure_ (i := 21) (N := some 84) (v := ?_) (a' := ?_) #[true, true, true, true, true, true, true, true, true, true, true, true, true, true, true, true, true, true, true, true, true, true, false, false, false, false] rfl rfl (any_of HT_.out (by kernel_rfl)) (fun _ _ _ h => h) (Or.inl ⟨by rfl, ?_⟩) ?_ ?_
                    rotate_left
                    · intro w'
                      go_simp
                      with_reducible rfl
                    rotate_left
                    · simp only [Act.put, List.setIfInBounds_toArray, List.set_cons_zero, List.set_cons_succ, i64_w, i32_w]
                      rfl
                    refine pure_ (i := 22) (N := some 85) (v := ?_) (a' := ?_) #[true, true, true, true, true, true, true, true, true, true, true, true, true, true, true, true, true, true, true, true, true, true, true, false, false, false] rfl rfl (any_of HT_.out (by kernel_rfl)) (fun _ _ _ h => h) (Or.inl ⟨by rfl, ?_⟩) ?_ ?_
                    rotate_left
                    · intro w'
                      go_simp
                      with_reducible rfl
                    rotate_left
                    · simp only [Act.put, List.setIfInBounds_toArray, List.set_cons_zero, List.set_cons_succ, i64_w, i32_w]
                      rfl
                    refine pure_ (i := 23) (N := some 86) (v := ?_) (a' := ?_) #[true, true, true, true, true, true, true, true, true, true, true, true, true, true, true, true, true, true, true, true, true, true, true, true, false, false] rfl rfl (any_of HT_.out (by kernel_rfl)) (fun _ _ _ h => h) (Or.inl ⟨by rfl, ?_⟩) ?_ ?_
                    rotate_left
                    · intro w'
                      go_simp
                      with_reducible rfl
                    rotate_left
                    · simp only [Act.put, List.setIfInBounds_toArray, List.set_cons_zero, List.set_cons_succ, i64_w, i32_w]
                      rfl
                    refine pure_ (i := 24) (N := some 87) (v := ?_) (a' := ?_) #[true, true, true, true, true, true, true, true, true, true, true, true, true, true, true, true, true, true, true, true, true, true, true, true, true, false] rfl rfl (any_of HT_.out (by kernel_rfl)) (fun _ _ _ h => h) (Or.inl ⟨by rfl, ?_⟩) ?_ ?_
                    rotate_left
                    · intro w'
                      go_simp
                      with_reducible rfl
                    rotate_left
                    · simp only [Act.put, List.setIfInBounds_toArray, List.set_cons_zero, List.set_cons_succ, i64_w, i32_w]
                      rfl
                    refine pure_ (i := 25) (N := some 6) (v := ?_) (a' := ?_) #[true, true, true, true, true, true, true, true, true, true, true, true, true, true, true, true, true, true, true, true, true, true, true, true, true, true] rfl rfl (any_of HT_.out (by kernel_rfl)) (fun _ _ _ h => h) (Or.inl ⟨by rfl, ?_⟩) ?_ ?_
                    rotate_left
                    · intro w'
                      go_simp
                      with_reducible rfl
                    rotate_left
                    · simp only [Act.put, List.setIfInBounds_toArray, List.set_cons_zero, List.set_cons_succ, i64_w, i32_w]
                      rfl
                    refine done_ (done_of HT_.out (by kernel_rfl)) ?_
                    try go_wp2
                    go_ret
                    exact ⟨by first | rfl | (simp [errW_none, errW_some] <;> rfl) | (simp [*, errW_none, errW_some] <;> rfl), by repeat (first | (with_reducible first | exact HB.out | apply below_alloc | apply pw_below_drewN | apply below_drew1 | refine below_set ?_ GE257.out | refine below_set ?_ GE258.out | refine below_set ?_ GE270.out) | exact HB.out)⟩
                  · replace c63 := Bool.eq_false_iff.mpr c63
                    subst c63
                    have H1 : (some true) = some r := by rw [if_neg (show ¬ (false = true) by decide)] at H; exact H
                    clear H
                    have H := H1
                    clear H1
                    obtain rfl := Option.some.inj H
                    have hnb77 := NB257_258.out
                    have hnc77 := NB258_257.out
                    have hnb78 := NB257_270.out
                    have hnc78 := NB270_257.out
                    have hcz79_0 : wc.cell? ⟨gb257, 0, none⟩ = some (.int .i64 a1_0) := (blk_cell BK257.out 0).trans rfl
                    have hcz79_1 : wc.cell? ⟨gb257, 1, none⟩ = some (.int .i64 a1_1) := (blk_cell BK257.out 1).trans rfl
                    have hcz79_2 : wc.cell? ⟨gb257, 2, none⟩ = some (.int .i64 a1_2) := (blk_cell BK257.out 2).trans rfl
                    have hcz79_3 : wc.cell? ⟨gb257, 3, none⟩ = some (.int .i64 a1_3) := (blk_cell BK257.out 3).trans rfl
                    have hcz79_4 : wc.cell? ⟨gb257, 4, none⟩ = some (.int .i64 a1_4) := (blk_cell BK257.out 4).trans rfl
                    have hcz79_5 : wc.cell? ⟨gb257, 5, none⟩ = some (.int .i64 a1_5) := (blk_cell BK257.out 5).trans rfl
                    have hcz79_6 : wc.cell? ⟨gb257, 6, none⟩ = some (.bool a1_6) := (blk_cell BK257.out 6).trans rfl
                    have hcz79_7 : wc.cell? ⟨gb257, 7, none⟩ = some (.int .i64 a1_7) := (blk_cell BK257.out 7).trans rfl
                    have hcz79_8 : wc.cell? ⟨gb257, 8, none⟩ = some (.int .u32 a1_8) := (blk_cell BK257.out 8).trans rfl
                    have hcz79_9 : wc.cell? ⟨gb257, 9, none⟩ = some (.int .u32 a1_9) := (blk_cell BK257.out 9).trans rfl
                    have hfz79_0 := blk_frozen BK257.out 0
                    have hfz79_1 := blk_frozen BK257.out 1
                    have hfz79_2 := blk_frozen BK257.out 2
                    have hfz79_3 := blk_frozen BK257.out 3
                    have hfz79_4 := blk_frozen BK257.out 4
                    have hfz79_5 := blk_frozen BK257.out 5
                    have hfz79_6 := blk_frozen BK257.out 6
                    have hfz79_7 := blk_frozen BK257.out 7
                    have hfz79_8 := blk_frozen BK257.out 8
                    have hfz79_9 := blk_frozen BK257.out 9
                    try go_wp2_with (first | ((with_reducible refine gate_callee (f := 9) rfl ?_); refine goesL_ (some 37) rfl rfl Tryd.func9 (by kernel_rfl) rfl #[.agg #[.int .i64 a1_0, .int .i64 a1_1, .int .i64 a1_2, .int .i64 a1_3, .int .i64 a1_4, .int .i64 a1_5, .bool a1_6, .int .i64 a1_7, .int .u32 a1_8, .int .u32 a1_9]] rfl (by (try simp only [List.map_toArray, List.map_cons, List.map_nil]); first | done | rfl | (simp only [List.length_drop, List.length_take]; rfl)) ?_; (with_reducible refine (pointer_Encode.calls a1_0 a1_1 a1_2 a1_3 a1_4 a1_5 a1_6 a1_7 a1_8 a1_9 t274 true _ ?side1 A34.out).mono ?_); (case side1 => exact Glob.below HG.out (by repeat (first | (with_reducible first | exact HB.out | apply below_alloc | apply pw_below_drewN | apply below_drew1 | refine below_set ?_ GE257.out | refine below_set ?_ GE258.out | refine below_set ?_ GE270.out) | exact HB.out))); rintro e w80 ⟨rfl, hb⟩; refine ⟨_, rfl, ?_⟩; have n0_ := Aside0.mk (blk_below (g := gb257) (o := .cells #[.int .i64 a1_0, .int .i64 a1_1, .int .i64 a1_2, .int .i64 a1_3, .int .i64 a1_4, .int .i64 a1_5, .bool a1_6, .int .i64 a1_7, .int .u32 a1_8, .int .u32 a1_9] 25 (0, 0)) (by (with_reducible repeat (first | refine blk_drewN ?_ _ | refine blk_drew ?_ | refine blk_alloc ?_ _)); exact BK257.out) hb); have n1_ := Aside0.mk (blk_below (g := gb258) (o := .cells #[.int .i64 a2_0, .int .i64 a2_1, .int .i64 a2_2, .int .i64 a2_3, .int .i64 a2_4, .int .i64 a2_5, .bool a2_6, .int .i64 a2_7, .int .u32 a2_8, .int .u32 a2_9] 25 (0, 0)) (by (with_reducible repeat (first | refine blk_drewN ?_ _ | refine blk_drew ?_ | refine blk_alloc ?_ _)); exact BK258.out) hb); have n2_ := Aside0.mk (blk_below (g := gb270) (o := .cells #[.int .i64 t260, .int .i64 t261, .int .i64 t262, .int .i64 t263, .int .i64 t264, .int .i64 t265, .bool t266, .int .i64 t267, .int .u32 t268, .int .u32 t269] 25 (0, 0)) (by (with_reducible repeat (first | refine blk_drewN ?_ _ | refine blk_drew ?_ | refine blk_alloc ?_ _)); exact BK270.out) hb); have n3_ := Aside0.mk (below_step (by repeat (first | (with_reducible first | exact HB.out | apply below_alloc | apply pw_below_drewN | apply below_drew1 | refine below_set ?_ GE257.out | refine below_set ?_ GE258.out | refine below_set ?_ GE270.out) | exact HB.out)) hb); clear BK257; clear BK258; clear BK270; clear HB; have BK257 := n0_; have BK258 := n1_; have BK270 := n2_; have HB := n3_; clear n0_ n1_ n2_ n3_; (try clear hb); (try clear hb2); (try clear hk); (try clear hi); have hnb81 := NB258_270.out; have hnc81 := NB270_258.out; have hcz82_0 : w80.cell? ⟨gb258, 0, none⟩ = some (.int .i64 a2_0) := (blk_cell BK258.out 0).trans rfl; have hcz82_1 : w80.cell? ⟨gb258, 1, none⟩ = some (.int .i64 a2_1) := (blk_cell BK258.out 1).trans rfl; have hcz82_2 : w80.cell? ⟨gb258, 2, none⟩ = some (.int .i64 a2_2) := (blk_cell BK258.out 2).trans rfl; have hcz82_3 : w80.cell? ⟨gb258, 3, none⟩ = some (.int .i64 a2_3) := (blk_cell BK258.out 3).trans rfl; have hcz82_4 : w80.cell? ⟨gb258, 4, none⟩ = some (.int .i64 a2_4) := (blk_cell BK258.out 4).trans rfl; have hcz82_5 : w80.cell? ⟨gb258, 5, none⟩ = some (.int .i64 a2_5) := (blk_cell BK258.out 5).trans rfl; have hcz82_6 : w80.cell? ⟨gb258, 6, none⟩ = some (.bool a2_6) := (blk_cell BK258.out 6).trans rfl; have hcz82_7 : w80.cell? ⟨gb258, 7, none⟩ = some (.int .i64 a2_7) := (blk_cell BK258.out 7).trans rfl; have hcz82_8 : w80.cell? ⟨gb258, 8, none⟩ = some (.int .u32 a2_8) := (blk_cell BK258.out 8).trans rfl; have hcz82_9 : w80.cell? ⟨gb258, 9, none⟩ = some (.int .u32 a2_9) := (blk_cell BK258.out 9).trans rfl; have hfz82_0 := blk_frozen BK258.out 0; have hfz82_1 := blk_frozen BK258.out 1; have hfz82_2 := blk_frozen BK258.out 2; have hfz82_3 := blk_frozen BK258.out 3; have hfz82_4 := blk_frozen BK258.out 4; have hfz82_5 := blk_frozen BK258.out 5; have hfz82_6 := blk_frozen BK258.out 6; have hfz82_7 := blk_frozen BK258.out 7; have hfz82_8 := blk_frozen BK258.out 8; have hfz82_9 := blk_frozen BK258.out 9) | ((with_reducible refine gate_callee (f := 9) rfl ?_); refine goesL_ (some 42) rfl rfl Tryd.func9 (by kernel_rfl) rfl #[.agg #[.int .i64 a2_0, .int .i64 a2_1, .int .i64 a2_2, .int .i64 a2_3, .int .i64 a2_4, .int .i64 a2_5, .bool a2_6, .int .i64 a2_7, .int .u32 a2_8, .int .u32 a2_9]] rfl (by (try simp only [List.map_toArray, List.map_cons, List.map_nil]); first | done | rfl | (simp only [List.length_drop, List.length_take]; rfl)) ?_; (with_reducible refine (pointer_Encode.calls a2_0 a2_1 a2_2 a2_3 a2_4 a2_5 a2_6 a2_7 a2_8 a2_9 t276 false _ ?side1 A35.out).mono ?_); (case side1 => exact Glob.below HG.out (by repeat (first | (with_reducible first | exact HB.out | apply below_alloc | apply pw_below_drewN | apply below_drew1 | refine below_set ?_ GE257.out | refine below_set ?_ GE258.out | refine below_set ?_ GE270.out) | exact HB.out))); rintro e w83 ⟨rfl, hb⟩; refine ⟨_, rfl, ?_⟩; have n0_ := Aside0.mk (blk_below (g := gb257) (o := .cells #[.int .i64 a1_0, .int .i64 a1_1, .int .i64 a1_2, .int .i64 a1_3, .int .i64 a1_4, .int .i64 a1_5, .bool a1_6, .int .i64 a1_7, .int .u32 a1_8, .int .u32 a1_9] 25 (0, 0)) (by (with_reducible repeat (first | refine blk_drewN ?_ _ | refine blk_drew ?_ | refine blk_alloc ?_ _)); exact BK257.out) hb); have n1_ := Aside0.mk (blk_below (g := gb258) (o := .cells #[.int .i64 a2_0, .int .i64 a2_1, .int .i64 a2_2, .int .i64 a2_3, .int .i64 a2_4, .int .i64 a2_5, .bool a2_6, .int .i64 a2_7, .int .u32 a2_8, .int .u32 a2_9] 25 (0, 0)) (by (with_reducible repeat (first | refine blk_drewN ?_ _ | refine blk_drew ?_ | refine blk_alloc ?_ _)); exact BK258.out) hb); have n2_ := Aside0.mk (blk_below (g := gb270) (o := .cells #[.int .i64 t260, .int .i64 t261, .int .i64 t262, .int .i64 t263, .int .i64 t264, .int .i64 t265, .bool t266, .int .i64 t267, .int .u32 t268, .int .u32 t269] 25 (0, 0)) (by (with_reducible repeat (first | refine blk_drewN ?_ _ | refine blk_drew ?_ | refine blk_alloc ?_ _)); exact BK270.out) hb); have n3_ := Aside0.mk (below_step (by repeat (first | (with_reducible first | exact HB.out | apply below_alloc | apply pw_below_drewN | apply below_drew1 | refine below_set ?_ GE257.out | refine below_set ?_ GE258.out | refine below_set ?_ GE270.out) | exact HB.out)) hb); clear BK257; clear BK258; clear BK270; clear HB; have BK257 := n0_; have BK258 := n1_; have BK270 := n2_; have HB := n3_; clear n0_ n1_ n2_ n3_; (try clear hb); (try clear hb2); (try clear hk); (try clear hi); have hcz84_0 : w83.cell? ⟨gb257, 0, none⟩ = some (.int .i64 a1_0) := (blk_cell BK257.out 0).trans rfl; have hcz84_1 : w83.cell? ⟨gb257, 1, none⟩ = some (.int .i64 a1_1) := (blk_cell BK257.out 1).trans rfl; have hcz84_2 : w83.cell? ⟨gb257, 2, none⟩ = some (.int .i64 a1_2) := (blk_cell BK257.out 2).trans rfl; have hcz84_3 : w83.cell? ⟨gb257, 3, none⟩ = some (.int .i64 a1_3) := (blk_cell BK257.out 3).trans rfl; have hcz84_4 : w83.cell? ⟨gb257, 4, none⟩ = some (.int .i64 a1_4) := (blk_cell BK257.out 4).trans rfl; have hcz84_5 : w83.cell? ⟨gb257, 5, none⟩ = some (.int .i64 a1_5) := (blk_cell BK257.out 5).trans rfl; have hcz84_6 : w83.cell? ⟨gb257, 6, none⟩ = some (.bool a1_6) := (blk_cell BK257.out 6).trans rfl; have hcz84_7 : w83.cell? ⟨gb257, 7, none⟩ = some (.int .i64 a1_7) := (blk_cell BK257.out 7).trans rfl; have hcz84_8 : w83.cell? ⟨gb257, 8, none⟩ = some (.int .u32 a1_8) := (blk_cell BK257.out 8).trans rfl; have hcz84_9 : w83.cell? ⟨gb257, 9, none⟩ = some (.int .u32 a1_9) := (blk_cell BK257.out 9).trans rfl; have hfz84_0 := blk_frozen BK257.out 0; have hfz84_1 := blk_frozen BK257.out 1; have hfz84_2 := blk_frozen BK257.out 2; have hfz84_3 := blk_frozen BK257.out 3; have hfz84_4 := blk_frozen BK257.out 4; have hfz84_5 := blk_frozen BK257.out 5; have hfz84_6 := blk_frozen BK257.out 6; have hfz84_7 := blk_frozen BK257.out 7; have hfz84_8 := blk_frozen BK257.out 8; have hfz84_9 := blk_frozen BK257.out 9) | ((with_reducible refine gate_callee (f := 13) rfl ?_); refine goesL_ (some 47) rfl rfl Tryd.func13 (by kernel_rfl) rfl #[.agg #[.int .i64 a1_0, .int .i64 a1_1, .int .i64 a1_2, .int .i64 a1_3, .int .i64 a1_4, .int .i64 a1_5, .bool a1_6, .int .i64 a1_7, .int .u32 a1_8, .int .u32 a1_9]] rfl (by (try simp only [List.map_toArray, List.map_cons, List.map_nil]); first | done | rfl | (simp only [List.length_drop, List.length_take]; rfl)) ?_; (with_reducible refine (pointer_Valid.calls a1_0 a1_1 a1_2 a1_3 a1_4 a1_5 a1_6 a1_7 a1_8 a1_9 t278 _ ?side1 A36.out).mono ?_); (case side1 => exact Glob.below HG.out (by repeat (first | (with_reducible first | exact HB.out | apply below_alloc | apply pw_below_drewN | apply below_drew1 | refine below_set ?_ GE257.out | refine below_set ?_ GE258.out | refine below_set ?_ GE270.out) | exact HB.out))); rintro e w85 ⟨rfl, hb⟩; refine ⟨_, rfl, ?_⟩; have n0_ := Aside0.mk (blk_below (g := gb257) (o := .cells #[.int .i64 a1_0, .int .i64 a1_1, .int .i64 a1_2, .int .i64 a1_3, .int .i64 a1_4, .int .i64 a1_5, .bool a1_6, .int .i64 a1_7, .int .u32 a1_8, .int .u32 a1_9] 25 (0, 0)) (by (with_reducible repeat (first | refine blk_drewN ?_ _ | refine blk_drew ?_ | refine blk_alloc ?_ _)); exact BK257.out) hb); have n1_ := Aside0.mk (blk_below (g := gb258) (o := .cells #[.int .i64 a2_0, .int .i64 a2_1, .int .i64 a2_2, .int .i64 a2_3, .int .i64 a2_4, .int .i64 a2_5, .bool a2_6, .int .i64 a2_7, .int .u32 a2_8, .int .u32 a2_9] 25 (0, 0)) (by (with_reducible repeat (first | refine blk_drewN ?_ _ | refine blk_drew ?_ | refine blk_alloc ?_ _)); exact BK258.out) hb); have n2_ := Aside0.mk (blk_below (g := gb270) (o := .cells #[.int .i64 t260, .int .i64 t261, .int .i64 t262, .int .i64 t263, .int .i64 t264, .int .i64 t265, .bool t266, .int .i64 t267, .int .u32 t268, .int .u32 t269] 25 (0, 0)) (by (with_reducible repeat (first | refine blk_drewN ?_ _ | refine blk_drew ?_ | refine blk_alloc ?_ _)); exact BK270.out) hb); have n3_ := Aside0.mk (below_step (by repeat (first | (with_reducible first | exact HB.out | apply below_alloc | apply pw_below_drewN | apply below_drew1 | refine below_set ?_ GE257.out | refine below_set ?_ GE258.out | refine below_set ?_ GE270.out) | exact HB.out)) hb); clear BK257; clear BK258; clear BK270; clear HB; have BK257 := n0_; have BK258 := n1_; have BK270 := n2_; have HB := n3_; clear n0_ n1_ n2_ n3_; (try clear hb); (try clear hb2); (try clear hk); (try clear hi); have hcz86_0 : w85.cell? ⟨gb258, 0, none⟩ = some (.int .i64 a2_0) := (blk_cell BK258.out 0).trans rfl; have hcz86_1 : w85.cell? ⟨gb258, 1, none⟩ = some (.int .i64 a2_1) := (blk_cell BK258.out 1).trans rfl; have hcz86_2 : w85.cell? ⟨gb258, 2, none⟩ = some (.int .i64 a2_2) := (blk_cell BK258.out 2).trans rfl; have hcz86_3 : w85.cell? ⟨gb258, 3, none⟩ = some (.int .i64 a2_3) := (blk_cell BK258.out 3).trans rfl; have hcz86_4 : w85.cell? ⟨gb258, 4, none⟩ = some (.int .i64 a2_4) := (blk_cell BK258.out 4).trans rfl; have hcz86_5 : w85.cell? ⟨gb258, 5, none⟩ = some (.int .i64 a2_5) := (blk_cell BK258.out 5).trans rfl; have hcz86_6 : w85.cell? ⟨gb258, 6, none⟩ = some (.bool a2_6) := (blk_cell BK258.out 6).trans rfl; have hcz86_7 : w85.cell? ⟨gb258, 7, none⟩ = some (.int .i64 a2_7) := (blk_cell BK258.out 7).trans rfl; have hcz86_8 : w85.cell? ⟨gb258, 8, none⟩ = some (.int .u32 a2_8) := (blk_cell BK258.out 8).trans rfl; have hcz86_9 : w85.cell? ⟨gb258, 9, none⟩ = some (.int .u32 a2_9) := (blk_cell BK258.out 9).trans rfl; have hfz86_0 := blk_frozen BK258.out 0; have hfz86_1 := blk_frozen BK258.out 1; have hfz86_2 := blk_frozen BK258.out 2; have hfz86_3 := blk_frozen BK258.out 3; have hfz86_4 := blk_frozen BK258.out 4; have hfz86_5 := blk_frozen BK258.out 5; have hfz86_6 := blk_frozen BK258.out 6; have hfz86_7 := blk_frozen BK258.out 7; have hfz86_8 := blk_frozen BK258.out 8; have hfz86_9 := blk_frozen BK258.out 9) | (go_at_call 13; (with_reducible refine (pointer_Valid.calls a2_0 a2_1 a2_2 a2_3 a2_4 a2_5 a2_6 a2_7 a2_8 a2_9 t279 _ ?side1 A47.out).mono ?_); (case side1 => exact Glob.below HG.out (by repeat (first | (with_reducible first | exact HB.out | apply below_alloc | apply pw_below_drewN | apply below_drew1 | refine below_set ?_ GE257.out | refine below_set ?_ GE258.out | refine below_set ?_ GE270.out) | exact HB.out))); rintro e w87 ⟨rfl, hb⟩; have n0_ := Aside0.mk (blk_below (g := gb257) (o := .cells #[.int .i64 a1_0, .int .i64 a1_1, .int .i64 a1_2, .int .i64 a1_3, .int .i64 a1_4, .int .i64 a1_5, .bool a1_6, .int .i64 a1_7, .int .u32 a1_8, .int .u32 a1_9] 25 (0, 0)) (by (with_reducible repeat (first | refine blk_drewN ?_ _ | refine blk_drew ?_ | refine blk_alloc ?_ _)); exact BK257.out) hb); have n1_ := Aside0.mk (blk_below (g := gb258) (o := .cells #[.int .i64 a2_0, .int .i64 a2_1, .int .i64 a2_2, .int .i64 a2_3, .int .i64 a2_4, .int .i64 a2_5, .bool a2_6, .int .i64 a2_7, .int .u32 a2_8, .int .u32 a2_9] 25 (0, 0)) (by (with_reducible repeat (first | refine blk_drewN ?_ _ | refine blk_drew ?_ | refine blk_alloc ?_ _)); exact BK258.out) hb); have n2_ := Aside0.mk (blk_below (g := gb270) (o := .cells #[.int .i64 t260, .int .i64 t261, .int .i64 t262, .int .i64 t263, .int .i64 t264, .int .i64 t265, .bool t266, .int .i64 t267, .int .u32 t268, .int .u32 t269] 25 (0, 0)) (by (with_reducible repeat (first | refine blk_drewN ?_ _ | refine blk_drew ?_ | refine blk_alloc ?_ _)); exact BK270.out) hb); have n3_ := Aside0.mk (below_step (by repeat (first | (with_reducible first | exact HB.out | apply below_alloc | apply pw_below_drewN | apply below_drew1 | refine below_set ?_ GE257.out | refine below_set ?_ GE258.out | refine below_set ?_ GE270.out) | exact HB.out)) hb); clear BK257; clear BK258; clear BK270; clear HB; have BK257 := n0_; have BK258 := n1_; have BK270 := n2_; have HB := n3_; clear n0_ n1_ n2_ n3_; (try clear hb); (try clear hb2); (try clear hk); (try clear hi)))
                    have n0_ := Aside0.mk (blk_drew BK257.out)
                    have n1_ := Aside0.mk (blk_drew BK258.out)
                    have n2_ := Aside0.mk (blk_drew BK270.out)
                    have n3_ := Aside0.mk (below_drew1 HB.out)
                    clear BK257
                    clear BK258
                    clear BK270
                    clear HB
                    have BK257 := n0_
                    have BK258 := n1_
                    have BK270 := n2_
                    have HB := n3_
                    clear n0_ n1_ n2_ n3_
                    refine start_ (n := 26) (S := fun w' => w'.cell? ⟨gb257, 0, none⟩ = some (.int .i64 a1_0) ∧ w'.cell? ⟨gb257, 1, none⟩ = some (.int .i64 a1_1) ∧ w'.cell? ⟨gb257, 2, none⟩ = some (.int .i64 a1_2) ∧ w'.cell? ⟨gb257, 3, none⟩ = some (.int .i64 a1_3) ∧ w'.cell? ⟨gb257, 4, none⟩ = some (.int .i64 a1_4) ∧ w'.cell? ⟨gb257, 5, none⟩ = some (.int .i64 a1_5) ∧ w'.cell? ⟨gb257, 6, none⟩ = some (.bool a1_6) ∧ w'.cell? ⟨gb257, 7, none⟩ = some (.int .i64 a1_7) ∧ w'.cell? ⟨gb257, 8, none⟩ = some (.int .u32 a1_8) ∧ w'.cell? ⟨gb257, 9, none⟩ = some (.int .u32 a1_9)) (ds := []) #[false, false, false, false, false, false, false, false, false, false, false, false, false, false, false, false, false, false, false, false, false, false, false, false, false, false] (by kernel_rfl) rfl rfl ⟨(blk_cell BK257.out 0).trans rfl, (blk_cell BK257.out 1).trans rfl, (blk_cell BK257.out 2).trans rfl, (blk_cell BK257.out 3).trans rfl, (blk_cell BK257.out 4).trans rfl, (blk_cell BK257.out 5).trans rfl, (blk_cell BK257.out 6).trans rfl, (blk_cell BK257.out 7).trans rfl, (blk_cell BK257.out 8).trans rfl, (blk_cell BK257.out 9).trans rfl⟩ (fun hHeld => ?_); refine with_tabW capnplaw02_PointerRoundTrip.tab11 capnplaw02_PointerRoundTrip.bits11 (fun HT_ HW_ => ?_)
                    generalize w87.drew = w88 at BK257 BK258 BK270 HB hHeld ⊢
                    refine pure_ (i := 0) (N := some 63) (v := ?_) (a' := ?_) #[true, false, false, false, false, false, false, false, false, false, false, false, false, false, false, false, false, false, false, false, false, false, false, false, false, false] rfl rfl (any_of HT_.out (by kernel_rfl)) (fun _ _ _ h => h) (Or.inl ⟨by rfl, ?_⟩) ?_ ?_
                    rotate_left
                    · intro w'
                      go_simp
                      with_reducible rfl
                    rotate_left
                    · simp only [Act.put, List.setIfInBounds_toArray, List.set_cons_zero, List.set_cons_succ, i64_w, i32_w]
                      rfl
                    refine pure_ (i := 1) (N := some 64) (v := ?_) (a' := ?_) #[true, true, false, false, false, false, false, false, false, false, false, false, false, false, false, false, false, false, false, false, false, false, false, false, false, false] rfl rfl (any_of HT_.out (by kernel_rfl)) (fun _ _ _ h => h) (Or.inl ⟨by rfl, ?_⟩) ?_ ?_
                    rotate_left
                    · intro w'
                      go_simp
                      with_reducible rfl
                    rotate_left
                    · simp only [Act.put, List.setIfInBounds_toArray, List.set_cons_zero, List.set_cons_succ, i64_w, i32_w]
                      rfl
                    refine pure_ (i := 2) (N := some 65) (v := ?_) (a' := ?_) #[true, true, true, false, false, false, false, false, false, false, false, false, false, false, false, false, false, false, false, false, false, false, false, false, false, false] rfl rfl (any_of HT_.out (by kernel_rfl)) (fun _ _ _ h => h) (Or.inl ⟨by rfl, ?_⟩) ?_ ?_
                    rotate_left
                    · intro w'
                      go_simp
                      with_reducible rfl
                    rotate_left
                    · simp only [Act.put, List.setIfInBounds_toArray, List.set_cons_zero, List.set_cons_succ, i64_w, i32_w]
                      rfl
                    refine pure_ (i := 3) (N := some 66) (v := ?_) (a' := ?_) #[true, true, true, true, false, false, false, false, false, false, false, false, false, false, false, false, false, false, false, false, false, false, false, false, false, false] rfl rfl (any_of HT_.out (by kernel_rfl)) (fun _ _ _ h => h) (Or.inl ⟨by rfl, ?_⟩) ?_ ?_
                    rotate_left
                    · intro w'
                      go_simp
                      with_reducible rfl
                    rotate_left
                    · simp only [Act.put, List.setIfInBounds_toArray, List.set_cons_zero, List.set_cons_succ, i64_w, i32_w]
                      rfl
                    refine take_ (i := 5) (N := some 68) (v := ?_) (a' := ?_) #[true, true, true, true, false, true, false, false, false, false, false, false, false, false, false, false, false, false, false, false, false, false, false, false, false, false] rfl rfl (take_ofW HT_.out HW_.out (by kernel_rfl)) (fun _ _ _ h => h) (Or.inl ⟨by rfl, ?_⟩) hHeld ?_ ?_
                    rotate_left
                    · rintro w' ⟨s0, s1, s2, s3, s4, s5, s6, s7, s8, s9⟩
                      go_simp
                      with_reducible rfl
                    rotate_left
                    · simp only [Act.put, List.setIfInBounds_toArray, List.set_cons_zero, List.set_cons_succ, i64_w, i32_w]
                      rfl
                    refine one_ (i := 4) (N := some 67) #[true, true, true, true, true, true, false, false, false, false, false, false, false, false, false, false, false, false, false, false, false, false, false, false, false, false] rfl rfl (one_of HT_.out (by kernel_rfl)) (by decide) (fun K hK => ?_)
                    refine goes_ Tryd.func11 (by kernel_rfl) rfl #[.int .u64 t274] (by rfl) rfl rfl (by (try simp only [List.map_toArray, List.map_cons, List.map_nil]); first | done | rfl | (simp only [List.length_drop, List.length_take]; rfl)) ?_
                    with_reducible refine (pointer_Decode.calls t274 t280 t281 t282 t283 t284 t285 t286 t287 t288 t289 _ ?side1 A61.out).mono ?_
                    (case side1 => exact Glob.below HG.out (by repeat (first | (with_reducible first | exact HB.out | apply below_alloc | apply pw_below_drewN | apply below_drew1 | refine below_set ?_ GE257.out | refine below_set ?_ GE258.out | refine below_set ?_ GE270.out) | exact HB.out)))
                    rintro e w89 ⟨rfl, hb⟩
                    refine ⟨_, rfl, ?_⟩
                    have n0_ := Aside0.mk (blk_below (g := gb257) (o := .cells #[.int .i64 a1_0, .int .i64 a1_1, .int .i64 a1_2, .int .i64 a1_3, .int .i64 a1_4, .int .i64 a1_5, .bool a1_6, .int .i64 a1_7, .int .u32 a1_8, .int .u32 a1_9] 25 (0, 0)) (by (with_reducible repeat (first | refine blk_drewN ?_ _ | refine blk_drew ?_ | refine blk_alloc ?_ _)); exact BK257.out) hb)
                    have n1_ := Aside0.mk (blk_below (g := gb258) (o := .cells #[.int .i64 a2_0, .int .i64 a2_1, .int .i64 a2_2, .int .i64 a2_3, .int .i64 a2_4, .int .i64 a2_5, .bool a2_6, .int .i64 a2_7, .int .u32 a2_8, .int .u32 a2_9] 25 (0, 0)) (by (with_reducible repeat (first | refine blk_drewN ?_ _ | refine blk_drew ?_ | refine blk_alloc ?_ _)); exact BK258.out) hb)
                    have n2_ := Aside0.mk (blk_below (g := gb270) (o := .cells #[.int .i64 t260, .int .i64 t261, .int .i64 t262, .int .i64 t263, .int .i64 t264, .int .i64 t265, .bool t266, .int .i64 t267, .int .u32 t268, .int .u32 t269] 25 (0, 0)) (by (with_reducible repeat (first | refine blk_drewN ?_ _ | refine blk_drew ?_ | refine blk_alloc ?_ _)); exact BK270.out) hb)
                    have n3_ := Aside0.mk (below_step (by repeat (first | (with_reducible first | exact HB.out | apply below_alloc | apply pw_below_drewN | apply below_drew1 | refine below_set ?_ GE257.out | refine below_set ?_ GE258.out | refine below_set ?_ GE270.out) | exact HB.out)) hb)
                    clear BK257
                    clear BK258
                    clear BK270
                    clear HB
                    have BK257 := n0_
                    have BK258 := n1_
                    have BK270 := n2_
                    have HB := n3_
                    clear n0_ n1_ n2_ n3_
                    (try clear hb)
                    (try clear hb2)
                    (try clear hk)
                    (try clear hi)
                    refine hK.out _ _ ⟨(blk_cell BK257.out 0).trans rfl, (blk_cell BK257.out 1).trans rfl, (blk_cell BK257.out 2).trans rfl, (blk_cell BK257.out 3).trans rfl, (blk_cell BK257.out 4).trans rfl, (blk_cell BK257.out 5).trans rfl, (blk_cell BK257.out 6).trans rfl, (blk_cell BK257.out 7).trans rfl, (blk_cell BK257.out 8).trans rfl, (blk_cell BK257.out 9).trans rfl⟩ (fun hHeld => ?_)
                    clear hK K
                    refine norm_ (a' := ?_) ?_ ?_
                    rotate_left
                    · show Act.put _ (some 67) _ = _
                      simp only [Act.put, List.setIfInBounds_toArray, List.set_cons_zero, List.set_cons_succ, i64_w, i32_w]
                      rfl
                    refine pure_ (i := 6) (N := some 69) (v := ?_) (a' := ?_) #[true, true, true, true, true, true, true, false, false, false, false, false, false, false, false, false, false, false, false, false, false, false, false, false, false, false] rfl rfl (any_of HT_.out (by kernel_rfl)) (fun _ _ _ h => h) (Or.inl ⟨by rfl, ?_⟩) ?_ ?_
                    rotate_left
                    · intro w'
                      go_simp
                      with_reducible rfl
                    rotate_left
                    · simp only [Act.put, List.setIfInBounds_toArray, List.set_cons_zero, List.set_cons_succ, i64_w, i32_w]
                      rfl
                    refine pure_ (i := 7) (N := some 70) (v := ?_) (a' := ?_) #[true, true, true, true, true, true, true, true, false, false, false, false, false, false, false, false, false, false, false, false, false, false, false, false, false, false] rfl rfl (any_of HT_.out (by kernel_rfl)) (fun _ _ _ h => h) (Or.inl ⟨by rfl, ?_⟩) ?_ ?_
                    rotate_left
                    · intro w'
                      go_simp
                      with_reducible rfl
                    rotate_left
                    · simp only [Act.put, List.setIfInBounds_toArray, List.set_cons_zero, List.set_cons_succ, i64_w, i32_w]
                      rfl
                    refine pure_ (i := 8) (N := some 71) (v := ?_) (a' := ?_) #[true, true, true, true, true, true, true, true, true, false, false, false, false, false, false, false, false, false, false, false, false, false, false, false, false, false] rfl rfl (any_of HT_.out (by kernel_rfl)) (fun _ _ _ h => h) (Or.inl ⟨by rfl, ?_⟩) ?_ ?_
                    rotate_left
                    · intro w'
                      go_simp
                      with_reducible rfl
                    rotate_left
                    · simp only [Act.put, List.setIfInBounds_toArray, List.set_cons_zero, List.set_cons_succ, i64_w, i32_w]
                      rfl
                    refine pure_ (i := 9) (N := some 72) (v := ?_) (a' := ?_) #[true, true, true, true, true, true, true, true, true, true, false, false, false, false, false, false, false, false, false, false, false, false, false, false, false, false] rfl rfl (any_of HT_.out (by kernel_rfl)) (fun _ _ _ h => h) (Or.inl ⟨by rfl, ?_⟩) ?_ ?_
                    rotate_left
                    · intro w'
                      go_simp
                      with_reducible rfl
                    rotate_left
                    · simp only [Act.put, List.setIfInBounds_toArray, List.set_cons_zero, List.set_cons_succ, i64_w, i32_w]
                      rfl
                    refine pure_ (i := 10) (N := some 73) (v := ?_) (a' := ?_) #[true, true, true, true, true, true, true, true, true, true, true, false, false, false, false, false, false, false, false, false, false, false, false, false, false, false] rfl rfl (any_of HT_.out (by kernel_rfl)) (fun _ _ _ h => h) (Or.inl ⟨by rfl, ?_⟩) ?_ ?_
                    rotate_left
                    · intro w'
                      go_simp
                      with_reducible rfl
                    rotate_left
                    · simp only [Act.put, List.setIfInBounds_toArray, List.set_cons_zero, List.set_cons_succ, i64_w, i32_w]
                      rfl
                    refine pure_ (i := 11) (N := some 74) (v := ?_) (a' := ?_) #[true, true, true, true, true, true, true, true, true, true, true, true, false, false, false, false, false, false, false, false, false, false, false, false, false, false] rfl rfl (any_of HT_.out (by kernel_rfl)) (fun _ _ _ h => h) (Or.inl ⟨by rfl, ?_⟩) ?_ ?_
                    rotate_left
                    · intro w'
                      go_simp
                      with_reducible rfl
                    rotate_left
                    · simp only [Act.put, List.setIfInBounds_toArray, List.set_cons_zero, List.set_cons_succ, i64_w, i32_w]
                      rfl
                    refine pure_ (i := 12) (N := some 75) (v := ?_) (a' := ?_) #[true, true, true, true, true, true, true, true, true, true, true, true, true, false, false, false, false, false, false, false, false, false, false, false, false, false] rfl rfl (any_of HT_.out (by kernel_rfl)) (fun _ _ _ h => h) (Or.inl ⟨by rfl, ?_⟩) ?_ ?_
                    rotate_left
                    · intro w'
                      go_simp
                      with_reducible rfl
                    rotate_left
                    · simp only [Act.put, List.setIfInBounds_toArray, List.set_cons_zero, List.set_cons_succ, i64_w, i32_w]
                      rfl
                    refine pure_ (i := 13) (N := some 76) (v := ?_) (a' := ?_) #[true, true, true, true, true, true, true, true, true, true, true, true, true, true, false, false, false, false, false, false, false, false, false, false, false, false] rfl rfl (any_of HT_.out (by kernel_rfl)) (fun _ _ _ h => h) (Or.inl ⟨by rfl, ?_⟩) ?_ ?_
                    rotate_left
                    · intro w'
                      go_simp
                      with_reducible rfl
                    rotate_left
                    · simp only [Act.put, List.setIfInBounds_toArray, List.set_cons_zero, List.set_cons_succ, i64_w, i32_w]
                      rfl
                    refine pure_ (i := 14) (N := some 77) (v := ?_) (a' := ?_) #[true, true, true, true, true, true, true, true, true, true, true, true, true, true, true, false, false, false, false, false, false, false, false, false, false, false] rfl rfl (any_of HT_.out (by kernel_rfl)) (fun _ _ _ h => h) (Or.inl ⟨by rfl, ?_⟩) ?_ ?_
                    rotate_left
                    · intro w'
                      go_simp
                      with_reducible rfl
                    rotate_left
                    · simp only [Act.put, List.setIfInBounds_toArray, List.set_cons_zero, List.set_cons_succ, i64_w, i32_w]
                      rfl
                    refine pure_ (i := 15) (N := some 78) (v := ?_) (a' := ?_) #[true, true, true, true, true, true, true, true, true, true, true, true, true, true, true, true, false, false, false, false, false, false, false, false, false, false] rfl rfl (any_of HT_.out (by kernel_rfl)) (fun _ _ _ h => h) (Or.inl ⟨by rfl, ?_⟩) ?_ ?_
                    rotate_left
                    · intro w'
                      go_simp
                      with_reducible rfl
                    rotate_left
                    · simp only [Act.put, List.setIfInBounds_toArray, List.set_cons_zero, List.set_cons_succ, i64_w, i32_w]
                      rfl
                    refine pure_ (i := 16) (N := some 79) (v := undef) (a' := ?_) #[true, true, true, true, true, true, true, true, true, true, true, true, true, true, true, true, true, false, false, false, false, false, false, false, false, false] rfl rfl (any_of HT_.out (by kernel_rfl)) (fun _ _ _ h => h) (Or.inr ⟨by rfl, rfl⟩) ?_ ?_
                    rotate_left
                    · simp only [Act.put, List.setIfInBounds_toArray, List.set_cons_zero, List.set_cons_succ, i64_w, i32_w]
                      rfl
                    refine pure_ (i := 17) (N := some 80) (v := undef) (a' := ?_) #[true, true, true, true, true, true, true, true, true, true, true, true, true, true, true, true, true, true, false, false, false, false, false, false, false, false] rfl rfl (any_of HT_.out (by kernel_rfl)) (fun _ _ _ h => h) (Or.inr ⟨by rfl, rfl⟩) ?_ ?_
                    rotate_left
                    · simp only [Act.put, List.setIfInBounds_toArray, List.set_cons_zero, List.set_cons_succ, i64_w, i32_w]
                      rfl
                    refine pure_ (i := 18) (N := some 81) (v := undef) (a' := ?_) #[true, true, true, true, true, true, true, true, true, true, true, true, true, true, true, true, true, true, true, false, false, false, false, false, false, false] rfl rfl (any_of HT_.out (by kernel_rfl)) (fun _ _ _ h => h) (Or.inr ⟨by rfl, rfl⟩) ?_ ?_
                    rotate_left
                    · simp only [Act.put, List.setIfInBounds_toArray, List.set_cons_zero, List.set_cons_succ, i64_w, i32_w]
                      rfl
                    refine pure_ (i := 19) (N := some 82) (v := undef) (a' := ?_) #[true, true, true, true, true, true, true, true, true, true, true, true, true, true, true, true, true, true, true, true, false, false, false, false, false, false] rfl rfl (any_of HT_.out (by kernel_rfl)) (fun _ _ _ h => h) (Or.inr ⟨by rfl, rfl⟩) ?_ ?_
                    rotate_left
                    · simp only [Act.put, List.setIfInBounds_toArray, List.set_cons_zero, List.set_cons_succ, i64_w, i32_w]
                      rfl
                    refine pure_ (i := 20) (N := some 83) (v := undef) (a' := ?_) #[true, true, true, true, true, true, true, true, true, true, true, true, true, true, true, true, true, true, true, true, true, false, false, false, false, false] rfl rfl (any_of HT_.out (by kernel_rfl)) (fun _ _ _ h => h) (Or.inr ⟨by rfl, rfl⟩) ?_ ?_
                    rotate_left
                    · simp only [Act.put, List.setIfInBounds_toArray, List.set_cons_zero, List.set_cons_succ, i64_w, i32_w]
                      rfl
                    refine pure_ (i := 21) (N := some 84) (v := undef) (a' := ?_) #[true, true, true, true, true, true, true, true, true, true, true, true, true, true, true, true, true, true, true, true, true, true, false, false, false, false] rfl rfl (any_of HT_.out (by kernel_rfl)) (fun _ _ _ h => h) (Or.inr ⟨by rfl, rfl⟩) ?_ ?_
                    rotate_left
                    · simp only [Act.put, List.setIfInBounds_toArray, List.set_cons_zero, List.set_cons_succ, i64_w, i32_w]
                      rfl
                    refine pure_ (i := 22) (N := some 85) (v := undef) (a' := ?_) #[true, true, true, true, true, true, true, true, true, true, true, true, true, true, true, true, true, true, true, true, true, true, true, false, false, false] rfl rfl (any_of HT_.out (by kernel_rfl)) (fun _ _ _ h => h) (Or.inr ⟨by rfl, rfl⟩) ?_ ?_
                    rotate_left
                    · simp only [Act.put, List.setIfInBounds_toArray, List.set_cons_zero, List.set_cons_succ, i64_w, i32_w]
                      rfl
                    refine pure_ (i := 23) (N := some 86) (v := ?_) (a' := ?_) #[true, true, true, true, true, true, true, true, true, true, true, true, true, true, true, true, true, true, true, true, true, true, true, true, false, false] rfl rfl (any_of HT_.out (by kernel_rfl)) (fun _ _ _ h => h) (Or.inl ⟨by rfl, ?_⟩) ?_ ?_
                    rotate_left
                    · intro w'
                      go_simp
                      with_reducible rfl
                    rotate_left
                    · simp only [Act.put, List.setIfInBounds_toArray, List.set_cons_zero, List.set_cons_succ, i64_w, i32_w]
                      rfl
                    refine pure_ (i := 24) (N := some 87) (v := ?_) (a' := ?_) #[true, true, true, true, true, true, true, true, true, true, true, true, true, true, true, true, true, true, true, true, true, true, true, true, true, false] rfl rfl (any_of HT_.out (by kernel_rfl)) (fun _ _ _ h => h) (Or.inl ⟨by rfl, ?_⟩) ?_ ?_
                    rotate_left
                    · intro w'
                      go_simp
                      with_reducible rfl
                    rotate_left
                    · simp only [Act.put, List.setIfInBounds_toArray, List.set_cons_zero, List.set_cons_succ, i64_w, i32_w]
                      rfl
                    refine pure_ (i := 25) (N := some 6) (v := ?_) (a' := ?_) #[true, true, true, true, true, true, true, true, true, true, true, true, true, true, true, true, true, true, true, true, true, true, true, true, true, true] rfl rfl (any_of HT_.out (by kernel_rfl)) (fun _ _ _ h => h) (Or.inl ⟨by rfl, ?_⟩) ?_ ?_
                    rotate_left
                    · intro w'
                      go_simp
                      with_reducible rfl
                    rotate_left
                    · simp only [Act.put, List.setIfInBounds_toArray, List.set_cons_zero, List.set_cons_succ, i64_w, i32_w]
                      rfl
                    refine done_ (done_of HT_.out (by kernel_rfl)) ?_
                    try go_wp2
                    go_ret
                    exact ⟨by first | rfl | (simp [errW_none, errW_some] <;> rfl) | (simp [*, errW_none, errW_some] <;> rfl), by repeat (first | (with_reducible first | exact HB.out | apply below_alloc | apply pw_below_drewN | apply below_drew1 | refine below_set ?_ GE257.out | refine below_set ?_ GE258.out | refine below_set ?_ GE270.out) | exact HB.out)⟩
                · rw [if_neg c62] at H
                  have c62b0 : (t280 == a1_0 && (t281 == a1_1 && (t282 == a1_2 && (t283 == a1_3 && (t284 == a1_4 && (t285 == a1_5 && (t286 == a1_6 && (t287 == a1_7 && (t288 == a1_8 && (t289 == a1_9)))))))))) = false := by simpa using c62
                  (try (have c62b1 : decide (t280 = a1_0 && (t281 == a1_1 && (t282 == a1_2 && (t283 == a1_3 && (t284 == a1_4 && (t285 == a1_5 && (t286 == a1_6 && (t287 == a1_7 && (t288 == a1_8 && (t289 == a1_9)))))))))) = false := by simpa using c62))
                  (try (have c62b2 : (t280 == a1_0 && (t281 == a1_1 && (t282 == a1_2 && (t283 == a1_3 && (t284 == a1_4 && (t285 == a1_5 && (t286 == a1_6 && (t287 == a1_7 && (t288 == a1_8 && (t289 == a1_9)))))))))) = false := by simpa using c62))
                  (try (have c62b3 : ¬ (t280 = a1_0 && (t281 == a1_1 && (t282 == a1_2 && (t283 == a1_3 && (t284 == a1_4 && (t285 == a1_5 && (t286 == a1_6 && (t287 == a1_7 && (t288 == a1_8 && (t289 == a1_9)))))))))) := by simpa using c62))
                  clear c62
                  obtain rfl := Option.some.inj H
                  have hnb90 := NB257_258.out
                  have hnc90 := NB258_257.out
                  have hnb91 := NB257_270.out
                  have hnc91 := NB270_257.out
                  have hcz92_0 : wc.cell? ⟨gb257, 0, none⟩ = some (.int .i64 a1_0) := (blk_cell BK257.out 0).trans rfl
                  have hcz92_1 : wc.cell? ⟨gb257, 1, none⟩ = some (.int .i64 a1_1) := (blk_cell BK257.out 1).trans rfl
                  have hcz92_2 : wc.cell? ⟨gb257, 2, none⟩ = some (.int .i64 a1_2) := (blk_cell BK257.out 2).trans rfl
                  have hcz92_3 : wc.cell? ⟨gb257, 3, none⟩ = some (.int .i64 a1_3) := (blk_cell BK257.out 3).trans rfl
                  have hcz92_4 : wc.cell? ⟨gb257, 4, none⟩ = some (.int .i64 a1_4) := (blk_cell BK257.out 4).trans rfl
                  have hcz92_5 : wc.cell? ⟨gb257, 5, none⟩ = some (.int .i64 a1_5) := (blk_cell BK257.out 5).trans rfl
                  have hcz92_6 : wc.cell? ⟨gb257, 6, none⟩ = some (.bool a1_6) := (blk_cell BK257.out 6).trans rfl
                  have hcz92_7 : wc.cell? ⟨gb257, 7, none⟩ = some (.int .i64 a1_7) := (blk_cell BK257.out 7).trans rfl
                  have hcz92_8 : wc.cell? ⟨gb257, 8, none⟩ = some (.int .u32 a1_8) := (blk_cell BK257.out 8).trans rfl
                  have hcz92_9 : wc.cell? ⟨gb257, 9, none⟩ = some (.int .u32 a1_9) := (blk_cell BK257.out 9).trans rfl
                  have hfz92_0 := blk_frozen BK257.out 0
                  have hfz92_1 := blk_frozen BK257.out 1
                  have hfz92_2 := blk_frozen BK257.out 2
                  have hfz92_3 := blk_frozen BK257.out 3
                  have hfz92_4 := blk_frozen BK257.out 4
                  have hfz92_5 := blk_frozen BK257.out 5
                  have hfz92_6 := blk_frozen BK257.out 6
                  have hfz92_7 := blk_frozen BK257.out 7
                  have hfz92_8 := blk_frozen BK257.out 8
                  have hfz92_9 := blk_frozen BK257.out 9
                  try go_wp2_with (first | ((with_reducible refine gate_callee (f := 9) rfl ?_); refine goesL_ (some 37) rfl rfl Tryd.func9 (by kernel_rfl) rfl #[.agg #[.int .i64 a1_0, .int .i64 a1_1, .int .i64 a1_2, .int .i64 a1_3, .int .i64 a1_4, .int .i64 a1_5, .bool a1_6, .int .i64 a1_7, .int .u32 a1_8, .int .u32 a1_9]] rfl (by (try simp only [List.map_toArray, List.map_cons, List.map_nil]); first | done | rfl | (simp only [List.length_drop, List.length_take]; rfl)) ?_; (with_reducible refine (pointer_Encode.calls a1_0 a1_1 a1_2 a1_3 a1_4 a1_5 a1_6 a1_7 a1_8 a1_9 t274 true _ ?side1 A34.out).mono ?_); (case side1 => exact Glob.below HG.out (by repeat (first | (with_reducible first | exact HB.out | apply below_alloc | apply pw_below_drewN | apply below_drew1 | refine below_set ?_ GE257.out | refine below_set ?_ GE258.out | refine below_set ?_ GE270.out) | exact HB.out))); rintro e w93 ⟨rfl, hb⟩; refine ⟨_, rfl, ?_⟩; have n0_ := Aside0.mk (blk_below (g := gb257) (o := .cells #[.int .i64 a1_0, .int .i64 a1_1, .int .i64 a1_2, .int .i64 a1_3, .int .i64 a1_4, .int .i64 a1_5, .bool a1_6, .int .i64 a1_7, .int .u32 a1_8, .int .u32 a1_9] 25 (0, 0)) (by (with_reducible repeat (first | refine blk_drewN ?_ _ | refine blk_drew ?_ | refine blk_alloc ?_ _)); exact BK257.out) hb); have n1_ := Aside0.mk (blk_below (g := gb258) (o := .cells #[.int .i64 a2_0, .int .i64 a2_1, .int .i64 a2_2, .int .i64 a2_3, .int .i64 a2_4, .int .i64 a2_5, .bool a2_6, .int .i64 a2_7, .int .u32 a2_8, .int .u32 a2_9] 25 (0, 0)) (by (with_reducible repeat (first | refine blk_drewN ?_ _ | refine blk_drew ?_ | refine blk_alloc ?_ _)); exact BK258.out) hb); have n2_ := Aside0.mk (blk_below (g := gb270) (o := .cells #[.int .i64 t260, .int .i64 t261, .int .i64 t262, .int .i64 t263, .int .i64 t264, .int .i64 t265, .bool t266, .int .i64 t267, .int .u32 t268, .int .u32 t269] 25 (0, 0)) (by (with_reducible repeat (first | refine blk_drewN ?_ _ | refine blk_drew ?_ | refine blk_alloc ?_ _)); exact BK270.out) hb); have n3_ := Aside0.mk (below_step (by repeat (first | (with_reducible first | exact HB.out | apply below_alloc | apply pw_below_drewN | apply below_drew1 | refine below_set ?_ GE257.out | refine below_set ?_ GE258.out | refine below_set ?_ GE270.out) | exact HB.out)) hb); clear BK257; clear BK258; clear BK270; clear HB; have BK257 := n0_; have BK258 := n1_; have BK270 := n2_; have HB := n3_; clear n0_ n1_ n2_ n3_; (try clear hb); (try clear hb2); (try clear hk); (try clear hi); have hnb94 := NB258_270.out; have hnc94 := NB270_258.out; have hcz95_0 : w93.cell? ⟨gb258, 0, none⟩ = some (.int .i64 a2_0) := (blk_cell BK258.out 0).trans rfl; have hcz95_1 : w93.cell? ⟨gb258, 1, none⟩ = some (.int .i64 a2_1) := (blk_cell BK258.out 1).trans rfl; have hcz95_2 : w93.cell? ⟨gb258, 2, none⟩ = some (.int .i64 a2_2) := (blk_cell BK258.out 2).trans rfl; have hcz95_3 : w93.cell? ⟨gb258, 3, none⟩ = some (.int .i64 a2_3) := (blk_cell BK258.out 3).trans rfl; have hcz95_4 : w93.cell? ⟨gb258, 4, none⟩ = some (.int .i64 a2_4) := (blk_cell BK258.out 4).trans rfl; have hcz95_5 : w93.cell? ⟨gb258, 5, none⟩ = some (.int .i64 a2_5) := (blk_cell BK258.out 5).trans rfl; have hcz95_6 : w93.cell? ⟨gb258, 6, none⟩ = some (.bool a2_6) := (blk_cell BK258.out 6).trans rfl; have hcz95_7 : w93.cell? ⟨gb258, 7, none⟩ = some (.int .i64 a2_7) := (blk_cell BK258.out 7).trans rfl; have hcz95_8 : w93.cell? ⟨gb258, 8, none⟩ = some (.int .u32 a2_8) := (blk_cell BK258.out 8).trans rfl; have hcz95_9 : w93.cell? ⟨gb258, 9, none⟩ = some (.int .u32 a2_9) := (blk_cell BK258.out 9).trans rfl; have hfz95_0 := blk_frozen BK258.out 0; have hfz95_1 := blk_frozen BK258.out 1; have hfz95_2 := blk_frozen BK258.out 2; have hfz95_3 := blk_frozen BK258.out 3; have hfz95_4 := blk_frozen BK258.out 4; have hfz95_5 := blk_frozen BK258.out 5; have hfz95_6 := blk_frozen BK258.out 6; have hfz95_7 := blk_frozen BK258.out 7; have hfz95_8 := blk_frozen BK258.out 8; have hfz95_9 := blk_frozen BK258.out 9) | ((with_reducible refine gate_callee (f := 9) rfl ?_); refine goesL_ (some 42) rfl rfl Tryd.func9 (by kernel_rfl) rfl #[.agg #[.int .i64 a2_0, .int .i64 a2_1, .int .i64 a2_2, .int .i64 a2_3, .int .i64 a2_4, .int .i64 a2_5, .bool a2_6, .int .i64 a2_7, .int .u32 a2_8, .int .u32 a2_9]] rfl (by (try simp only [List.map_toArray, List.map_cons, List.map_nil]); first | done | rfl | (simp only [List.length_drop, List.length_take]; rfl)) ?_; (with_reducible refine (pointer_Encode.calls a2_0 a2_1 a2_2 a2_3 a2_4 a2_5 a2_6 a2_7 a2_8 a2_9 t276 t277 _ ?side1 A35.out).mono ?_); (case side1 => exact Glob.below HG.out (by repeat (first | (with_reducible first | exact HB.out | apply below_alloc | apply pw_below_drewN | apply below_drew1 | refine below_set ?_ GE257.out | refine below_set ?_ GE258.out | refine below_set ?_ GE270.out) | exact HB.out))); rintro e w96 ⟨rfl, hb⟩; refine ⟨_, rfl, ?_⟩; have n0_ := Aside0.mk (blk_below (g := gb257) (o := .cells #[.int .i64 a1_0, .int .i64 a1_1, .int .i64 a1_2, .int .i64 a1_3, .int .i64 a1_4, .int .i64 a1_5, .bool a1_6, .int .i64 a1_7, .int .u32 a1_8, .int .u32 a1_9] 25 (0, 0)) (by (with_reducible repeat (first | refine blk_drewN ?_ _ | refine blk_drew ?_ | refine blk_alloc ?_ _)); exact BK257.out) hb); have n1_ := Aside0.mk (blk_below (g := gb258) (o := .cells #[.int .i64 a2_0, .int .i64 a2_1, .int .i64 a2_2, .int .i64 a2_3, .int .i64 a2_4, .int .i64 a2_5, .bool a2_6, .int .i64 a2_7, .int .u32 a2_8, .int .u32 a2_9] 25 (0, 0)) (by (with_reducible repeat (first | refine blk_drewN ?_ _ | refine blk_drew ?_ | refine blk_alloc ?_ _)); exact BK258.out) hb); have n2_ := Aside0.mk (blk_below (g := gb270) (o := .cells #[.int .i64 t260, .int .i64 t261, .int .i64 t262, .int .i64 t263, .int .i64 t264, .int .i64 t265, .bool t266, .int .i64 t267, .int .u32 t268, .int .u32 t269] 25 (0, 0)) (by (with_reducible repeat (first | refine blk_drewN ?_ _ | refine blk_drew ?_ | refine blk_alloc ?_ _)); exact BK270.out) hb); have n3_ := Aside0.mk (below_step (by repeat (first | (with_reducible first | exact HB.out | apply below_alloc | apply pw_below_drewN | apply below_drew1 | refine below_set ?_ GE257.out | refine below_set ?_ GE258.out | refine below_set ?_ GE270.out) | exact HB.out)) hb); clear BK257; clear BK258; clear BK270; clear HB; have BK257 := n0_; have BK258 := n1_; have BK270 := n2_; have HB := n3_; clear n0_ n1_ n2_ n3_; (try clear hb); (try clear hb2); (try clear hk); (try clear hi); have hcz97_0 : w96.cell? ⟨gb257, 0, none⟩ = some (.int .i64 a1_0) := (blk_cell BK257.out 0).trans rfl; have hcz97_1 : w96.cell? ⟨gb257, 1, none⟩ = some (.int .i64 a1_1) := (blk_cell BK257.out 1).trans rfl; have hcz97_2 : w96.cell? ⟨gb257, 2, none⟩ = some (.int .i64 a1_2) := (blk_cell BK257.out 2).trans rfl; have hcz97_3 : w96.cell? ⟨gb257, 3, none⟩ = some (.int .i64 a1_3) := (blk_cell BK257.out 3).trans rfl; have hcz97_4 : w96.cell? ⟨gb257, 4, none⟩ = some (.int .i64 a1_4) := (blk_cell BK257.out 4).trans rfl; have hcz97_5 : w96.cell? ⟨gb257, 5, none⟩ = some (.int .i64 a1_5) := (blk_cell BK257.out 5).trans rfl; have hcz97_6 : w96.cell? ⟨gb257, 6, none⟩ = some (.bool a1_6) := (blk_cell BK257.out 6).trans rfl; have hcz97_7 : w96.cell? ⟨gb257, 7, none⟩ = some (.int .i64 a1_7) := (blk_cell BK257.out 7).trans rfl; have hcz97_8 : w96.cell? ⟨gb257, 8, none⟩ = some (.int .u32 a1_8) := (blk_cell BK257.out 8).trans rfl; have hcz97_9 : w96.cell? ⟨gb257, 9, none⟩ = some (.int .u32 a1_9) := (blk_cell BK257.out 9).trans rfl; have hfz97_0 := blk_frozen BK257.out 0; have hfz97_1 := blk_frozen BK257.out 1; have hfz97_2 := blk_frozen BK257.out 2; have hfz97_3 := blk_frozen BK257.out 3; have hfz97_4 := blk_frozen BK257.out 4; have hfz97_5 := blk_frozen BK257.out 5; have hfz97_6 := blk_frozen BK257.out 6; have hfz97_7 := blk_frozen BK257.out 7; have hfz97_8 := blk_frozen BK257.out 8; have hfz97_9 := blk_frozen BK257.out 9) | ((with_reducible refine gate_callee (f := 13) rfl ?_); refine goesL_ (some 47) rfl rfl Tryd.func13 (by kernel_rfl) rfl #[.agg #[.int .i64 a1_0, .int .i64 a1_1, .int .i64 a1_2, .int .i64 a1_3, .int .i64 a1_4, .int .i64 a1_5, .bool a1_6, .int .i64 a1_7, .int .u32 a1_8, .int .u32 a1_9]] rfl (by (try simp only [List.map_toArray, List.map_cons, List.map_nil]); first | done | rfl | (simp only [List.length_drop, List.length_take]; rfl)) ?_; (with_reducible refine (pointer_Valid.calls a1_0 a1_1 a1_2 a1_3 a1_4 a1_5 a1_6 a1_7 a1_8 a1_9 t278 _ ?side1 A36.out).mono ?_); (case side1 => exact Glob.below HG.out (by repeat (first | (with_reducible first | exact HB.out | apply below_alloc | apply pw_below_drewN | apply below_drew1 | refine below_set ?_ GE257.out | refine below_set ?_ GE258.out | refine below_set ?_ GE270.out) | exact HB.out))); rintro e w98 ⟨rfl, hb⟩; refine ⟨_, rfl, ?_⟩; have n0_ := Aside0.mk (blk_below (g := gb257) (o := .cells #[.int .i64 a1_0, .int .i64 a1_1, .int .i64 a1_2, .int .i64 a1_3, .int .i64 a1_4, .int .i64 a1_5, .bool a1_6, .int .i64 a1_7, .int .u32 a1_8, .int .u32 a1_9] 25 (0, 0)) (by (with_reducible repeat (first | refine blk_drewN ?_ _ | refine blk_drew ?_ | refine blk_alloc ?_ _)); exact BK257.out) hb); have n1_ := Aside0.mk (blk_below (g := gb258) (o := .cells #[.int .i64 a2_0, .int .i64 a2_1, .int .i64 a2_2, .int .i64 a2_3, .int .i64 a2_4, .int .i64 a2_5, .bool a2_6, .int .i64 a2_7, .int .u32 a2_8, .int .u32 a2_9] 25 (0, 0)) (by (with_reducible repeat (first | refine blk_drewN ?_ _ | refine blk_drew ?_ | refine blk_alloc ?_ _)); exact BK258.out) hb); have n2_ := Aside0.mk (blk_below (g := gb270) (o := .cells #[.int .i64 t260, .int .i64 t261, .int .i64 t262, .int .i64 t263, .int .i64 t264, .int .i64 t265, .bool t266, .int .i64 t267, .int .u32 t268, .int .u32 t269] 25 (0, 0)) (by (with_reducible repeat (first | refine blk_drewN ?_ _ | refine blk_drew ?_ | refine blk_alloc ?_ _)); exact BK270.out) hb); have n3_ := Aside0.mk (below_step (by repeat (first | (with_reducible first | exact HB.out | apply below_alloc | apply pw_below_drewN | apply below_drew1 | refine below_set ?_ GE257.out | refine below_set ?_ GE258.out | refine below_set ?_ GE270.out) | exact HB.out)) hb); clear BK257; clear BK258; clear BK270; clear HB; have BK257 := n0_; have BK258 := n1_; have BK270 := n2_; have HB := n3_; clear n0_ n1_ n2_ n3_; (try clear hb); (try clear hb2); (try clear hk); (try clear hi); have hcz99_0 : w98.cell? ⟨gb258, 0, none⟩ = some (.int .i64 a2_0) := (blk_cell BK258.out 0).trans rfl; have hcz99_1 : w98.cell? ⟨gb258, 1, none⟩ = some (.int .i64 a2_1) := (blk_cell BK258.out 1).trans rfl; have hcz99_2 : w98.cell? ⟨gb258, 2, none⟩ = some (.int .i64 a2_2) := (blk_cell BK258.out 2).trans rfl; have hcz99_3 : w98.cell? ⟨gb258, 3, none⟩ = some (.int .i64 a2_3) := (blk_cell BK258.out 3).trans rfl; have hcz99_4 : w98.cell? ⟨gb258, 4, none⟩ = some (.int .i64 a2_4) := (blk_cell BK258.out 4).trans rfl; have hcz99_5 : w98.cell? ⟨gb258, 5, none⟩ = some (.int .i64 a2_5) := (blk_cell BK258.out 5).trans rfl; have hcz99_6 : w98.cell? ⟨gb258, 6, none⟩ = some (.bool a2_6) := (blk_cell BK258.out 6).trans rfl; have hcz99_7 : w98.cell? ⟨gb258, 7, none⟩ = some (.int .i64 a2_7) := (blk_cell BK258.out 7).trans rfl; have hcz99_8 : w98.cell? ⟨gb258, 8, none⟩ = some (.int .u32 a2_8) := (blk_cell BK258.out 8).trans rfl; have hcz99_9 : w98.cell? ⟨gb258, 9, none⟩ = some (.int .u32 a2_9) := (blk_cell BK258.out 9).trans rfl; have hfz99_0 := blk_frozen BK258.out 0; have hfz99_1 := blk_frozen BK258.out 1; have hfz99_2 := blk_frozen BK258.out 2; have hfz99_3 := blk_frozen BK258.out 3; have hfz99_4 := blk_frozen BK258.out 4; have hfz99_5 := blk_frozen BK258.out 5; have hfz99_6 := blk_frozen BK258.out 6; have hfz99_7 := blk_frozen BK258.out 7; have hfz99_8 := blk_frozen BK258.out 8; have hfz99_9 := blk_frozen BK258.out 9) | (go_at_call 13; (with_reducible refine (pointer_Valid.calls a2_0 a2_1 a2_2 a2_3 a2_4 a2_5 a2_6 a2_7 a2_8 a2_9 t279 _ ?side1 A47.out).mono ?_); (case side1 => exact Glob.below HG.out (by repeat (first | (with_reducible first | exact HB.out | apply below_alloc | apply pw_below_drewN | apply below_drew1 | refine below_set ?_ GE257.out | refine below_set ?_ GE258.out | refine below_set ?_ GE270.out) | exact HB.out))); rintro e w100 ⟨rfl, hb⟩; have n0_ := Aside0.mk (blk_below (g := gb257) (o := .cells #[.int .i64 a1_0, .int .i64 a1_1, .int .i64 a1_2, .int .i64 a1_3, .int .i64 a1_4, .int .i64 a1_5, .bool a1_6, .int .i64 a1_7, .int .u32 a1_8, .int .u32 a1_9] 25 (0, 0)) (by (with_reducible repeat (first | refine blk_drewN ?_ _ | refine blk_drew ?_ | refine blk_alloc ?_ _)); exact BK257.out) hb); have n1_ := Aside0.mk (blk_below (g := gb258) (o := .cells #[.int .i64 a2_0, .int .i64 a2_1, .int .i64 a2_2, .int .i64 a2_3, .int .i64 a2_4, .int .i64 a2_5, .bool a2_6, .int .i64 a2_7, .int .u32 a2_8, .int .u32 a2_9] 25 (0, 0)) (by (with_reducible repeat (first | refine blk_drewN ?_ _ | refine blk_drew ?_ | refine blk_alloc ?_ _)); exact BK258.out) hb); have n2_ := Aside0.mk (blk_below (g := gb270) (o := .cells #[.int .i64 t260, .int .i64 t261, .int .i64 t262, .int .i64 t263, .int .i64 t264, .int .i64 t265, .bool t266, .int .i64 t267, .int .u32 t268, .int .u32 t269] 25 (0, 0)) (by (with_reducible repeat (first | refine blk_drewN ?_ _ | refine blk_drew ?_ | refine blk_alloc ?_ _)); exact BK270.out) hb); have n3_ := Aside0.mk (below_step (by repeat (first | (with_reducible first | exact HB.out | apply below_alloc | apply pw_below_drewN | apply below_drew1 | refine below_set ?_ GE257.out | refine below_set ?_ GE258.out | refine below_set ?_ GE270.out) | exact HB.out)) hb); clear BK257; clear BK258; clear BK270; clear HB; have BK257 := n0_; have BK258 := n1_; have BK270 := n2_; have HB := n3_; clear n0_ n1_ n2_ n3_; (try clear hb); (try clear hb2); (try clear hk); (try clear hi)))
                  have n0_ := Aside0.mk (blk_drew BK257.out)
                  have n1_ := Aside0.mk (blk_drew BK258.out)
                  have n2_ := Aside0.mk (blk_drew BK270.out)
                  have n3_ := Aside0.mk (below_drew1 HB.out)
                  clear BK257
                  clear BK258
                  clear BK270
                  clear HB
                  have BK257 := n0_
                  have BK258 := n1_
                  have BK270 := n2_
                  have HB := n3_
                  clear n0_ n1_ n2_ n3_
                  refine start_ (n := 26) (S := fun w' => w'.cell? ⟨gb257, 0, none⟩ = some (.int .i64 a1_0) ∧ w'.cell? ⟨gb257, 1, none⟩ = some (.int .i64 a1_1) ∧ w'.cell? ⟨gb257, 2, none⟩ = some (.int .i64 a1_2) ∧ w'.cell? ⟨gb257, 3, none⟩ = some (.int .i64 a1_3) ∧ w'.cell? ⟨gb257, 4, none⟩ = some (.int .i64 a1_4) ∧ w'.cell? ⟨gb257, 5, none⟩ = some (.int .i64 a1_5) ∧ w'.cell? ⟨gb257, 6, none⟩ = some (.bool a1_6) ∧ w'.cell? ⟨gb257, 7, none⟩ = some (.int .i64 a1_7) ∧ w'.cell? ⟨gb257, 8, none⟩ = some (.int .u32 a1_8) ∧ w'.cell? ⟨gb257, 9, none⟩ = some (.int .u32 a1_9)) (ds := []) #[false, false, false, false, false, false, false, false, false, false, false, false, false, false, false, false, false, false, false, false, false, false, false, false, false, false] (by kernel_rfl) rfl rfl ⟨(blk_cell BK257.out 0).trans rfl, (blk_cell BK257.out 1).trans rfl, (blk_cell BK257.out 2).trans rfl, (blk_cell BK257.out 3).trans rfl, (blk_cell BK257.out 4).trans rfl, (blk_cell BK257.out 5).trans rfl, (blk_cell BK257.out 6).trans rfl, (blk_cell BK257.out 7).trans rfl, (blk_cell BK257.out 8).trans rfl, (blk_cell BK257.out 9).trans rfl⟩ (fun hHeld => ?_); refine with_tabW capnplaw02_PointerRoundTrip.tab11 capnplaw02_PointerRoundTrip.bits11 (fun HT_ HW_ => ?_)
                  generalize w100.drew = w101 at BK257 BK258 BK270 HB hHeld ⊢
                  refine pure_ (i := 0) (N := some 63) (v := ?_) (a' := ?_) #[true, false, false, false, false, false, false, false, false, false, false, false, false, false, false, false, false, false, false, false, false, false, false, false, false, false] rfl rfl (any_of HT_.out (by kernel_rfl)) (fun _ _ _ h => h) (Or.inl ⟨by rfl, ?_⟩) ?_ ?_
                  rotate_left
                  · intro w'
                    go_simp
                    with_reducible rfl
                  rotate_left
                  · simp only [Act.put, List.setIfInBounds_toArray, List.set_cons_zero, List.set_cons_succ, i64_w, i32_w]
                    rfl
                  refine pure_ (i := 1) (N := some 64) (v := ?_) (a' := ?_) #[true, true, false, false, false, false, false, false, false, false, false, false, false, false, false, false, false, false, false, false, false, false, false, false, false, false] rfl rfl (any_of HT_.out (by kernel_rfl)) (fun _ _ _ h => h) (Or.inl ⟨by rfl, ?_⟩) ?_ ?_
                  rotate_left
                  · intro w'
                    go_simp
                    with_reducible rfl
                  rotate_left
                  · simp only [Act.put, List.setIfInBounds_toArray, List.set_cons_zero, List.set_cons_succ, i64_w, i32_w]
                    rfl
                  refine pure_ (i := 2) (N := some 65) (v := ?_) (a' := ?_) #[true, true, true, false, false, false, false, false, false, false, false, false, false, false, false, false, false, false, false, false, false, false, false, false, false, false] rfl rfl (any_of HT_.out (by kernel_rfl)) (fun _ _ _ h => h) (Or.inl ⟨by rfl, ?_⟩) ?_ ?_
                  rotate_left
                  · intro w'
                    go_simp
                    with_reducible rfl
                  rotate_left
                  · simp only [Act.put, List.setIfInBounds_toArray, List.set_cons_zero, List.set_cons_succ, i64_w, i32_w]
                    rfl
                  refine pure_ (i := 3) (N := some 66) (v := ?_) (a' := ?_) #[true, true, true, true, false, false, false, false, false, false, false, false, false, false, false, false, false, false, false, false, false, false, false, false, false, false] rfl rfl (any_of HT_.out (by kernel_rfl)) (fun _ _ _ h => h) (Or.inl ⟨by rfl, ?_⟩) ?_ ?_
                  rotate_left
                  · intro w'
                    go_simp
                    with_reducible rfl
                  rotate_left
                  · simp only [Act.put, List.setIfInBounds_toArray, List.set_cons_zero, List.set_cons_succ, i64_w, i32_w]
                    rfl
                  refine take_ (i := 5) (N := some 68) (v := ?_) (a' := ?_) #[true, true, true, true, false, true, false, false, false, false, false, false, false, false, false, false, false, false, false, false, false, false, false, false, false, false] rfl rfl (take_ofW HT_.out HW_.out (by kernel_rfl)) (fun _ _ _ h => h) (Or.inl ⟨by rfl, ?_⟩) hHeld ?_ ?_
                  rotate_left
                  · rintro w' ⟨s0, s1, s2, s3, s4, s5, s6, s7, s8, s9⟩
                    go_simp
                    with_reducible rfl
                  rotate_left
                  · simp only [Act.put, List.setIfInBounds_toArray, List.set_cons_zero, List.set_cons_succ, i64_w, i32_w]
                    rfl
                  refine one_ (i := 4) (N := some 67) #[true, true, true, true, true, true, false, false, false, false, false, false, false, false, false, false, false, false, false, false, false, false, false, false, false, false] rfl rfl (one_of HT_.out (by kernel_rfl)) (by decide) (fun K hK => ?_)
                  refine goes_ Tryd.func11 (by kernel_rfl) rfl #[.int .u64 t274] (by rfl) rfl rfl (by (try simp only [List.map_toArray, List.map_cons, List.map_nil]); first | done | rfl | (simp only [List.length_drop, List.length_take]; rfl)) ?_
                  with_reducible refine (pointer_Decode.calls t274 t280 t281 t282 t283 t284 t285 t286 t287 t288 t289 _ ?side1 A61.out).mono ?_
                  (case side1 => exact Glob.below HG.out (by repeat (first | (with_reducible first | exact HB.out | apply below_alloc | apply pw_below_drewN | apply below_drew1 | refine below_set ?_ GE257.out | refine below_set ?_ GE258.out | refine below_set ?_ GE270.out) | exact HB.out)))
                  rintro e w102 ⟨rfl, hb⟩
                  refine ⟨_, rfl, ?_⟩
                  have n0_ := Aside0.mk (blk_below (g := gb257) (o := .cells #[.int .i64 a1_0, .int .i64 a1_1, .int .i64 a1_2, .int .i64 a1_3, .int .i64 a1_4, .int .i64 a1_5, .bool a1_6, .int .i64 a1_7, .int .u32 a1_8, .int .u32 a1_9] 25 (0, 0)) (by (with_reducible repeat (first | refine blk_drewN ?_ _ | refine blk_drew ?_ | refine blk_alloc ?_ _)); exact BK257.out) hb)
                  have n1_ := Aside0.mk (blk_below (g := gb258) (o := .cells #[.int .i64 a2_0, .int .i64 a2_1, .int .i64 a2_2, .int .i64 a2_3, .int .i64 a2_4, .int .i64 a2_5, .bool a2_6, .int .i64 a2_7, .int .u32 a2_8, .int .u32 a2_9] 25 (0, 0)) (by (with_reducible repeat (first | refine blk_drewN ?_ _ | refine blk_drew ?_ | refine blk_alloc ?_ _)); exact BK258.out) hb)
                  have n2_ := Aside0.mk (blk_below (g := gb270) (o := .cells #[.int .i64 t260, .int .i64 t261, .int .i64 t262, .int .i64 t263, .int .i64 t264, .int .i64 t265, .bool t266, .int .i64 t267, .int .u32 t268, .int .u32 t269] 25 (0, 0)) (by (with_reducible repeat (first | refine blk_drewN ?_ _ | refine blk_drew ?_ | refine blk_alloc ?_ _)); exact BK270.out) hb)
                  have n3_ := Aside0.mk (below_step (by repeat (first | (with_reducible first | exact HB.out | apply below_alloc | apply pw_below_drewN | apply below_drew1 | refine below_set ?_ GE257.out | refine below_set ?_ GE258.out | refine below_set ?_ GE270.out) | exact HB.out)) hb)
                  clear BK257
                  clear BK258
                  clear BK270
                  clear HB
                  have BK257 := n0_
                  have BK258 := n1_
                  have BK270 := n2_
                  have HB := n3_
                  clear n0_ n1_ n2_ n3_
                  (try clear hb)
                  (try clear hb2)
                  (try clear hk)
                  (try clear hi)
                  refine hK.out _ _ ⟨(blk_cell BK257.out 0).trans rfl, (blk_cell BK257.out 1).trans rfl, (blk_cell BK257.out 2).trans rfl, (blk_cell BK257.out 3).trans rfl, (blk_cell BK257.out 4).trans rfl, (blk_cell BK257.out 5).trans rfl, (blk_cell BK257.out 6).trans rfl, (blk_cell BK257.out 7).trans rfl, (blk_cell BK257.out 8).trans rfl, (blk_cell BK257.out 9).trans rfl⟩ (fun hHeld => ?_)
                  clear hK K
                  refine norm_ (a' := ?_) ?_ ?_
                  rotate_left
                  · show Act.put _ (some 67) _ = _
                    simp only [Act.put, List.setIfInBounds_toArray, List.set_cons_zero, List.set_cons_succ, i64_w, i32_w]
                    rfl
                  refine pure_ (i := 6) (N := some 69) (v := ?_) (a' := ?_) #[true, true, true, true, true, true, true, false, false, false, false, false, false, false, false, false, false, false, false, false, false, false, false, false, false, false] rfl rfl (any_of HT_.out (by kernel_rfl)) (fun _ _ _ h => h) (Or.inl ⟨by rfl, ?_⟩) ?_ ?_
                  rotate_left
                  · intro w'
                    go_simp
                    with_reducible rfl
                  rotate_left
                  · simp only [Act.put, List.setIfInBounds_toArray, List.set_cons_zero, List.set_cons_succ, i64_w, i32_w]
                    rfl
                  refine pure_ (i := 7) (N := some 70) (v := ?_) (a' := ?_) #[true, true, true, true, true, true, true, true, false, false, false, false, false, false, false, false, false, false, false, false, false, false, false, false, false, false] rfl rfl (any_of HT_.out (by kernel_rfl)) (fun _ _ _ h => h) (Or.inl ⟨by rfl, ?_⟩) ?_ ?_
                  rotate_left
                  · intro w'
                    go_simp
                    with_reducible rfl
                  rotate_left
                  · simp only [Act.put, List.setIfInBounds_toArray, List.set_cons_zero, List.set_cons_succ, i64_w, i32_w]
                    rfl
                  refine pure_ (i := 8) (N := some 71) (v := ?_) (a' := ?_) #[true, true, true, true, true, true, true, true, true, false, false, false, false, false, false, false, false, false, false, false, false, false, false, false, false, false] rfl rfl (any_of HT_.out (by kernel_rfl)) (fun _ _ _ h => h) (Or.inl ⟨by rfl, ?_⟩) ?_ ?_
                  rotate_left
                  · intro w'
                    go_simp
                    with_reducible rfl
                  rotate_left
                  · simp only [Act.put, List.setIfInBounds_toArray, List.set_cons_zero, List.set_cons_succ, i64_w, i32_w]
                    rfl
                  refine pure_ (i := 9) (N := some 72) (v := undef) (a' := ?_) #[true, true, true, true, true, true, true, true, true, true, false, false, false, false, false, false, false, false, false, false, false, false, false, false, false, false] rfl rfl (any_of HT_.out (by kernel_rfl)) (fun _ _ _ h => h) (Or.inr ⟨by rfl, rfl⟩) ?_ ?_
                  rotate_left
                  · simp only [Act.put, List.setIfInBounds_toArray, List.set_cons_zero, List.set_cons_succ, i64_w, i32_w]
                    rfl
                  refine pure_ (i := 10) (N := some 73) (v := undef) (a' := ?_) #[true, true, true, true, true, true, true, true, true, true, true, false, false, false, false, false, false, false, false, false, false, false, false, false, false, false] rfl rfl (any_of HT_.out (by kernel_rfl)) (fun _ _ _ h => h) (Or.inr ⟨by rfl, rfl⟩) ?_ ?_
                  rotate_left
                  · simp only [Act.put, List.setIfInBounds_toArray, List.set_cons_zero, List.set_cons_succ, i64_w, i32_w]
                    rfl
                  refine pure_ (i := 11) (N := some 74) (v := undef) (a' := ?_) #[true, true, true, true, true, true, true, true, true, true, true, true, false, false, false, false, false, false, false, false, false, false, false, false, false, false] rfl rfl (any_of HT_.out (by kernel_rfl)) (fun _ _ _ h => h) (Or.inr ⟨by rfl, rfl⟩) ?_ ?_
                  rotate_left
                  · simp only [Act.put, List.setIfInBounds_toArray, List.set_cons_zero, List.set_cons_succ, i64_w, i32_w]
                    rfl
                  refine pure_ (i := 12) (N := some 75) (v := undef) (a' := ?_) #[true, true, true, true, true, true, true, true, true, true, true, true, true, false, false, false, false, false, false, false, false, false, false, false, false, false] rfl rfl (any_of HT_.out (by kernel_rfl)) (fun _ _ _ h => h) (Or.inr ⟨by rfl, rfl⟩) ?_ ?_
                  rotate_left
                  · simp only [Act.put, List.setIfInBounds_toArray, List.set_cons_zero, List.set_cons_succ, i64_w, i32_w]
                    rfl
                  refine pure_ (i := 13) (N := some 76) (v := undef) (a' := ?_) #[true, true, true, true, true, true, true, true, true, true, true, true, true, true, false, false, false, false, false, false, false, false, false, false, false, false] rfl rfl (any_of HT_.out (by kernel_rfl)) (fun _ _ _ h => h) (Or.inr ⟨by rfl, rfl⟩) ?_ ?_
                  rotate_left
                  · simp only [Act.put, List.setIfInBounds_toArray, List.set_cons_zero, List.set_cons_succ, i64_w, i32_w]
                    rfl
                  refine pure_ (i := 14) (N := some 77) (v := undef) (a' := ?_) #[true, true, true, true, true, true, true, true, true, true, true, true, true, true, true, false, false, false, false, false, false, false, false, false, false, false] rfl rfl (any_of HT_.out (by kernel_rfl)) (fun _ _ _ h => h) (Or.inr ⟨by rfl, rfl⟩) ?_ ?_
                  rotate_left
                  · simp only [Act.put, List.setIfInBounds_toArray, List.set_cons_zero, List.set_cons_succ, i64_w, i32_w]
                    rfl
                  refine pure_ (i := 15) (N := some 78) (v := undef) (a' := ?_) #[true, true, true, true, true, true, true, true, true, true, true, true, true, true, true, true, false, false, false, false, false, false, false, false, false, false] rfl rfl (any_of HT_.out (by kernel_rfl)) (fun _ _ _ h => h) (Or.inr ⟨by rfl, rfl⟩) ?_ ?_
                  rotate_left
                  · simp only [Act.put, List.setIfInBounds_toArray, List.set_cons_zero, List.set_cons_succ, i64_w, i32_w]
                    rfl
                  refine pure_ (i := 16) (N := some 79) (v := undef) (a' := ?_) #[true, true, true, true, true, true, true, true, true, true, true, true, true, true, true, true, true, false, false, false, false, false, false, false, false, false] rfl rfl (any_of HT_.out (by kernel_rfl)) (fun _ _ _ h => h) (Or.inr ⟨by rfl, rfl⟩) ?_ ?_
                  rotate_left
                  · simp only [Act.put, List.setIfInBounds_toArray, List.set_cons_zero, List.set_cons_succ, i64_w, i32_w]
                    rfl
                  refine pure_ (i := 17) (N := some 80) (v := undef) (a' := ?_) #[true, true, true, true, true, true, true, true, true, true, true, true, true, true, true, true, true, true, false, false, false, false, false, false, false, false] rfl rfl (any_of HT_.out (by kernel_rfl)) (fun _ _ _ h => h) (Or.inr ⟨by rfl, rfl⟩) ?_ ?_
                  rotate_left
                  · simp only [Act.put, List.setIfInBounds_toArray, List.set_cons_zero, List.set_cons_succ, i64_w, i32_w]
                    rfl
                  refine pure_ (i := 18) (N := some 81) (v := undef) (a' := ?_) #[true, true, true, true, true, true, true, true, true, true, true, true, true, true, true, true, true, true, true, false, false, false, false, false, false, false] rfl rfl (any_of HT_.out (by kernel_rfl)) (fun _ _ _ h => h) (Or.inr ⟨by rfl, rfl⟩) ?_ ?_
                  rotate_left
                  · simp only [Act.put, List.setIfInBounds_toArray, List.set_cons_zero, List.set_cons_succ, i64_w, i32_w]
                    rfl
                  refine pure_ (i := 19) (N := some 82) (v := undef) (a' := ?_) #[true, true, true, true, true, true, true, true, true, true, true, true, true, true, true, true, true, true, true, true, false, false, false, false, false, false] rfl rfl (any_of HT_.out (by kernel_rfl)) (fun _ _ _ h => h) (Or.inr ⟨by rfl, rfl⟩) ?_ ?_
                  rotate_left
                  · simp only [Act.put, List.setIfInBounds_toArray, List.set_cons_zero, List.set_cons_succ, i64_w, i32_w]
                    rfl
                  refine pure_ (i := 20) (N := some 83) (v := undef) (a' := ?_) #[true, true, true, true, true, true, true, true, true, true, true, true, true, true, true, true, true, true, true, true, true, false, false, false, false, false] rfl rfl (any_of HT_.out (by kernel_rfl)) (fun _ _ _ h => h) (Or.inr ⟨by rfl, rfl⟩) ?_ ?_
                  rotate_left
                  · simp only [Act.put, List.setIfInBounds_toArray, List.set_cons_zero, List.set_cons_succ, i64_w, i32_w]
                    rfl
                  refine pure_ (i := 21) (N := some 84) (v := undef) (a' := ?_) #[true, true, true, true, true, true, true, true, true, true, true, true, true, true, true, true, true, true, true, true, true, true, false, false, false, false] rfl rfl (any_of HT_.out (by kernel_rfl)) (fun _ _ _ h => h) (Or.inr ⟨by rfl, rfl⟩) ?_ ?_
                  rotate_left
                  · simp only [Act.put, List.setIfInBounds_toArray, List.set_cons_zero, List.set_cons_succ, i64_w, i32_w]
                    rfl
                  refine pure_ (i := 22) (N := some 85) (v := undef) (a' := ?_) #[true, true, true, true, true, true, true, true, true, true, true, true, true, true, true, true, true, true, true, true, true, true, true, false, false, false] rfl rfl (any_of HT_.out (by kernel_rfl)) (fun _ _ _ h => h) (Or.inr ⟨by rfl, rfl⟩) ?_ ?_
                  rotate_left
                  · simp only [Act.put, List.setIfInBounds_toArray, List.set_cons_zero, List.set_cons_succ, i64_w, i32_w]
                    rfl
                  refine pure_ (i := 23) (N := some 86) (v := undef) (a' := ?_) #[true, true, true, true, true, true, true, true, true, true, true, true, true, true, true, true, true, true, true, true, true, true, true, true, false, false] rfl rfl (any_of HT_.out (by kernel_rfl)) (fun _ _ _ h => h) (Or.inr ⟨by rfl, rfl⟩) ?_ ?_
                  rotate_left
                  · simp only [Act.put, List.setIfInBounds_toArray, List.set_cons_zero, List.set_cons_succ, i64_w, i32_w]
                    rfl
                  refine pure_ (i := 24) (N := some 87) (v := ?_) (a' := ?_) #[true, true, true, true, true, true, true, true, true, true, true, true, true, true, true, true, true, true, true, true, true, true, true, true, true, false] rfl rfl (any_of HT_.out (by kernel_rfl)) (fun _ _ _ h => h) (Or.inl ⟨by rfl, ?_⟩) ?_ ?_
                  rotate_left
                  · intro w'
                    go_simp
                    with_reducible rfl
                  rotate_left
                  · simp only [Act.put, List.setIfInBounds_toArray, List.set_cons_zero, List.set_cons_succ, i64_w, i32_w]
                    rfl
                  refine pure_ (i := 25) (N := some 6) (v := ?_) (a' := ?_) #[true, true, true, true, true, true, true, true, true, true, true, true, true, true, true, true, true, true, true, true, true, true, true, true, true, true] rfl rfl (any_of HT_.out (by kernel_rfl)) (fun _ _ _ h => h) (Or.inl ⟨by rfl, ?_⟩) ?_ ?_
                  rotate_left
                  · intro w'
                    go_simp
                    with_reducible rfl
                  rotate_left
                  · simp only [Act.put, List.setIfInBounds_toArray, List.set_cons_zero, List.set_cons_succ, i64_w, i32_w]
                    rfl
                  refine done_ (done_of HT_.out (by kernel_rfl)) ?_
                  try go_wp2
                  go_ret
                  exact ⟨by first | rfl | (simp [errW_none, errW_some] <;> rfl) | (simp [*, errW_none, errW_some] <;> rfl), by repeat (first | (with_reducible first | exact HB.out | apply below_alloc | apply pw_below_drewN | apply below_drew1 | refine below_set ?_ GE257.out | refine below_set ?_ GE258.out | refine below_set ?_ GE270.out) | exact HB.out)⟩
              · replace c60 := Bool.eq_false_iff.mpr c60
                subst c60
                have H1 : (if t274 = 0 then (some true) else (some false)) = some r := by rw [if_neg (show ¬ (false = true) by decide)] at H; exact H
                clear H
                have H := H1
                clear H1
                by_cases c103 : t274 = 0
                · rw [if_pos c103] at H
                  have c103b0 : (t274 == 0) = true := beq_iff_eq.mpr c103
                  have c103b1 : (t274 != 0) = false := bne_eq_false_iff_eq.mpr c103
                  clear c103
                  obtain rfl := Option.some.inj H
                  have hnb104 := NB257_258.out
                  have hnc104 := NB258_257.out
                  have hnb105 := NB257_270.out
                  have hnc105 := NB270_257.out
                  have hcz106_0 : wc.cell? ⟨gb257, 0, none⟩ = some (.int .i64 a1_0) := (blk_cell BK257.out 0).trans rfl
                  have hcz106_1 : wc.cell? ⟨gb257, 1, none⟩ = some (.int .i64 a1_1) := (blk_cell BK257.out 1).trans rfl
                  have hcz106_2 : wc.cell? ⟨gb257, 2, none⟩ = some (.int .i64 a1_2) := (blk_cell BK257.out 2).trans rfl
                  have hcz106_3 : wc.cell? ⟨gb257, 3, none⟩ = some (.int .i64 a1_3) := (blk_cell BK257.out 3).trans rfl
                  have hcz106_4 : wc.cell? ⟨gb257, 4, none⟩ = some (.int .i64 a1_4) := (blk_cell BK257.out 4).trans rfl
                  have hcz106_5 : wc.cell? ⟨gb257, 5, none⟩ = some (.int .i64 a1_5) := (blk_cell BK257.out 5).trans rfl
                  have hcz106_6 : wc.cell? ⟨gb257, 6, none⟩ = some (.bool a1_6) := (blk_cell BK257.out 6).trans rfl
                  have hcz106_7 : wc.cell? ⟨gb257, 7, none⟩ = some (.int .i64 a1_7) := (blk_cell BK257.out 7).trans rfl
                  have hcz106_8 : wc.cell? ⟨gb257, 8, none⟩ = some (.int .u32 a1_8) := (blk_cell BK257.out 8).trans rfl
                  have hcz106_9 : wc.cell? ⟨gb257, 9, none⟩ = some (.int .u32 a1_9) := (blk_cell BK257.out 9).trans rfl
                  have hfz106_0 := blk_frozen BK257.out 0
                  have hfz106_1 := blk_frozen BK257.out 1
                  have hfz106_2 := blk_frozen BK257.out 2
                  have hfz106_3 := blk_frozen BK257.out 3
                  have hfz106_4 := blk_frozen BK257.out 4
                  have hfz106_5 := blk_frozen BK257.out 5
                  have hfz106_6 := blk_frozen BK257.out 6
                  have hfz106_7 := blk_frozen BK257.out 7
                  have hfz106_8 := blk_frozen BK257.out 8
                  have hfz106_9 := blk_frozen BK257.out 9
                  try go_wp2_with (first | ((with_reducible refine gate_callee (f := 9) rfl ?_); refine goesL_ (some 37) rfl rfl Tryd.func9 (by kernel_rfl) rfl #[.agg #[.int .i64 a1_0, .int .i64 a1_1, .int .i64 a1_2, .int .i64 a1_3, .int .i64 a1_4, .int .i64 a1_5, .bool a1_6, .int .i64 a1_7, .int .u32 a1_8, .int .u32 a1_9]] rfl (by (try simp only [List.map_toArray, List.map_cons, List.map_nil]); first | done | rfl | (simp only [List.length_drop, List.length_take]; rfl)) ?_; (with_reducible refine (pointer_Encode.calls a1_0 a1_1 a1_2 a1_3 a1_4 a1_5 a1_6 a1_7 a1_8 a1_9 t274 false _ ?side1 A34.out).mono ?_); (case side1 => exact Glob.below HG.out (by repeat (first | (with_reducible first | exact HB.out | apply below_alloc | apply pw_below_drewN | apply below_drew1 | refine below_set ?_ GE257.out | refine below_set ?_ GE258.out | refine below_set ?_ GE270.out) | exact HB.out))); rintro e w107 ⟨rfl, hb⟩; refine ⟨_, rfl, ?_⟩; have n0_ := Aside0.mk (blk_below (g := gb257) (o := .cells #[.int .i64 a1_0, .int .i64 a1_1, .int .i64 a1_2, .int .i64 a1_3, .int .i64 a1_4, .int .i64 a1_5, .bool a1_6, .int .i64 a1_7, .int .u32 a1_8, .int .u32 a1_9] 25 (0, 0)) (by (with_reducible repeat (first | refine blk_drewN ?_ _ | refine blk_drew ?_ | refine blk_alloc ?_ _)); exact BK257.out) hb); have n1_ := Aside0.mk (blk_below (g := gb258) (o := .cells #[.int .i64 a2_0, .int .i64 a2_1, .int .i64 a2_2, .int .i64 a2_3, .int .i64 a2_4, .int .i64 a2_5, .bool a2_6, .int .i64 a2_7, .int .u32 a2_8, .int .u32 a2_9] 25 (0, 0)) (by (with_reducible repeat (first | refine blk_drewN ?_ _ | refine blk_drew ?_ | refine blk_alloc ?_ _)); exact BK258.out) hb); have n2_ := Aside0.mk (blk_below (g := gb270) (o := .cells #[.int .i64 t260, .int .i64 t261, .int .i64 t262, .int .i64 t263, .int .i64 t264, .int .i64 t265, .bool t266, .int .i64 t267, .int .u32 t268, .int .u32 t269] 25 (0, 0)) (by (with_reducible repeat (first | refine blk_drewN ?_ _ | refine blk_drew ?_ | refine blk_alloc ?_ _)); exact BK270.out) hb); have n3_ := Aside0.mk (below_step (by repeat (first | (with_reducible first | exact HB.out | apply below_alloc | apply pw_below_drewN | apply below_drew1 | refine below_set ?_ GE257.out | refine below_set ?_ GE258.out | refine below_set ?_ GE270.out) | exact HB.out)) hb); clear BK257; clear BK258; clear BK270; clear HB; have BK257 := n0_; have BK258 := n1_; have BK270 := n2_; have HB := n3_; clear n0_ n1_ n2_ n3_; (try clear hb); (try clear hb2); (try clear hk); (try clear hi); have hnb108 := NB258_270.out; have hnc108 := NB270_258.out; have hcz109_0 : w107.cell? ⟨gb258, 0, none⟩ = some (.int .i64 a2_0) := (blk_cell BK258.out 0).trans rfl; have hcz109_1 : w107.cell? ⟨gb258, 1, none⟩ = some (.int .i64 a2_1) := (blk_cell BK258.out 1).trans rfl; have hcz109_2 : w107.cell? ⟨gb258, 2, none⟩ = some (.int .i64 a2_2) := (blk_cell BK258.out 2).trans rfl; have hcz109_3 : w107.cell? ⟨gb258, 3, none⟩ = some (.int .i64 a2_3) := (blk_cell BK258.out 3).trans rfl; have hcz109_4 : w107.cell? ⟨gb258, 4, none⟩ = some (.int .i64 a2_4) := (blk_cell BK258.out 4).trans rfl; have hcz109_5 : w107.cell? ⟨gb258, 5, none⟩ = some (.int .i64 a2_5) := (blk_cell BK258.out 5).trans rfl; have hcz109_6 : w107.cell? ⟨gb258, 6, none⟩ = some (.bool a2_6) := (blk_cell BK258.out 6).trans rfl; have hcz109_7 : w107.cell? ⟨gb258, 7, none⟩ = some (.int .i64 a2_7) := (blk_cell BK258.out 7).trans rfl; have hcz109_8 : w107.cell? ⟨gb258, 8, none⟩ = some (.int .u32 a2_8) := (blk_cell BK258.out 8).trans rfl; have hcz109_9 : w107.cell? ⟨gb258, 9, none⟩ = some (.int .u32 a2_9) := (blk_cell BK258.out 9).trans rfl; have hfz109_0 := blk_frozen BK258.out 0; have hfz109_1 := blk_frozen BK258.out 1; have hfz109_2 := blk_frozen BK258.out 2; have hfz109_3 := blk_frozen BK258.out 3; have hfz109_4 := blk_frozen BK258.out 4; have hfz109_5 := blk_frozen BK258.out 5; have hfz109_6 := blk_frozen BK258.out 6; have hfz109_7 := blk_frozen BK258.out 7; have hfz109_8 := blk_frozen BK258.out 8; have hfz109_9 := blk_frozen BK258.out 9) | ((with_reducible refine gate_callee (f := 9) rfl ?_); refine goesL_ (some 42) rfl rfl Tryd.func9 (by kernel_rfl) rfl #[.agg #[.int .i64 a2_0, .int .i64 a2_1, .int .i64 a2_2, .int .i64 a2_3, .int .i64 a2_4, .int .i64 a2_5, .bool a2_6, .int .i64 a2_7, .int .u32 a2_8, .int .u32 a2_9]] rfl (by (try simp only [List.map_toArray, List.map_cons, List.map_nil]); first | done | rfl | (simp only [List.length_drop, List.length_take]; rfl)) ?_; (with_reducible refine (pointer_Encode.calls a2_0 a2_1 a2_2 a2_3 a2_4 a2_5 a2_6 a2_7 a2_8 a2_9 t276 t277 _ ?side1 A35.out).mono ?_); (case side1 => exact Glob.below HG.out (by repeat (first | (with_reducible first | exact HB.out | apply below_alloc | apply pw_below_drewN | apply below_drew1 | refine below_set ?_ GE257.out | refine below_set ?_ GE258.out | refine below_set ?_ GE270.out) | exact HB.out))); rintro e w110 ⟨rfl, hb⟩; refine ⟨_, rfl, ?_⟩; have n0_ := Aside0.mk (blk_below (g := gb257) (o := .cells #[.int .i64 a1_0, .int .i64 a1_1, .int .i64 a1_2, .int .i64 a1_3, .int .i64 a1_4, .int .i64 a1_5, .bool a1_6, .int .i64 a1_7, .int .u32 a1_8, .int .u32 a1_9] 25 (0, 0)) (by (with_reducible repeat (first | refine blk_drewN ?_ _ | refine blk_drew ?_ | refine blk_alloc ?_ _)); exact BK257.out) hb); have n1_ := Aside0.mk (blk_below (g := gb258) (o := .cells #[.int .i64 a2_0, .int .i64 a2_1, .int .i64 a2_2, .int .i64 a2_3, .int .i64 a2_4, .int .i64 a2_5, .bool a2_6, .int .i64 a2_7, .int .u32 a2_8, .int .u32 a2_9] 25 (0, 0)) (by (with_reducible repeat (first | refine blk_drewN ?_ _ | refine blk_drew ?_ | refine blk_alloc ?_ _)); exact BK258.out) hb); have n2_ := Aside0.mk (blk_below (g := gb270) (o := .cells #[.int .i64 t260, .int .i64 t261, .int .i64 t262, .int .i64 t263, .int .i64 t264, .int .i64 t265, .bool t266, .int .i64 t267, .int .u32 t268, .int .u32 t269] 25 (0, 0)) (by (with_reducible repeat (first | refine blk_drewN ?_ _ | refine blk_drew ?_ | refine blk_alloc ?_ _)); exact BK270.out) hb); have n3_ := Aside0.mk (below_step (by repeat (first | (with_reducible first | exact HB.out | apply below_alloc | apply pw_below_drewN | apply below_drew1 | refine below_set ?_ GE257.out | refine below_set ?_ GE258.out | refine below_set ?_ GE270.out) | exact HB.out)) hb); clear BK257; clear BK258; clear BK270; clear HB; have BK257 := n0_; have BK258 := n1_; have BK270 := n2_; have HB := n3_; clear n0_ n1_ n2_ n3_; (try clear hb); (try clear hb2); (try clear hk); (try clear hi); have hcz111_0 : w110.cell? ⟨gb257, 0, none⟩ = some (.int .i64 a1_0) := (blk_cell BK257.out 0).trans rfl; have hcz111_1 : w110.cell? ⟨gb257, 1, none⟩ = some (.int .i64 a1_1) := (blk_cell BK257.out 1).trans rfl; have hcz111_2 : w110.cell? ⟨gb257, 2, none⟩ = some (.int .i64 a1_2) := (blk_cell BK257.out 2).trans rfl; have hcz111_3 : w110.cell? ⟨gb257, 3, none⟩ = some (.int .i64 a1_3) := (blk_cell BK257.out 3).trans rfl; have hcz111_4 : w110.cell? ⟨gb257, 4, none⟩ = some (.int .i64 a1_4) := (blk_cell BK257.out 4).trans rfl; have hcz111_5 : w110.cell? ⟨gb257, 5, none⟩ = some (.int .i64 a1_5) := (blk_cell BK257.out 5).trans rfl; have hcz111_6 : w110.cell? ⟨gb257, 6, none⟩ = some (.bool a1_6) := (blk_cell BK257.out 6).trans rfl; have hcz111_7 : w110.cell? ⟨gb257, 7, none⟩ = some (.int .i64 a1_7) := (blk_cell BK257.out 7).trans rfl; have hcz111_8 : w110.cell? ⟨gb257, 8, none⟩ = some (.int .u32 a1_8) := (blk_cell BK257.out 8).trans rfl; have hcz111_9 : w110.cell? ⟨gb257, 9, none⟩ = some (.int .u32 a1_9) := (blk_cell BK257.out 9).trans rfl; have hfz111_0 := blk_frozen BK257.out 0; have hfz111_1 := blk_frozen BK257.out 1; have hfz111_2 := blk_frozen BK257.out 2; have hfz111_3 := blk_frozen BK257.out 3; have hfz111_4 := blk_frozen BK257.out 4; have hfz111_5 := blk_frozen BK257.out 5; have hfz111_6 := blk_frozen BK257.out 6; have hfz111_7 := blk_frozen BK257.out 7; have hfz111_8 := blk_frozen BK257.out 8; have hfz111_9 := blk_frozen BK257.out 9) | ((with_reducible refine gate_callee (f := 13) rfl ?_); refine goesL_ (some 47) rfl rfl Tryd.func13 (by kernel_rfl) rfl #[.agg #[.int .i64 a1_0, .int .i64 a1_1, .int .i64 a1_2, .int .i64 a1_3, .int .i64 a1_4, .int .i64 a1_5, .bool a1_6, .int .i64 a1_7, .int .u32 a1_8, .int .u32 a1_9]] rfl (by (try simp only [List.map_toArray, List.map_cons, List.map_nil]); first | done | rfl | (simp only [List.length_drop, List.length_take]; rfl)) ?_; (with_reducible refine (pointer_Valid.calls a1_0 a1_1 a1_2 a1_3 a1_4 a1_5 a1_6 a1_7 a1_8 a1_9 t278 _ ?side1 A36.out).mono ?_); (case side1 => exact Glob.below HG.out (by repeat (first | (with_reducible first | exact HB.out | apply below_alloc | apply pw_below_drewN | apply below_drew1 | refine below_set ?_ GE257.out | refine below_set ?_ GE258.out | refine below_set ?_ GE270.out) | exact HB.out))); rintro e w112 ⟨rfl, hb⟩; refine ⟨_, rfl, ?_⟩; have n0_ := Aside0.mk (blk_below (g := gb257) (o := .cells #[.int .i64 a1_0, .int .i64 a1_1, .int .i64 a1_2, .int .i64 a1_3, .int .i64 a1_4, .int .i64 a1_5, .bool a1_6, .int .i64 a1_7, .int .u32 a1_8, .int .u32 a1_9] 25 (0, 0)) (by (with_reducible repeat (first | refine blk_drewN ?_ _ | refine blk_drew ?_ | refine blk_alloc ?_ _)); exact BK257.out) hb); have n1_ := Aside0.mk (blk_below (g := gb258) (o := .cells #[.int .i64 a2_0, .int .i64 a2_1, .int .i64 a2_2, .int .i64 a2_3, .int .i64 a2_4, .int .i64 a2_5, .bool a2_6, .int .i64 a2_7, .int .u32 a2_8, .int .u32 a2_9] 25 (0, 0)) (by (with_reducible repeat (first | refine blk_drewN ?_ _ | refine blk_drew ?_ | refine blk_alloc ?_ _)); exact BK258.out) hb); have n2_ := Aside0.mk (blk_below (g := gb270) (o := .cells #[.int .i64 t260, .int .i64 t261, .int .i64 t262, .int .i64 t263, .int .i64 t264, .int .i64 t265, .bool t266, .int .i64 t267, .int .u32 t268, .int .u32 t269] 25 (0, 0)) (by (with_reducible repeat (first | refine blk_drewN ?_ _ | refine blk_drew ?_ | refine blk_alloc ?_ _)); exact BK270.out) hb); have n3_ := Aside0.mk (below_step (by repeat (first | (with_reducible first | exact HB.out | apply below_alloc | apply pw_below_drewN | apply below_drew1 | refine below_set ?_ GE257.out | refine below_set ?_ GE258.out | refine below_set ?_ GE270.out) | exact HB.out)) hb); clear BK257; clear BK258; clear BK270; clear HB; have BK257 := n0_; have BK258 := n1_; have BK270 := n2_; have HB := n3_; clear n0_ n1_ n2_ n3_; (try clear hb); (try clear hb2); (try clear hk); (try clear hi); have hcz113_0 : w112.cell? ⟨gb258, 0, none⟩ = some (.int .i64 a2_0) := (blk_cell BK258.out 0).trans rfl; have hcz113_1 : w112.cell? ⟨gb258, 1, none⟩ = some (.int .i64 a2_1) := (blk_cell BK258.out 1).trans rfl; have hcz113_2 : w112.cell? ⟨gb258, 2, none⟩ = some (.int .i64 a2_2) := (blk_cell BK258.out 2).trans rfl; have hcz113_3 : w112.cell? ⟨gb258, 3, none⟩ = some (.int .i64 a2_3) := (blk_cell BK258.out 3).trans rfl; have hcz113_4 : w112.cell? ⟨gb258, 4, none⟩ = some (.int .i64 a2_4) := (blk_cell BK258.out 4).trans rfl; have hcz113_5 : w112.cell? ⟨gb258, 5, none⟩ = some (.int .i64 a2_5) := (blk_cell BK258.out 5).trans rfl; have hcz113_6 : w112.cell? ⟨gb258, 6, none⟩ = some (.bool a2_6) := (blk_cell BK258.out 6).trans rfl; have hcz113_7 : w112.cell? ⟨gb258, 7, none⟩ = some (.int .i64 a2_7) := (blk_cell BK258.out 7).trans rfl; have hcz113_8 : w112.cell? ⟨gb258, 8, none⟩ = some (.int .u32 a2_8) := (blk_cell BK258.out 8).trans rfl; have hcz113_9 : w112.cell? ⟨gb258, 9, none⟩ = some (.int .u32 a2_9) := (blk_cell BK258.out 9).trans rfl; have hfz113_0 := blk_frozen BK258.out 0; have hfz113_1 := blk_frozen BK258.out 1; have hfz113_2 := blk_frozen BK258.out 2; have hfz113_3 := blk_frozen BK258.out 3; have hfz113_4 := blk_frozen BK258.out 4; have hfz113_5 := blk_frozen BK258.out 5; have hfz113_6 := blk_frozen BK258.out 6; have hfz113_7 := blk_frozen BK258.out 7; have hfz113_8 := blk_frozen BK258.out 8; have hfz113_9 := blk_frozen BK258.out 9) | (go_at_call 13; (with_reducible refine (pointer_Valid.calls a2_0 a2_1 a2_2 a2_3 a2_4 a2_5 a2_6 a2_7 a2_8 a2_9 t279 _ ?side1 A47.out).mono ?_); (case side1 => exact Glob.below HG.out (by repeat (first | (with_reducible first | exact HB.out | apply below_alloc | apply pw_below_drewN | apply below_drew1 | refine below_set ?_ GE257.out | refine below_set ?_ GE258.out | refine below_set ?_ GE270.out) | exact HB.out))); rintro e w114 ⟨rfl, hb⟩; have n0_ := Aside0.mk (blk_below (g := gb257) (o := .cells #[.int .i64 a1_0, .int .i64 a1_1, .int .i64 a1_2, .int .i64 a1_3, .int .i64 a1_4, .int .i64 a1_5, .bool a1_6, .int .i64 a1_7, .int .u32 a1_8, .int .u32 a1_9] 25 (0, 0)) (by (with_reducible repeat (first | refine blk_drewN ?_ _ | refine blk_drew ?_ | refine blk_alloc ?_ _)); exact BK257.out) hb); have n1_ := Aside0.mk (blk_below (g := gb258) (o := .cells #[.int .i64 a2_0, .int .i64 a2_1, .int .i64 a2_2, .int .i64 a2_3, .int .i64 a2_4, .int .i64 a2_5, .bool a2_6, .int .i64 a2_7, .int .u32 a2_8, .int .u32 a2_9] 25 (0, 0)) (by (with_reducible repeat (first | refine blk_drewN ?_ _ | refine blk_drew ?_ | refine blk_alloc ?_ _)); exact BK258.out) hb); have n2_ := Aside0.mk (blk_below (g := gb270) (o := .cells #[.int .i64 t260, .int .i64 t261, .int .i64 t262, .int .i64 t263, .int .i64 t264, .int .i64 t265, .bool t266, .int .i64 t267, .int .u32 t268, .int .u32 t269] 25 (0, 0)) (by (with_reducible repeat (first | refine blk_drewN ?_ _ | refine blk_drew ?_ | refine blk_alloc ?_ _)); exact BK270.out) hb); have n3_ := Aside0.mk (below_step (by repeat (first | (with_reducible first | exact HB.out | apply below_alloc | apply pw_below_drewN | apply below_drew1 | refine below_set ?_ GE257.out | refine below_set ?_ GE258.out | refine below_set ?_ GE270.out) | exact HB.out)) hb); clear BK257; clear BK258; clear BK270; clear HB; have BK257 := n0_; have BK258 := n1_; have BK270 := n2_; have HB := n3_; clear n0_ n1_ n2_ n3_; (try clear hb); (try clear hb2); (try clear hk); (try clear hi)))
                  have n0_ := Aside0.mk (blk_drew BK257.out)
                  have n1_ := Aside0.mk (blk_drew BK258.out)
                  have n2_ := Aside0.mk (blk_drew BK270.out)
                  have n3_ := Aside0.mk (below_drew1 HB.out)
                  clear BK257
                  clear BK258
                  clear BK270
                  clear HB
                  have BK257 := n0_
                  have BK258 := n1_
                  have BK270 := n2_
                  have HB := n3_
                  clear n0_ n1_ n2_ n3_
                  refine start_ (n := 26) (S := fun w' => True) (ds := []) #[false, false, false, false, false, false, false, false, false, false, false, false, false, false, false, false, false, false, false, false, false, false, false, false, false, false] (by kernel_rfl) rfl rfl trivial (fun hHeld => ?_); refine with_tabW capnplaw02_PointerRoundTrip.tab11 capnplaw02_PointerRoundTrip.bits11 (fun HT_ HW_ => ?_)
                  generalize w114.drew = w115 at BK257 BK258 BK270 HB hHeld ⊢
                  refine pure_ (i := 0) (N := some 63) (v := ?_) (a' := ?_) #[true, false, false, false, false, false, false, false, false, false, false, false, false, false, false, false, false, false, false, false, false, false, false, false, false, false] rfl rfl (any_of HT_.out (by kernel_rfl)) (fun _ _ _ h => h) (Or.inl ⟨by rfl, ?_⟩) ?_ ?_
                  rotate_left
                  · intro w'
                    go_simp
                    with_reducible rfl
                  rotate_left
                  · simp only [Act.put, List.setIfInBounds_toArray, List.set_cons_zero, List.set_cons_succ, i64_w, i32_w]
                    rfl
                  refine pure_ (i := 1) (N := some 64) (v := ?_) (a' := ?_) #[true, true, false, false, false, false, false, false, false, false, false, false, false, false, false, false, false, false, false, false, false, false, false, false, false, false] rfl rfl (any_of HT_.out (by kernel_rfl)) (fun _ _ _ h => h) (Or.inl ⟨by rfl, ?_⟩) ?_ ?_
                  rotate_left
                  · intro w'
                    go_simp
                    with_reducible rfl
                  rotate_left
                  · simp only [Act.put, List.setIfInBounds_toArray, List.set_cons_zero, List.set_cons_succ, i64_w, i32_w]
                    rfl
                  refine pure_ (i := 2) (N := some 65) (v := ?_) (a' := ?_) #[true, true, true, false, false, false, false, false, false, false, false, false, false, false, false, false, false, false, false, false, false, false, false, false, false, false] rfl rfl (any_of HT_.out (by kernel_rfl)) (fun _ _ _ h => h) (Or.inl ⟨by rfl, ?_⟩) ?_ ?_
                  rotate_left
                  · intro w'
                    go_simp
                    with_reducible rfl
                  rotate_left
                  · simp only [Act.put, List.setIfInBounds_toArray, List.set_cons_zero, List.set_cons_succ, i64_w, i32_w]
                    rfl
                  refine pure_ (i := 3) (N := some 66) (v := undef) (a' := ?_) #[true, true, true, true, false, false, false, false, false, false, false, false, false, false, false, false, false, false, false, false, false, false, false, false, false, false] rfl rfl (any_of HT_.out (by kernel_rfl)) (fun _ _ _ h => h) (Or.inr ⟨by rfl, rfl⟩) ?_ ?_
                  rotate_left
                  · simp only [Act.put, List.setIfInBounds_toArray, List.set_cons_zero, List.set_cons_succ, i64_w, i32_w]
                    rfl
                  refine pure_ (i := 4) (N := some 67) (v := undef) (a' := ?_) #[true, true, true, true, true, false, false, false, false, false, false, false, false, false, false, false, false, false, false, false, false, false, false, false, false, false] rfl rfl (any_of HT_.out (by kernel_rfl)) (fun _ _ _ h => h) (Or.inr ⟨by rfl, rfl⟩) ?_ ?_
                  rotate_left
                  · simp only [Act.put, List.setIfInBounds_toArray, List.set_cons_zero, List.set_cons_succ, i64_w, i32_w]
                    rfl
                  refine pure_ (i := 5) (N := some 68) (v := undef) (a' := ?_) #[true, true, true, true, true, true, false, false, false, false, false, false, false, false, false, false, false, false, false, false, false, false, false, false, false, false] rfl rfl (any_of HT_.out (by kernel_rfl)) (fun _ _ _ h => h) (Or.inr ⟨by rfl, rfl⟩) ?_ ?_
                  rotate_left
                  · simp only [Act.put, List.setIfInBounds_toArray, List.set_cons_zero, List.set_cons_succ, i64_w, i32_w]
                    rfl
                  refine pure_ (i := 6) (N := some 69) (v := undef) (a' := ?_) #[true, true, true, true, true, true, true, false, false, false, false, false, false, false, false, false, false, false, false, false, false, false, false, false, false, false] rfl rfl (any_of HT_.out (by kernel_rfl)) (fun _ _ _ h => h) (Or.inr ⟨by rfl, rfl⟩) ?_ ?_
                  rotate_left
                  · simp only [Act.put, List.setIfInBounds_toArray, List.set_cons_zero, List.set_cons_succ, i64_w, i32_w]
                    rfl
                  refine pure_ (i := 7) (N := some 70) (v := ?_) (a' := ?_) #[true, true, true, true, true, true, true, true, false, false, false, false, false, false, false, false, false, false, false, false, false, false, false, false, false, false] rfl rfl (any_of HT_.out (by kernel_rfl)) (fun _ _ _ h => h) (Or.inl ⟨by rfl, ?_⟩) ?_ ?_
                  rotate_left
                  · intro w'
                    go_simp
                    with_reducible rfl
                  rotate_left
                  · simp only [Act.put, List.setIfInBounds_toArray, List.set_cons_zero, List.set_cons_succ, i64_w, i32_w]
                    rfl
                  refine pure_ (i := 8) (N := some 71) (v := ?_) (a' := ?_) #[true, true, true, true, true, true, true, true, true, false, false, false, false, false, false, false, false, false, false, false, false, false, false, false, false, false] rfl rfl (any_of HT_.out (by kernel_rfl)) (fun _ _ _ h => h) (Or.inl ⟨by rfl, ?_⟩) ?_ ?_
                  rotate_left
                  · intro w'
                    go_simp
                    with_reducible rfl
                  rotate_left
                  · simp only [Act.put, List.setIfInBounds_toArray, List.set_cons_zero, List.set_cons_succ, i64_w, i32_w]
                    rfl
                  refine pure_ (i := 9) (N := some 72) (v := ?_) (a' := ?_) #[true, true, true, true, true, true, true, true, true, true, false, false, false, false, false, false, false, false, false, false, false, false, false, false, false, false] rfl rfl (any_of HT_.out (by kernel_rfl)) (fun _ _ _ h => h) (Or.inl ⟨by rfl, ?_⟩) ?_ ?_
                  rotate_left
                  · intro w'
                    go_simp
                    with_reducible rfl
                  rotate_left
                  · simp only [Act.put, List.setIfInBounds_toArray, List.set_cons_zero, List.set_cons_succ, i64_w, i32_w]
                    rfl
                  refine pure_ (i := 10) (N := some 73) (v := ?_) (a' := ?_) #[true, true, true, true, true, true, true, true, true, true, true, false, false, false, false, false, false, false, false, false, false, false, false, false, false, false] rfl rfl (any_of HT_.out (by kernel_rfl)) (fun _ _ _ h => h) (Or.inl ⟨by rfl, ?_⟩) ?_ ?_
                  rotate_left
                  · intro w'
                    go_simp
                    with_reducible rfl
                  rotate_left
                  · simp only [Act.put, List.setIfInBounds_toArray, List.set_cons_zero, List.set_cons_succ, i64_w, i32_w]
                    rfl
                  refine pure_ (i := 11) (N := some 74) (v := ?_) (a' := ?_) #[true, true, true, true, true, true, true, true, true, true, true, true, false, false, false, false, false, false, false, false, false, false, false, false, false, false] rfl rfl (any_of HT_.out (by kernel_rfl)) (fun _ _ _ h => h) (Or.inl ⟨by rfl, ?_⟩) ?_ ?_
                  rotate_left
                  · intro w'
                    go_simp
                    with_reducible rfl
                  rotate_left
                  · simp only [Act.put, List.setIfInBounds_toArray, List.set_cons_zero, List.set_cons_succ, i64_w, i32_w]
                    rfl
                  refine pure_ (i := 12) (N := some 75) (v := undef) (a' := ?_) #[true, true, true, true, true, true, true, true, true, true, true, true, true, false, false, false, false, false, false, false, false, false, false, false, false, false] rfl rfl (any_of HT_.out (by kernel_rfl)) (fun _ _ _ h => h) (Or.inr ⟨by rfl, rfl⟩) ?_ ?_
                  rotate_left
                  · simp only [Act.put, List.setIfInBounds_toArray, List.set_cons_zero, List.set_cons_succ, i64_w, i32_w]
                    rfl
                  refine pure_ (i := 13) (N := some 76) (v := undef) (a' := ?_) #[true, true, true, true, true, true, true, true, true, true, true, true, true, true, false, false, false, false, false, false, false, false, false, false, false, false] rfl rfl (any_of HT_.out (by kernel_rfl)) (fun _ _ _ h => h) (Or.inr ⟨by rfl, rfl⟩) ?_ ?_
                  rotate_left
                  · simp only [Act.put, List.setIfInBounds_toArray, List.set_cons_zero, List.set_cons_succ, i64_w, i32_w]
                    rfl
                  refine pure_ (i := 14) (N := some 77) (v := ?_) (a' := ?_) #[true, true, true, true, true, true, true, true, true, true, true, true, true, true, true, false, false, false, false, false, false, false, false, false, false, false] rfl rfl (any_of HT_.out (by kernel_rfl)) (fun _ _ _ h => h) (Or.inl ⟨by rfl, ?_⟩) ?_ ?_
                  rotate_left
                  · intro w'
                    go_simp
                    with_reducible rfl
                  rotate_left
                  · simp only [Act.put, List.setIfInBounds_toArray, List.set_cons_zero, List.set_cons_succ, i64_w, i32_w]
                    rfl
                  refine pure_ (i := 15) (N := some 78) (v := ?_) (a' := ?_) #[true, true, true, true, true, true, true, true, true, true, true, true, true, true, true, true, false, false, false, false, false, false, false, false, false, false] rfl rfl (any_of HT_.out (by kernel_rfl)) (fun _ _ _ h => h) (Or.inl ⟨by rfl, ?_⟩) ?_ ?_
                  rotate_left
                  · intro w'
                    go_simp
                    with_reducible rfl
                  rotate_left
                  · simp only [Act.put, List.setIfInBounds_toArray, List.set_cons_zero, List.set_cons_succ, i64_w, i32_w]
                    rfl
                  refine pure_ (i := 16) (N := some 79) (v := undef) (a' := ?_) #[true, true, true, true, true, true, true, true, true, true, true, true, true, true, true, true, true, false, false, false, false, false, false, false, false, false] rfl rfl (any_of HT_.out (by kernel_rfl)) (fun _ _ _ h => h) (Or.inr ⟨by rfl, rfl⟩) ?_ ?_
                  rotate_left
                  · simp only [Act.put, List.setIfInBounds_toArray, List.set_cons_zero, List.set_cons_succ, i64_w, i32_w]
                    rfl
                  refine pure_ (i := 17) (N := some 80) (v := undef) (a' := ?_) #[true, true, true, true, true, true, true, true, true, true, true, true, true, true, true, true, true, true, false, false, false, false, false, false, false, false] rfl rfl (any_of HT_.out (by kernel_rfl)) (fun _ _ _ h => h) (Or.inr ⟨by rfl, rfl⟩) ?_ ?_
                  rotate_left
                  · simp only [Act.put, List.setIfInBounds_toArray, List.set_cons_zero, List.set_cons_succ, i64_w, i32_w]
                    rfl
                  refine pure_ (i := 18) (N := some 81) (v := undef) (a' := ?_) #[true, true, true, true, true, true, true, true, true, true, true, true, true, true, true, true, true, true, true, false, false, false, false, false, false, false] rfl rfl (any_of HT_.out (by kernel_rfl)) (fun _ _ _ h => h) (Or.inr ⟨by rfl, rfl⟩) ?_ ?_
                  rotate_left
                  · simp only [Act.put, List.setIfInBounds_toArray, List.set_cons_zero, List.set_cons_succ, i64_w, i32_w]
                    rfl
                  refine pure_ (i := 19) (N := some 82) (v := undef) (a' := ?_) #[true, true, true, true, true, true, true, true, true, true, true, true, true, true, true, true, true, true, true, true, false, false, false, false, false, false] rfl rfl (any_of HT_.out (by kernel_rfl)) (fun _ _ _ h => h) (Or.inr ⟨by rfl, rfl⟩) ?_ ?_
                  rotate_left
                  · simp only [Act.put, List.setIfInBounds_toArray, List.set_cons_zero, List.set_cons_succ, i64_w, i32_w]
                    rfl
                  refine pure_ (i := 20) (N := some 83) (v := undef) (a' := ?_) #[true, true, true, true, true, true, true, true, true, true, true, true, true, true, true, true, true, true, true, true, true, false, false, false, false, false] rfl rfl (any_of HT_.out (by kernel_rfl)) (fun _ _ _ h => h) (Or.inr ⟨by rfl, rfl⟩) ?_ ?_
                  rotate_left
                  · simp only [Act.put, List.setIfInBounds_toArray, List.set_cons_zero, List.set_cons_succ, i64_w, i32_w]
                    rfl
                  refine pure_ (i := 21) (N := some 84) (v := undef) (a' := ?_) #[true, true, true, true, true, true, true, true, true, true, true, true, true, true, true, true, true, true, true, true, true, true, false, false, false, false] rfl rfl (any_of HT_.out (by kernel_rfl)) (fun _ _ _ h => h) (Or.inr ⟨by rfl, rfl⟩) ?_ ?_
                  rotate_left
                  · simp only [Act.put, List.setIfInBounds_toArray, List.set_cons_zero, List.set_cons_succ, i64_w, i32_w]
                    rfl
                  refine pure_ (i := 22) (N := some 85) (v := undef) (a' := ?_) #[true, true, true, true, true, true, true, true, true, true, true, true, true, true, true, true, true, true, true, true, true, true, true, false, false, false] rfl rfl (any_of HT_.out (by kernel_rfl)) (fun _ _ _ h => h) (Or.inr ⟨by rfl, rfl⟩) ?_ ?_
                  rotate_left
                  · simp only [Act.put, List.setIfInBounds_toArray, List.set_cons_zero, List.set_cons_succ, i64_w, i32_w]
                    rfl
                  refine pure_ (i := 23) (N := some 86) (v := ?_) (a' := ?_) #[true, true, true, true, true, true, true, true, true, true, true, true, true, true, true, true, true, true, true, true, true, true, true, true, false, false] rfl rfl (any_of HT_.out (by kernel_rfl)) (fun _ _ _ h => h) (Or.inl ⟨by rfl, ?_⟩) ?_ ?_
                  rotate_left
                  · intro w'
                    go_simp
                    with_reducible rfl
                  rotate_left
                  · simp only [Act.put, List.setIfInBounds_toArray, List.set_cons_zero, List.set_cons_succ, i64_w, i32_w]
                    rfl
                  refine pure_ (i := 24) (N := some 87) (v := ?_) (a' := ?_) #[true, true, true, true, true, true, true, true, true, true, true, true, true, true, true, true, true, true, true, true, true, true, true, true, true, false] rfl rfl (any_of HT_.out (by kernel_rfl)) (fun _ _ _ h => h) (Or.inl ⟨by rfl, ?_⟩) ?_ ?_
                  rotate_left
                  · intro w'
                    go_simp
                    with_reducible rfl
                  rotate_left
                  · simp only [Act.put, List.setIfInBounds_toArray, List.set_cons_zero, List.set_cons_succ, i64_w, i32_w]
                    rfl
                  refine pure_ (i := 25) (N := some 6) (v := ?_) (a' := ?_) #[true, true, true, true, true, true, true, true, true, true, true, true, true, true, true, true, true, true, true, true, true, true, true, true, true, true] rfl rfl (any_of HT_.out (by kernel_rfl)) (fun _ _ _ h => h) (Or.inl ⟨by rfl, ?_⟩) ?_ ?_
                  rotate_left
                  · intro w'
                    go_simp
                    with_reducible rfl
                  rotate_left
                  · simp only [Act.put, List.setIfInBounds_toArray, List.set_cons_zero, List.set_cons_succ, i64_w, i32_w]
                    rfl
                  refine done_ (done_of HT_.out (by kernel_rfl)) ?_
                  try go_wp2
                  go_ret
                  exact ⟨by first | rfl | (simp [errW_none, errW_some] <;> rfl) | (simp [*, errW_none, errW_some] <;> rfl), by repeat (first | (with_reducible first | exact HB.out | apply below_alloc | apply pw_below_drewN | apply below_drew1 | refine below_set ?_ GE257.out | refine below_set ?_ GE258.out | refine below_set ?_ GE270.out) | exact HB.out)⟩
                · rw [if_neg c103] at H
                  have c103b0 : (t274 == 0) = false := beq_eq_false_iff_ne.mpr c103
                  have c103b1 : (t274 != 0) = true := bne_iff_ne.mpr c103
                  obtain rfl := Option.some.inj H
                  have hnb116 := NB257_258.out
                  have hnc116 := NB258_257.out
                  have hnb117 := NB257_270.out
                  have hnc117 := NB270_257.out
                  have hcz118_0 : wc.cell? ⟨gb257, 0, none⟩ = some (.int .i64 a1_0) := (blk_cell BK257.out 0).trans rfl
                  have hcz118_1 : wc.cell? ⟨gb257, 1, none⟩ = some (.int .i64 a1_1) := (blk_cell BK257.out 1).trans rfl
                  have hcz118_2 : wc.cell? ⟨gb257, 2, none⟩ = some (.int .i64 a1_2) := (blk_cell BK257.out 2).trans rfl
                  have hcz118_3 : wc.cell? ⟨gb257, 3, none⟩ = some (.int .i64 a1_3) := (blk_cell BK257.out 3).trans rfl
                  have hcz118_4 : wc.cell? ⟨gb257, 4, none⟩ = some (.int .i64 a1_4) := (blk_cell BK257.out 4).trans rfl
                  have hcz118_5 : wc.cell? ⟨gb257, 5, none⟩ = some (.int .i64 a1_5) := (blk_cell BK257.out 5).trans rfl
                  have hcz118_6 : wc.cell? ⟨gb257, 6, none⟩ = some (.bool a1_6) := (blk_cell BK257.out 6).trans rfl
                  have hcz118_7 : wc.cell? ⟨gb257, 7, none⟩ = some (.int .i64 a1_7) := (blk_cell BK257.out 7).trans rfl
                  have hcz118_8 : wc.cell? ⟨gb257, 8, none⟩ = some (.int .u32 a1_8) := (blk_cell BK257.out 8).trans rfl
                  have hcz118_9 : wc.cell? ⟨gb257, 9, none⟩ = some (.int .u32 a1_9) := (blk_cell BK257.out 9).trans rfl
                  have hfz118_0 := blk_frozen BK257.out 0
                  have hfz118_1 := blk_frozen BK257.out 1
                  have hfz118_2 := blk_frozen BK257.out 2
                  have hfz118_3 := blk_frozen BK257.out 3
                  have hfz118_4 := blk_frozen BK257.out 4
                  have hfz118_5 := blk_frozen BK257.out 5
                  have hfz118_6 := blk_frozen BK257.out 6
                  have hfz118_7 := blk_frozen BK257.out 7
                  have hfz118_8 := blk_frozen BK257.out 8
                  have hfz118_9 := blk_frozen BK257.out 9
                  go_wp2_with (first | ((with_reducible refine gate_callee (f := 9) rfl ?_); refine goesL_ (some 37) rfl rfl Tryd.func9 (by kernel_rfl) rfl #[.agg #[.int .i64 a1_0, .int .i64 a1_1, .int .i64 a1_2, .int .i64 a1_3, .int .i64 a1_4, .int .i64 a1_5, .bool a1_6, .int .i64 a1_7, .int .u32 a1_8, .int .u32 a1_9]] rfl (by (try simp only [List.map_toArray, List.map_cons, List.map_nil]); first | done | rfl | (simp only [List.length_drop, List.length_take]; rfl)) ?_; (with_reducible refine (pointer_Encode.calls a1_0 a1_1 a1_2 a1_3 a1_4 a1_5 a1_6 a1_7 a1_8 a1_9 t274 false _ ?side1 A34.out).mono ?_); (case side1 => exact Glob.below HG.out (by repeat (first | (with_reducible first | exact HB.out | apply below_alloc | apply pw_below_drewN | apply below_drew1 | refine below_set ?_ GE257.out | refine below_set ?_ GE258.out | refine below_set ?_ GE270.out) | exact HB.out))); rintro e w119 ⟨rfl, hb⟩; refine ⟨_, rfl, ?_⟩; have n0_ := Aside0.mk (blk_below (g := gb257) (o := .cells #[.int .i64 a1_0, .int .i64 a1_1, .int .i64 a1_2, .int .i64 a1_3, .int .i64 a1_4, .int .i64 a1_5, .bool a1_6, .int .i64 a1_7, .int .u32 a1_8, .int .u32 a1_9] 25 (0, 0)) (by (with_reducible repeat (first | refine blk_drewN ?_ _ | refine blk_drew ?_ | refine blk_alloc ?_ _)); exact BK257.out) hb); have n1_ := Aside0.mk (blk_below (g := gb258) (o := .cells #[.int .i64 a2_0, .int .i64 a2_1, .int .i64 a2_2, .int .i64 a2_3, .int .i64 a2_4, .int .i64 a2_5, .bool a2_6, .int .i64 a2_7, .int .u32 a2_8, .int .u32 a2_9] 25 (0, 0)) (by (with_reducible repeat (first | refine blk_drewN ?_ _ | refine blk_drew ?_ | refine blk_alloc ?_ _)); exact BK258.out) hb); have n2_ := Aside0.mk (blk_below (g := gb270) (o := .cells #[.int .i64 t260, .int .i64 t261, .int .i64 t262, .int .i64 t263, .int .i64 t264, .int .i64 t265, .bool t266, .int .i64 t267, .int .u32 t268, .int .u32 t269] 25 (0, 0)) (by (with_reducible repeat (first | refine blk_drewN ?_ _ | refine blk_drew ?_ | refine blk_alloc ?_ _)); exact BK270.out) hb); have n3_ := Aside0.mk (below_step (by repeat (first | (with_reducible first | exact HB.out | apply below_alloc | apply pw_below_drewN | apply below_drew1 | refine below_set ?_ GE257.out | refine below_set ?_ GE258.out | refine below_set ?_ GE270.out) | exact HB.out)) hb); clear BK257; clear BK258; clear BK270; clear HB; have BK257 := n0_; have BK258 := n1_; have BK270 := n2_; have HB := n3_; clear n0_ n1_ n2_ n3_; (try clear hb); (try clear hb2); (try clear hk); (try clear hi); have hnb120 := NB258_270.out; have hnc120 := NB270_258.out; have hcz121_0 : w119.cell? ⟨gb258, 0, none⟩ = some (.int .i64 a2_0) := (blk_cell BK258.out 0).trans rfl; have hcz121_1 : w119.cell? ⟨gb258, 1, none⟩ = some (.int .i64 a2_1) := (blk_cell BK258.out 1).trans rfl; have hcz121_2 : w119.cell? ⟨gb258, 2, none⟩ = some (.int .i64 a2_2) := (blk_cell BK258.out 2).trans rfl; have hcz121_3 : w119.cell? ⟨gb258, 3, none⟩ = some (.int .i64 a2_3) := (blk_cell BK258.out 3).trans rfl; have hcz121_4 : w119.cell? ⟨gb258, 4, none⟩ = some (.int .i64 a2_4) := (blk_cell BK258.out 4).trans rfl; have hcz121_5 : w119.cell? ⟨gb258, 5, none⟩ = some (.int .i64 a2_5) := (blk_cell BK258.out 5).trans rfl; have hcz121_6 : w119.cell? ⟨gb258, 6, none⟩ = some (.bool a2_6) := (blk_cell BK258.out 6).trans rfl; have hcz121_7 : w119.cell? ⟨gb258, 7, none⟩ = some (.int .i64 a2_7) := (blk_cell BK258.out 7).trans rfl; have hcz121_8 : w119.cell? ⟨gb258, 8, none⟩ = some (.int .u32 a2_8) := (blk_cell BK258.out 8).trans rfl; have hcz121_9 : w119.cell? ⟨gb258, 9, none⟩ = some (.int .u32 a2_9) := (blk_cell BK258.out 9).trans rfl; have hfz121_0 := blk_frozen BK258.out 0; have hfz121_1 := blk_frozen BK258.out 1; have hfz121_2 := blk_frozen BK258.out 2; have hfz121_3 := blk_frozen BK258.out 3; have hfz121_4 := blk_frozen BK258.out 4; have hfz121_5 := blk_frozen BK258.out 5; have hfz121_6 := blk_frozen BK258.out 6; have hfz121_7 := blk_frozen BK258.out 7; have hfz121_8 := blk_frozen BK258.out 8; have hfz121_9 := blk_frozen BK258.out 9) | ((with_reducible refine gate_callee (f := 9) rfl ?_); refine goesL_ (some 42) rfl rfl Tryd.func9 (by kernel_rfl) rfl #[.agg #[.int .i64 a2_0, .int .i64 a2_1, .int .i64 a2_2, .int .i64 a2_3, .int .i64 a2_4, .int .i64 a2_5, .bool a2_6, .int .i64 a2_7, .int .u32 a2_8, .int .u32 a2_9]] rfl (by (try simp only [List.map_toArray, List.map_cons, List.map_nil]); first | done | rfl | (simp only [List.length_drop, List.length_take]; rfl)) ?_; (with_reducible refine (pointer_Encode.calls a2_0 a2_1 a2_2 a2_3 a2_4 a2_5 a2_6 a2_7 a2_8 a2_9 t276 t277 _ ?side1 A35.out).mono ?_); (case side1 => exact Glob.below HG.out (by repeat (first | (with_reducible first | exact HB.out | apply below_alloc | apply pw_below_drewN | apply below_drew1 | refine below_set ?_ GE257.out | refine below_set ?_ GE258.out | refine below_set ?_ GE270.out) | exact HB.out))); rintro e w122 ⟨rfl, hb⟩; refine ⟨_, rfl, ?_⟩; have n0_ := Aside0.mk (blk_below (g := gb257) (o := .cells #[.int .i64 a1_0, .int .i64 a1_1, .int .i64 a1_2, .int .i64 a1_3, .int .i64 a1_4, .int .i64 a1_5, .bool a1_6, .int .i64 a1_7, .int .u32 a1_8, .int .u32 a1_9] 25 (0, 0)) (by (with_reducible repeat (first | refine blk_drewN ?_ _ | refine blk_drew ?_ | refine blk_alloc ?_ _)); exact BK257.out) hb); have n1_ := Aside0.mk (blk_below (g := gb258) (o := .cells #[.int .i64 a2_0, .int .i64 a2_1, .int .i64 a2_2, .int .i64 a2_3, .int .i64 a2_4, .int .i64 a2_5, .bool a2_6, .int .i64 a2_7, .int .u32 a2_8, .int .u32 a2_9] 25 (0, 0)) (by (with_reducible repeat (first | refine blk_drewN ?_ _ | refine blk_drew ?_ | refine blk_alloc ?_ _)); exact BK258.out) hb); have n2_ := Aside0.mk (blk_below (g := gb270) (o := .cells #[.int .i64 t260, .int .i64 t261, .int .i64 t262, .int .i64 t263, .int .i64 t264, .int .i64 t265, .bool t266, .int .i64 t267, .int .u32 t268, .int .u32 t269] 25 (0, 0)) (by (with_reducible repeat (first | refine blk_drewN ?_ _ | refine blk_drew ?_ | refine blk_alloc ?_ _)); exact BK270.out) hb); have n3_ := Aside0.mk (below_step (by repeat (first | (with_reducible first | exact HB.out | apply below_alloc | apply pw_below_drewN | apply below_drew1 | refine below_set ?_ GE257.out | refine below_set ?_ GE258.out | refine below_set ?_ GE270.out) | exact HB.out)) hb); clear BK257; clear BK258; clear BK270; clear HB; have BK257 := n0_; have BK258 := n1_; have BK270 := n2_; have HB := n3_; clear n0_ n1_ n2_ n3_; (try clear hb); (try clear hb2); (try clear hk); (try clear hi); have hcz123_0 : w122.cell? ⟨gb257, 0, none⟩ = some (.int .i64 a1_0) := (blk_cell BK257.out 0).trans rfl; have hcz123_1 : w122.cell? ⟨gb257, 1, none⟩ = some (.int .i64 a1_1) := (blk_cell BK257.out 1).trans rfl; have hcz123_2 : w122.cell? ⟨gb257, 2, none⟩ = some (.int .i64 a1_2) := (blk_cell BK257.out 2).trans rfl; have hcz123_3 : w122.cell? ⟨gb257, 3, none⟩ = some (.int .i64 a1_3) := (blk_cell BK257.out 3).trans rfl; have hcz123_4 : w122.cell? ⟨gb257, 4, none⟩ = some (.int .i64 a1_4) := (blk_cell BK257.out 4).trans rfl; have hcz123_5 : w122.cell? ⟨gb257, 5, none⟩ = some (.int .i64 a1_5) := (blk_cell BK257.out 5).trans rfl; have hcz123_6 : w122.cell? ⟨gb257, 6, none⟩ = some (.bool a1_6) := (blk_cell BK257.out 6).trans rfl; have hcz123_7 : w122.cell? ⟨gb257, 7, none⟩ = some (.int .i64 a1_7) := (blk_cell BK257.out 7).trans rfl; have hcz123_8 : w122.cell? ⟨gb257, 8, none⟩ = some (.int .u32 a1_8) := (blk_cell BK257.out 8).trans rfl; have hcz123_9 : w122.cell? ⟨gb257, 9, none⟩ = some (.int .u32 a1_9) := (blk_cell BK257.out 9).trans rfl; have hfz123_0 := blk_frozen BK257.out 0; have hfz123_1 := blk_frozen BK257.out 1; have hfz123_2 := blk_frozen BK257.out 2; have hfz123_3 := blk_frozen BK257.out 3; have hfz123_4 := blk_frozen BK257.out 4; have hfz123_5 := blk_frozen BK257.out 5; have hfz123_6 := blk_frozen BK257.out 6; have hfz123_7 := blk_frozen BK257.out 7; have hfz123_8 := blk_frozen BK257.out 8; have hfz123_9 := blk_frozen BK257.out 9) | ((with_reducible refine gate_callee (f := 13) rfl ?_); refine goesL_ (some 47) rfl rfl Tryd.func13 (by kernel_rfl) rfl #[.agg #[.int .i64 a1_0, .int .i64 a1_1, .int .i64 a1_2, .int .i64 a1_3, .int .i64 a1_4, .int .i64 a1_5, .bool a1_6, .int .i64 a1_7, .int .u32 a1_8, .int .u32 a1_9]] rfl (by (try simp only [List.map_toArray, List.map_cons, List.map_nil]); first | done | rfl | (simp only [List.length_drop, List.length_take]; rfl)) ?_; (with_reducible refine (pointer_Valid.calls a1_0 a1_1 a1_2 a1_3 a1_4 a1_5 a1_6 a1_7 a1_8 a1_9 t278 _ ?side1 A36.out).mono ?_); (case side1 => exact Glob.below HG.out (by repeat (first | (with_reducible first | exact HB.out | apply below_alloc | apply pw_below_drewN | apply below_drew1 | refine below_set ?_ GE257.out | refine below_set ?_ GE258.out | refine below_set ?_ GE270.out) | exact HB.out))); rintro e w124 ⟨rfl, hb⟩; refine ⟨_, rfl, ?_⟩; have n0_ := Aside0.mk (blk_below (g := gb257) (o := .cells #[.int .i64 a1_0, .int .i64 a1_1, .int .i64 a1_2, .int .i64 a1_3, .int .i64 a1_4, .int .i64 a1_5, .bool a1_6, .int .i64 a1_7, .int .u32 a1_8, .int .u32 a1_9] 25 (0, 0)) (by (with_reducible repeat (first | refine blk_drewN ?_ _ | refine blk_drew ?_ | refine blk_alloc ?_ _)); exact BK257.out) hb); have n1_ := Aside0.mk (blk_below (g := gb258) (o := .cells #[.int .i64 a2_0, .int .i64 a2_1, .int .i64 a2_2, .int .i64 a2_3, .int .i64 a2_4, .int .i64 a2_5, .bool a2_6, .int .i64 a2_7, .int .u32 a2_8, .int .u32 a2_9] 25 (0, 0)) (by (with_reducible repeat (first | refine blk_drewN ?_ _ | refine blk_drew ?_ | refine blk_alloc ?_ _)); exact BK258.out) hb); have n2_ := Aside0.mk (blk_below (g := gb270) (o := .cells #[.int .i64 t260, .int .i64 t261, .int .i64 t262, .int .i64 t263, .int .i64 t264, .int .i64 t265, .bool t266, .int .i64 t267, .int .u32 t268, .int .u32 t269] 25 (0, 0)) (by (with_reducible repeat (first | refine blk_drewN ?_ _ | refine blk_drew ?_ | refine blk_alloc ?_ _)); exact BK270.out) hb); have n3_ := Aside0.mk (below_step (by repeat (first | (with_reducible first | exact HB.out | apply below_alloc | apply pw_below_drewN | apply below_drew1 | refine below_set ?_ GE257.out | refine below_set ?_ GE258.out | refine below_set ?_ GE270.out) | exact HB.out)) hb); clear BK257; clear BK258; clear BK270; clear HB; have BK257 := n0_; have BK258 := n1_; have BK270 := n2_; have HB := n3_; clear n0_ n1_ n2_ n3_; (try clear hb); (try clear hb2); (try clear hk); (try clear hi); have hcz125_0 : w124.cell? ⟨gb258, 0, none⟩ = some (.int .i64 a2_0) := (blk_cell BK258.out 0).trans rfl; have hcz125_1 : w124.cell? ⟨gb258, 1, none⟩ = some (.int .i64 a2_1) := (blk_cell BK258.out 1).trans rfl; have hcz125_2 : w124.cell? ⟨gb258, 2, none⟩ = some (.int .i64 a2_2) := (blk_cell BK258.out 2).trans rfl; have hcz125_3 : w124.cell? ⟨gb258, 3, none⟩ = some (.int .i64 a2_3) := (blk_cell BK258.out 3).trans rfl; have hcz125_4 : w124.cell? ⟨gb258, 4, none⟩ = some (.int .i64 a2_4) := (blk_cell BK258.out 4).trans rfl; have hcz125_5 : w124.cell? ⟨gb258, 5, none⟩ = some (.int .i64 a2_5) := (blk_cell BK258.out 5).trans rfl; have hcz125_6 : w124.cell? ⟨gb258, 6, none⟩ = some (.bool a2_6) := (blk_cell BK258.out 6).trans rfl; have hcz125_7 : w124.cell? ⟨gb258, 7, none⟩ = some (.int .i64 a2_7) := (blk_cell BK258.out 7).trans rfl; have hcz125_8 : w124.cell? ⟨gb258, 8, none⟩ = some (.int .u32 a2_8) := (blk_cell BK258.out 8).trans rfl; have hcz125_9 : w124.cell? ⟨gb258, 9, none⟩ = some (.int .u32 a2_9) := (blk_cell BK258.out 9).trans rfl; have hfz125_0 := blk_frozen BK258.out 0; have hfz125_1 := blk_frozen BK258.out 1; have hfz125_2 := blk_frozen BK258.out 2; have hfz125_3 := blk_frozen BK258.out 3; have hfz125_4 := blk_frozen BK258.out 4; have hfz125_5 := blk_frozen BK258.out 5; have hfz125_6 := blk_frozen BK258.out 6; have hfz125_7 := blk_frozen BK258.out 7; have hfz125_8 := blk_frozen BK258.out 8; have hfz125_9 := blk_frozen BK258.out 9) | (go_at_call 13; (with_reducible refine (pointer_Valid.calls a2_0 a2_1 a2_2 a2_3 a2_4 a2_5 a2_6 a2_7 a2_8 a2_9 t279 _ ?side1 A47.out).mono ?_); (case side1 => exact Glob.below HG.out (by repeat (first | (with_reducible first | exact HB.out | apply below_alloc | apply pw_below_drewN | apply below_drew1 | refine below_set ?_ GE257.out | refine below_set ?_ GE258.out | refine below_set ?_ GE270.out) | exact HB.out))); rintro e w126 ⟨rfl, hb⟩; have n0_ := Aside0.mk (blk_below (g := gb257) (o := .cells #[.int .i64 a1_0, .int .i64 a1_1, .int .i64 a1_2, .int .i64 a1_3, .int .i64 a1_4, .int .i64 a1_5, .bool a1_6, .int .i64 a1_7, .int .u32 a1_8, .int .u32 a1_9] 25 (0, 0)) (by (with_reducible repeat (first | refine blk_drewN ?_ _ | refine blk_drew ?_ | refine blk_alloc ?_ _)); exact BK257.out) hb); have n1_ := Aside0.mk (blk_below (g := gb258) (o := .cells #[.int .i64 a2_0, .int .i64 a2_1, .int .i64 a2_2, .int .i64 a2_3, .int .i64 a2_4, .int .i64 a2_5, .bool a2_6, .int .i64 a2_7, .int .u32 a2_8, .int .u32 a2_9] 25 (0, 0)) (by (with_reducible repeat (first | refine blk_drewN ?_ _ | refine blk_drew ?_ | refine blk_alloc ?_ _)); exact BK258.out) hb); have n2_ := Aside0.mk (blk_below (g := gb270) (o := .cells #[.int .i64 t260, .int .i64 t261, .int .i64 t262, .int .i64 t263, .int .i64 t264, .int .i64 t265, .bool t266, .int .i64 t267, .int .u32 t268, .int .u32 t269] 25 (0, 0)) (by (with_reducible repeat (first | refine blk_drewN ?_ _ | refine blk_drew ?_ | refine blk_alloc ?_ _)); exact BK270.out) hb); have n3_ := Aside0.mk (below_step (by repeat (first | (with_reducible first | exact HB.out | apply below_alloc | apply pw_below_drewN | apply below_drew1 | refine below_set ?_ GE257.out | refine below_set ?_ GE258.out | refine below_set ?_ GE270.out) | exact HB.out)) hb); clear BK257; clear BK258; clear BK270; clear HB; have BK257 := n0_; have BK258 := n1_; have BK270 := n2_; have HB := n3_; clear n0_ n1_ n2_ n3_; (try clear hb); (try clear hb2); (try clear hk); (try clear hi)))
                  go_ret
                  exact ⟨by first | rfl | (simp [errW_none, errW_some] <;> rfl) | (simp [*, errW_none, errW_some] <;> rfl), by repeat (first | (with_reducible first | exact HB.out | apply below_alloc | apply pw_below_drewN | apply below_drew1 | refine below_set ?_ GE257.out | refine below_set ?_ GE258.out | refine below_set ?_ GE270.out) | exact HB.out)⟩
  · replace c5 := Bool.eq_false_iff.mpr c5
    subst c5
    have H1 : (some false) = some r := by rw [if_neg (show ¬ (false = true) by decide)] at H; exact H
    clear H
    have H := H1
    clear H1
    obtain rfl := Option.some.inj H
    go_enter Tryd.func4, Tryd.ntmps4
    go_wp2_with (first | ((with_reducible refine gate_dst (N := 4) rfl ?_); refine box_event ?hg (N := 4) ?hd (cs := #[.int .i64 a1_0, .int .i64 a1_1, .int .i64 a1_2, .int .i64 a1_3, .int .i64 a1_4, .int .i64 a1_5, .bool a1_6, .int .i64 a1_7, .int .u32 a1_8, .int .u32 a1_9]) (t := 25) ?hr ?_; (case hd => rfl); (case hg => rfl); (case hr => first | (go_simp; done) | (go_simp; rfl)); intro gb257 hg w127 hbox hb; have n0_ := Aside0.mk (below_step (by repeat (first | (with_reducible first | exact HB.out | apply below_alloc | apply pw_below_drewN | apply below_drew1) | exact HB.out)) hb); have n1_ := Aside0.mk (hbox); have n2_ := Aside0.mk ((by rw [hg]; exact (below_size (by repeat (first | (with_reducible first | exact HB.out | apply below_alloc | apply pw_below_drewN | apply below_drew1) | exact HB.out))) : w.heap.size ≤ gb257)); have n3_ := Aside0.mk ((by rw [hg]; exact (below_size (by repeat (first | (with_reducible first | exact HB.out | apply below_alloc | apply pw_below_drewN | apply below_drew1) | exact HB.out))) : w.heap.size ≤ gb257)); clear HB; have HB := n0_; have BK257 := n1_; have GW257 := n2_; have GE257 := n3_; clear n0_ n1_ n2_ n3_; clear hb hbox hg) | ((with_reducible refine gate_dst (N := 5) rfl ?_); refine box_event ?hg (N := 5) ?hd (cs := #[.int .i64 a2_0, .int .i64 a2_1, .int .i64 a2_2, .int .i64 a2_3, .int .i64 a2_4, .int .i64 a2_5, .bool a2_6, .int .i64 a2_7, .int .u32 a2_8, .int .u32 a2_9]) (t := 25) ?hr ?_; (case hd => rfl); (case hg => rfl); (case hr => first | (go_simp; done) | (go_simp; rfl)); intro gb258 hg w128 hbox hb; have n0_ := Aside0.mk (blk_below (g := gb257) (o := .cells #[.int .i64 a1_0, .int .i64 a1_1, .int .i64 a1_2, .int .i64 a1_3, .int .i64 a1_4, .int .i64 a1_5, .bool a1_6, .int .i64 a1_7, .int .u32 a1_8, .int .u32 a1_9] 25 (0, 0)) (by (with_reducible repeat (first | refine blk_drewN ?_ _ | refine blk_drew ?_ | refine blk_alloc ?_ _)); exact BK257.out) hb); have n1_ := Aside0.mk (below_step (by repeat (first | (with_reducible first | exact HB.out | apply below_alloc | apply pw_below_drewN | apply below_drew1 | refine below_set ?_ GE257.out) | exact HB.out)) hb); have n2_ := Aside0.mk (hbox); have n3_ := Aside0.mk ((by rw [hg]; exact (below_size (by repeat (first | (with_reducible first | exact HB.out | apply below_alloc | apply pw_below_drewN | apply below_drew1 | refine below_set ?_ GE257.out) | exact HB.out))) : w.heap.size ≤ gb258)); have n4_ := Aside0.mk ((by rw [hg]; exact (below_size (by repeat (first | (with_reducible first | exact HB.out | apply below_alloc | apply pw_below_drewN | apply below_drew1 | refine below_set ?_ GE257.out) | exact HB.out))) : w.heap.size ≤ gb258)); have n5_ := Aside0.mk ((by rw [hg]; exact Nat.ne_of_lt (blk_lt (g := gb257) (o := .cells #[.int .i64 a1_0, .int .i64 a1_1, .int .i64 a1_2, .int .i64 a1_3, .int .i64 a1_4, .int .i64 a1_5, .bool a1_6, .int .i64 a1_7, .int .u32 a1_8, .int .u32 a1_9] 25 (0, 0)) (by (with_reducible repeat (first | refine blk_drewN ?_ _ | refine blk_drew ?_ | refine blk_alloc ?_ _)); exact BK257.out)) : gb257 ≠ gb258)); have n6_ := Aside0.mk ((by rw [hg]; exact Nat.ne_of_gt (blk_lt (g := gb257) (o := .cells #[.int .i64 a1_0, .int .i64 a1_1, .int .i64 a1_2, .int .i64 a1_3, .int .i64 a1_4, .int .i64 a1_5, .bool a1_6, .int .i64 a1_7, .int .u32 a1_8, .int .u32 a1_9] 25 (0, 0)) (by (with_reducible repeat (first | refine blk_drewN ?_ _ | refine blk_drew ?_ | refine blk_alloc ?_ _)); exact BK257.out)) : gb258 ≠ gb257)); clear BK257; clear HB; have BK257 := n0_; have HB := n1_; have BK258 := n2_; have GW258 := n3_; have GE258 := n4_; have NB257_258 := n5_; have NB258_257 := n6_; clear n0_ n1_ n2_ n3_ n4_ n5_ n6_; clear hb hbox hg) | ((with_reducible refine gate_callee (f := 8) rfl ?_); refine goesL_ (some 14) rfl rfl Tryd.func8 (by kernel_rfl) rfl #[] rfl (by (try simp only [List.map_toArray, List.map_cons, List.map_nil]); first | done | rfl | (simp only [List.length_drop, List.length_take]; rfl)) ?_; (with_reducible refine (capnplaw02_awake.calls  false _ ?side1 A4.out).mono ?_); (case side1 => exact Glob.below HG.out (by repeat (first | (with_reducible first | exact HB.out | apply below_alloc | apply pw_below_drewN | apply below_drew1 | refine below_set ?_ GE257.out | refine below_set ?_ GE258.out) | exact HB.out))); rintro e w129 ⟨rfl, hb⟩; refine ⟨_, rfl, ?_⟩; have n0_ := Aside0.mk (blk_below (g := gb257) (o := .cells #[.int .i64 a1_0, .int .i64 a1_1, .int .i64 a1_2, .int .i64 a1_3, .int .i64 a1_4, .int .i64 a1_5, .bool a1_6, .int .i64 a1_7, .int .u32 a1_8, .int .u32 a1_9] 25 (0, 0)) (by (with_reducible repeat (first | refine blk_drewN ?_ _ | refine blk_drew ?_ | refine blk_alloc ?_ _)); exact BK257.out) hb); have n1_ := Aside0.mk (blk_below (g := gb258) (o := .cells #[.int .i64 a2_0, .int .i64 a2_1, .int .i64 a2_2, .int .i64 a2_3, .int .i64 a2_4, .int .i64 a2_5, .bool a2_6, .int .i64 a2_7, .int .u32 a2_8, .int .u32 a2_9] 25 (0, 0)) (by (with_reducible repeat (first | refine blk_drewN ?_ _ | refine blk_drew ?_ | refine blk_alloc ?_ _)); exact BK258.out) hb); have n2_ := Aside0.mk (below_step (by repeat (first | (with_reducible first | exact HB.out | apply below_alloc | apply pw_below_drewN | apply below_drew1 | refine below_set ?_ GE257.out | refine below_set ?_ GE258.out) | exact HB.out)) hb); clear BK257; clear BK258; clear HB; have BK257 := n0_; have BK258 := n1_; have HB := n2_; clear n0_ n1_ n2_; (try clear hb); (try clear hb2); (try clear hk); (try clear hi)))
    go_ret
    exact ⟨by first | rfl | (simp [errW_none, errW_some] <;> rfl) | (simp [*, errW_none, errW_some] <;> rfl), by repeat (first | (with_reducible first | exact HB.out | apply below_alloc | apply pw_below_drewN | apply below_drew1 | refine below_set ?_ GE257.out | refine below_set ?_ GE258.out) | exact HB.out)⟩

end Go.Proofs.YtlkcmpamjheldaaDoor.P
