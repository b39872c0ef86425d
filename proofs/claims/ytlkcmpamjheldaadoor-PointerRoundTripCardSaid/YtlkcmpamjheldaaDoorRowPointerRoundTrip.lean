/- This text proves that the law PointerRoundTrip of the given program returns true on every input that its statement covers, as the statement says it. Its conditions are the statement's own. -/
import Derived.Test.YtlkcmpamjheldaaDoorRows
import Derived.Test.YtlkcmpamjheldaaDoorCards
import Derived.Test.YtlkcmpamjheldaaDoorTie
import Derived.Test.YtlkcmpamjheldaaDoorLaid
import Derived.Test.YtlkcmpamjheldaaDoorPuPointerRoundTrip
import Derived.Test.YtlkcmpamjheldaaDoorPx22
import Derived.WalkKit
import Derived.ProofKit
import Derived.OpenShut
import Derived.ChangeOld
import Derived.SizedLaws
import Derived.SevenTiedAt
namespace Go.Proofs.YtlkcmpamjheldaaDoor.pointerRoundTrip
open Go.ChangeShapes Go.WideShapes Go.ChangeAt Go.RowKit Go.Proofs.YtlkcmpamjheldaaDoor.P Go.Proofs.YtlkcmpamjheldaaDoorW.PrintWords
open Go.ChangeMaps (open_string shut_string)
open Go.Proofs.YtlkcmpamjheldaaDoor.P
set_option linter.unusedVariables false
theorem list_10 {l : List Value} (h : l.length = 10) : ∃ x0 x1 x2 x3 x4 x5 x6 x7 x8 x9, l = [x0, x1, x2, x3, x4, x5, x6, x7, x8, x9] := by
  match l, h with
  | [x0, x1, x2, x3, x4, x5, x6, x7, x8, x9], _ => exact ⟨x0, x1, x2, x3, x4, x5, x6, x7, x8, x9, rfl⟩
theorem own : ownKnob Tryd.prog.godebug = none := by kernel_rfl
theorem laidOut : laidOutB Tryd.prog = true := by kernel_rfl
theorem door_met (os : Os) (args : Array Value) : laidMetH Tryd.prog Rows.pointerRoundTripRow.laid ((World.doorLaid Tryd.prog 600 os).forCall (fun _ _ => 0) ⟨#[], args, []⟩).memory :=
  laidMetH_of_parts3 (fuel := 8) (laidMet_of_run' 8 (by kernel_rfl) (by kernel_rfl)) (by kernel_rfl) (by kernel_rfl)
set_option maxRecDepth 100000 in
set_option maxHeartbeats 1000000 in
theorem lifted (os : Os) (started : os.Started) (H : Type) (enc : TypeId × Value → H) :
    ReturnsInHanded {} Tryd.checked os 4 .any (fun w args => (Rows.pointerRoundTripSpec.pre enc Tryd.prog Tryd.f4 [] false w args ∧ laidMetH Tryd.prog Rows.pointerRoundTripRow.laid w) ∧ sizedMet enc Tryd.prog Tryd.f4 (OpenSpec.ofChange Rows.pointerRoundTripSpec) false w args)
      (Rows.pointerRoundTripSpec.post enc Tryd.prog Tryd.f4 false true false false) := by
  refine returnsInHanded_of_change_and (C := Tryd.checked) (X := fun w _ => laidMetH Tryd.prog Rows.pointerRoundTripRow.laid w) (fun _ _ _ hh h => h.of_heap hh) own started (by kernel_rfl) Tryd.func4
    (ChangeSpec.witness_shaped (enc := enc) (C := Tryd.checked) (os := os) (X := fun w _ => laidMetH Tryd.prog Rows.pointerRoundTripRow.laid w) false (World.doorLaid Tryd.prog 600 os) #[.int .u64 0, .agg #[.int .i64 0, .int .i64 0, .int .i64 0, .int .i64 0, .int .i64 0, .int .i64 0, .bool false, .int .i64 0, .int .u32 0, .int .u32 0], .agg #[.int .i64 0, .int .i64 0, .int .i64 0, .int .i64 0, .int .i64 0, .int .i64 0, .bool false, .int .i64 0, .int .u32 0, .int .u32 0]] 8 rfl (World.shaped_of_RefB (by kernel_rfl) (by kernel_rfl)) (by kernel_rfl) (by kernel_rfl) (by kernel_rfl) (door_met os _)) ?_
  intro W base args ds gs before hval0 hW hcnd hsz0 hL _
  have hval : ∀ (j : Nat) t v, Tryd.f4.params[j]? = some t → args[j]? = some v → Value.okWide Tryd.prog W .any base t v := hval0
  have hW' := hW
  obtain ⟨p, q, hA0, hV, rfl, hfz, hnd⟩ := hW
  have hA : DataW.TrodAll enc Tryd.prog W 0 (fun _ => true) true Tryd.f4.params.toList args.toList ds p := hA0
  rw [Tryd.params4] at hA hval
  obtain ⟨v0, vs0, d0, ds0, p0, q0, hargs, rfl, rfl, h0, r0⟩ := trodAll_cons hA
  obtain ⟨v1, vs1, d1, ds1, p1, q1, rfl, rfl, rfl, h1, r1⟩ := trodAll_cons r0
  obtain ⟨v2, vs2, d2, ds2, p2, q2, rfl, rfl, rfl, h2, r2⟩ := trodAll_cons r1
  obtain ⟨rfl, rfl, rfl⟩ := trodAll_nil r2
  obtain rfl : args = #[v0, v1, v2] := by cases args; simp_all
  obtain ⟨rfl, rfl⟩ := trodVars_none hV
  have k0 := h0
  have lt0 : ∀ x ∈ p0, x.block < W.heap.size := by obtain ⟨m, hm⟩ := k0; exact DataW.trod_lt m _ _ _ hm
  obtain ⟨a0, rfl, _, _, w0⟩ := open_int Tryd.underlying22 (hval 0 22 v0 rfl rfl) h0
  have k1 := h1
  have lt1 : ∀ x ∈ p1, x.block < W.heap.size := by obtain ⟨m, hm⟩ := k1; exact DataW.trod_lt m _ _ _ hm
  obtain ⟨u1, rfl, sz1⟩ := okWide_struct Tryd.underlying25 (hval 1 25 v1 rfl rfl)
  obtain ⟨u1⟩ := u1
  obtain ⟨c1_0, c1_1, c1_2, c1_3, c1_4, c1_5, c1_6, c1_7, c1_8, c1_9, rfl⟩ := list_10 (l := u1) (sz1.trans (show Tryd.prog.cellsOf 25 = 10 by kernel_rfl))
  obtain ⟨fuel1, hf1⟩ := h1
  obtain ⟨xs1, n1, _, hx1, _, hl1, hg1⟩ := DataW.trod_struct Tryd.underlying25 hf1
  have g1_0 := hg1 0 _ rfl
  rw [List.getElem?_eq_getElem (by rw [hl1]; decide)] at g1_0
  have e1_0 : (([c1_0, c1_1, c1_2, c1_3, c1_4, c1_5, c1_6, c1_7, c1_8, c1_9] : List Value).drop 0).take (Tryd.prog.cellsOf 3) = [c1_0] := by rw [show Tryd.prog.cellsOf 3 = 1 by kernel_rfl]; rfl
  obtain ⟨a1_0, e1_0', _, w1_0⟩ := DataW.trod_int Tryd.underlying3 g1_0
  obtain rfl : c1_0 = .int .i64 a1_0 := by have := e1_0.symm.trans e1_0'; simpa using this
  have g1_1 := hg1 1 _ rfl
  rw [List.getElem?_eq_getElem (by rw [hl1]; decide)] at g1_1
  have e1_1 : (([.int .i64 a1_0, c1_1, c1_2, c1_3, c1_4, c1_5, c1_6, c1_7, c1_8, c1_9] : List Value).drop 1).take (Tryd.prog.cellsOf 3) = [c1_1] := by rw [show Tryd.prog.cellsOf 3 = 1 by kernel_rfl]; rfl
  obtain ⟨a1_1, e1_1', _, w1_1⟩ := DataW.trod_int Tryd.underlying3 g1_1
  obtain rfl : c1_1 = .int .i64 a1_1 := by have := e1_1.symm.trans e1_1'; simpa using this
  have g1_2 := hg1 2 _ rfl
  rw [List.getElem?_eq_getElem (by rw [hl1]; decide)] at g1_2
  have e1_2 : (([.int .i64 a1_0, .int .i64 a1_1, c1_2, c1_3, c1_4, c1_5, c1_6, c1_7, c1_8, c1_9] : List Value).drop 2).take (Tryd.prog.cellsOf 3) = [c1_2] := by rw [show Tryd.prog.cellsOf 3 = 1 by kernel_rfl]; rfl
  obtain ⟨a1_2, e1_2', _, w1_2⟩ := DataW.trod_int Tryd.underlying3 g1_2
  obtain rfl : c1_2 = .int .i64 a1_2 := by have := e1_2.symm.trans e1_2'; simpa using this
  have g1_3 := hg1 3 _ rfl
  rw [List.getElem?_eq_getElem (by rw [hl1]; decide)] at g1_3
  have e1_3 : (([.int .i64 a1_0, .int .i64 a1_1, .int .i64 a1_2, c1_3, c1_4, c1_5, c1_6, c1_7, c1_8, c1_9] : List Value).drop 3).take (Tryd.prog.cellsOf 3) = [c1_3] := by rw [show Tryd.prog.cellsOf 3 = 1 by kernel_rfl]; rfl
  obtain ⟨a1_3, e1_3', _, w1_3⟩ := DataW.trod_int Tryd.underlying3 g1_3
  obtain rfl : c1_3 = .int .i64 a1_3 := by have := e1_3.symm.trans e1_3'; simpa using this
  have g1_4 := hg1 4 _ rfl
  rw [List.getElem?_eq_getElem (by rw [hl1]; decide)] at g1_4
  have e1_4 : (([.int .i64 a1_0, .int .i64 a1_1, .int .i64 a1_2, .int .i64 a1_3, c1_4, c1_5, c1_6, c1_7, c1_8, c1_9] : List Value).drop 4).take (Tryd.prog.cellsOf 3) = [c1_4] := by rw [show Tryd.prog.cellsOf 3 = 1 by kernel_rfl]; rfl
  obtain ⟨a1_4, e1_4', _, w1_4⟩ := DataW.trod_int Tryd.underlying3 g1_4
  obtain rfl : c1_4 = .int .i64 a1_4 := by have := e1_4.symm.trans e1_4'; simpa using this
  have g1_5 := hg1 5 _ rfl
  rw [List.getElem?_eq_getElem (by rw [hl1]; decide)] at g1_5
  have e1_5 : (([.int .i64 a1_0, .int .i64 a1_1, .int .i64 a1_2, .int .i64 a1_3, .int .i64 a1_4, c1_5, c1_6, c1_7, c1_8, c1_9] : List Value).drop 5).take (Tryd.prog.cellsOf 3) = [c1_5] := by rw [show Tryd.prog.cellsOf 3 = 1 by kernel_rfl]; rfl
  obtain ⟨a1_5, e1_5', _, w1_5⟩ := DataW.trod_int Tryd.underlying3 g1_5
  obtain rfl : c1_5 = .int .i64 a1_5 := by have := e1_5.symm.trans e1_5'; simpa using this
  have g1_6 := hg1 6 _ rfl
  rw [List.getElem?_eq_getElem (by rw [hl1]; decide)] at g1_6
  have e1_6 : (([.int .i64 a1_0, .int .i64 a1_1, .int .i64 a1_2, .int .i64 a1_3, .int .i64 a1_4, .int .i64 a1_5, c1_6, c1_7, c1_8, c1_9] : List Value).drop 6).take (Tryd.prog.cellsOf 4) = [c1_6] := by rw [show Tryd.prog.cellsOf 4 = 1 by kernel_rfl]; rfl
  obtain ⟨a1_6, e1_6', _⟩ := DataW.trod_bool Tryd.underlying4 g1_6
  obtain rfl : c1_6 = .bool a1_6 := by have := e1_6.symm.trans e1_6'; simpa using this
  have g1_7 := hg1 7 _ rfl
  rw [List.getElem?_eq_getElem (by rw [hl1]; decide)] at g1_7
  have e1_7 : (([.int .i64 a1_0, .int .i64 a1_1, .int .i64 a1_2, .int .i64 a1_3, .int .i64 a1_4, .int .i64 a1_5, .bool a1_6, c1_7, c1_8, c1_9] : List Value).drop 7).take (Tryd.prog.cellsOf 3) = [c1_7] := by rw [show Tryd.prog.cellsOf 3 = 1 by kernel_rfl]; rfl
  obtain ⟨a1_7, e1_7', _, w1_7⟩ := DataW.trod_int Tryd.underlying3 g1_7
  obtain rfl : c1_7 = .int .i64 a1_7 := by have := e1_7.symm.trans e1_7'; simpa using this
  have g1_8 := hg1 8 _ rfl
  rw [List.getElem?_eq_getElem (by rw [hl1]; decide)] at g1_8
  have e1_8 : (([.int .i64 a1_0, .int .i64 a1_1, .int .i64 a1_2, .int .i64 a1_3, .int .i64 a1_4, .int .i64 a1_5, .bool a1_6, .int .i64 a1_7, c1_8, c1_9] : List Value).drop 8).take (Tryd.prog.cellsOf 23) = [c1_8] := by rw [show Tryd.prog.cellsOf 23 = 1 by kernel_rfl]; rfl
  obtain ⟨a1_8, e1_8', _, w1_8⟩ := DataW.trod_int Tryd.underlying23 g1_8
  obtain rfl : c1_8 = .int .u32 a1_8 := by have := e1_8.symm.trans e1_8'; simpa using this
  have g1_9 := hg1 9 _ rfl
  rw [List.getElem?_eq_getElem (by rw [hl1]; decide)] at g1_9
  have e1_9 : (([.int .i64 a1_0, .int .i64 a1_1, .int .i64 a1_2, .int .i64 a1_3, .int .i64 a1_4, .int .i64 a1_5, .bool a1_6, .int .i64 a1_7, .int .u32 a1_8, c1_9] : List Value).drop 9).take (Tryd.prog.cellsOf 23) = [c1_9] := by rw [show Tryd.prog.cellsOf 23 = 1 by kernel_rfl]; rfl
  obtain ⟨a1_9, e1_9', _, w1_9⟩ := DataW.trod_int Tryd.underlying23 g1_9
  obtain rfl : c1_9 = .int .u32 a1_9 := by have := e1_9.symm.trans e1_9'; simpa using this
  have k2 := h2
  have lt2 : ∀ x ∈ p2, x.block < W.heap.size := by obtain ⟨m, hm⟩ := k2; exact DataW.trod_lt m _ _ _ hm
  obtain ⟨u2, rfl, sz2⟩ := okWide_struct Tryd.underlying25 (hval 2 25 v2 rfl rfl)
  obtain ⟨u2⟩ := u2
  obtain ⟨c2_0, c2_1, c2_2, c2_3, c2_4, c2_5, c2_6, c2_7, c2_8, c2_9, rfl⟩ := list_10 (l := u2) (sz2.trans (show Tryd.prog.cellsOf 25 = 10 by kernel_rfl))
  obtain ⟨fuel2, hf2⟩ := h2
  obtain ⟨xs2, n2, _, hx2, _, hl2, hg2⟩ := DataW.trod_struct Tryd.underlying25 hf2
  have g2_0 := hg2 0 _ rfl
  rw [List.getElem?_eq_getElem (by rw [hl2]; decide)] at g2_0
  have e2_0 : (([c2_0, c2_1, c2_2, c2_3, c2_4, c2_5, c2_6, c2_7, c2_8, c2_9] : List Value).drop 0).take (Tryd.prog.cellsOf 3) = [c2_0] := by rw [show Tryd.prog.cellsOf 3 = 1 by kernel_rfl]; rfl
  obtain ⟨a2_0, e2_0', _, w2_0⟩ := DataW.trod_int Tryd.underlying3 g2_0
  obtain rfl : c2_0 = .int .i64 a2_0 := by have := e2_0.symm.trans e2_0'; simpa using this
  have g2_1 := hg2 1 _ rfl
  rw [List.getElem?_eq_getElem (by rw [hl2]; decide)] at g2_1
  have e2_1 : (([.int .i64 a2_0, c2_1, c2_2, c2_3, c2_4, c2_5, c2_6, c2_7, c2_8, c2_9] : List Value).drop 1).take (Tryd.prog.cellsOf 3) = [c2_1] := by rw [show Tryd.prog.cellsOf 3 = 1 by kernel_rfl]; rfl
  obtain ⟨a2_1, e2_1', _, w2_1⟩ := DataW.trod_int Tryd.underlying3 g2_1
  obtain rfl : c2_1 = .int .i64 a2_1 := by have := e2_1.symm.trans e2_1'; simpa using this
  have g2_2 := hg2 2 _ rfl
  rw [List.getElem?_eq_getElem (by rw [hl2]; decide)] at g2_2
  have e2_2 : (([.int .i64 a2_0, .int .i64 a2_1, c2_2, c2_3, c2_4, c2_5, c2_6, c2_7, c2_8, c2_9] : List Value).drop 2).take (Tryd.prog.cellsOf 3) = [c2_2] := by rw [show Tryd.prog.cellsOf 3 = 1 by kernel_rfl]; rfl
  obtain ⟨a2_2, e2_2', _, w2_2⟩ := DataW.trod_int Tryd.underlying3 g2_2
  obtain rfl : c2_2 = .int .i64 a2_2 := by have := e2_2.symm.trans e2_2'; simpa using this
  have g2_3 := hg2 3 _ rfl
  rw [List.getElem?_eq_getElem (by rw [hl2]; decide)] at g2_3
  have e2_3 : (([.int .i64 a2_0, .int .i64 a2_1, .int .i64 a2_2, c2_3, c2_4, c2_5, c2_6, c2_7, c2_8, c2_9] : List Value).drop 3).take (Tryd.prog.cellsOf 3) = [c2_3] := by rw [show Tryd.prog.cellsOf 3 = 1 by kernel_rfl]; rfl
  obtain ⟨a2_3, e2_3', _, w2_3⟩ := DataW.trod_int Tryd.underlying3 g2_3
  obtain rfl : c2_3 = .int .i64 a2_3 := by have := e2_3.symm.trans e2_3'; simpa using this
  have g2_4 := hg2 4 _ rfl
  rw [List.getElem?_eq_getElem (by rw [hl2]; decide)] at g2_4
  have e2_4 : (([.int .i64 a2_0, .int .i64 a2_1, .int .i64 a2_2, .int .i64 a2_3, c2_4, c2_5, c2_6, c2_7, c2_8, c2_9] : List Value).drop 4).take (Tryd.prog.cellsOf 3) = [c2_4] := by rw [show Tryd.prog.cellsOf 3 = 1 by kernel_rfl]; rfl
  obtain ⟨a2_4, e2_4', _, w2_4⟩ := DataW.trod_int Tryd.underlying3 g2_4
  obtain rfl : c2_4 = .int .i64 a2_4 := by have := e2_4.symm.trans e2_4'; simpa using this
  have g2_5 := hg2 5 _ rfl
  rw [List.getElem?_eq_getElem (by rw [hl2]; decide)] at g2_5
  have e2_5 : (([.int .i64 a2_0, .int .i64 a2_1, .int .i64 a2_2, .int .i64 a2_3, .int .i64 a2_4, c2_5, c2_6, c2_7, c2_8, c2_9] : List Value).drop 5).take (Tryd.prog.cellsOf 3) = [c2_5] := by rw [show Tryd.prog.cellsOf 3 = 1 by kernel_rfl]; rfl
  obtain ⟨a2_5, e2_5', _, w2_5⟩ := DataW.trod_int Tryd.underlying3 g2_5
  obtain rfl : c2_5 = .int .i64 a2_5 := by have := e2_5.symm.trans e2_5'; simpa using this
  have g2_6 := hg2 6 _ rfl
  rw [List.getElem?_eq_getElem (by rw [hl2]; decide)] at g2_6
  have e2_6 : (([.int .i64 a2_0, .int .i64 a2_1, .int .i64 a2_2, .int .i64 a2_3, .int .i64 a2_4, .int .i64 a2_5, c2_6, c2_7, c2_8, c2_9] : List Value).drop 6).take (Tryd.prog.cellsOf 4) = [c2_6] := by rw [show Tryd.prog.cellsOf 4 = 1 by kernel_rfl]; rfl
  obtain ⟨a2_6, e2_6', _⟩ := DataW.trod_bool Tryd.underlying4 g2_6
  obtain rfl : c2_6 = .bool a2_6 := by have := e2_6.symm.trans e2_6'; simpa using this
  have g2_7 := hg2 7 _ rfl
  rw [List.getElem?_eq_getElem (by rw [hl2]; decide)] at g2_7
  have e2_7 : (([.int .i64 a2_0, .int .i64 a2_1, .int .i64 a2_2, .int .i64 a2_3, .int .i64 a2_4, .int .i64 a2_5, .bool a2_6, c2_7, c2_8, c2_9] : List Value).drop 7).take (Tryd.prog.cellsOf 3) = [c2_7] := by rw [show Tryd.prog.cellsOf 3 = 1 by kernel_rfl]; rfl
  obtain ⟨a2_7, e2_7', _, w2_7⟩ := DataW.trod_int Tryd.underlying3 g2_7
  obtain rfl : c2_7 = .int .i64 a2_7 := by have := e2_7.symm.trans e2_7'; simpa using this
  have g2_8 := hg2 8 _ rfl
  rw [List.getElem?_eq_getElem (by rw [hl2]; decide)] at g2_8
  have e2_8 : (([.int .i64 a2_0, .int .i64 a2_1, .int .i64 a2_2, .int .i64 a2_3, .int .i64 a2_4, .int .i64 a2_5, .bool a2_6, .int .i64 a2_7, c2_8, c2_9] : List Value).drop 8).take (Tryd.prog.cellsOf 23) = [c2_8] := by rw [show Tryd.prog.cellsOf 23 = 1 by kernel_rfl]; rfl
  obtain ⟨a2_8, e2_8', _, w2_8⟩ := DataW.trod_int Tryd.underlying23 g2_8
  obtain rfl : c2_8 = .int .u32 a2_8 := by have := e2_8.symm.trans e2_8'; simpa using this
  have g2_9 := hg2 9 _ rfl
  rw [List.getElem?_eq_getElem (by rw [hl2]; decide)] at g2_9
  have e2_9 : (([.int .i64 a2_0, .int .i64 a2_1, .int .i64 a2_2, .int .i64 a2_3, .int .i64 a2_4, .int .i64 a2_5, .bool a2_6, .int .i64 a2_7, .int .u32 a2_8, c2_9] : List Value).drop 9).take (Tryd.prog.cellsOf 23) = [c2_9] := by rw [show Tryd.prog.cellsOf 23 = 1 by kernel_rfl]; rfl
  obtain ⟨a2_9, e2_9', _, w2_9⟩ := DataW.trod_int Tryd.underlying23 g2_9
  obtain rfl : c2_9 = .int .u32 a2_9 := by have := e2_9.symm.trans e2_9'; simpa using this
  have hG := glob_of_laid hL
  obtain ⟨k, hp⟩ := PointerRoundTrip_pure a0 (bounds_u64 w0) a1_0 (bounds_i64 w1_0) a1_1 (bounds_i64 w1_1) a1_2 (bounds_i64 w1_2) a1_3 (bounds_i64 w1_3) a1_4 (bounds_i64 w1_4) a1_5 (bounds_i64 w1_5) a1_6 a1_7 (bounds_i64 w1_7) a1_8 (bounds_u32 w1_8) a1_9 (bounds_u32 w1_9) a2_0 (bounds_i64 w2_0) a2_1 (bounds_i64 w2_1) a2_2 (bounds_i64 w2_2) a2_3 (bounds_i64 w2_3) a2_4 (bounds_i64 w2_4) a2_5 (bounds_i64 w2_5) a2_6 a2_7 (bounds_i64 w2_7) a2_8 (bounds_u32 w2_8) a2_9 (bounds_u32 w2_9)
  refine (capnplaw02_PointerRoundTrip.calls k a0 a1_0 a1_1 a1_2 a1_3 a1_4 a1_5 a1_6 a1_7 a1_8 a1_9 a2_0 a2_1 a2_2 a2_3 a2_4 a2_5 a2_6 a2_7 a2_8 a2_9 true W hG  hp).mono fun e W' ⟨he, bel⟩ => ?_
  subst he
  exact ⟨_, rfl, _, _, _, [], _, [], hW', trodAll_mk1 (shut_bool Tryd.underlying4 _), (trodAll_cons_mk (Below.trod laidOut (by kernel_rfl) (of_decide_eq_true (by kernel_rfl)) k0 bel lt0) (trodAll_cons_mk (Below.trod laidOut (by kernel_rfl) (of_decide_eq_true (by kernel_rfl)) k1 bel lt1) (trodAll_cons_mk (Below.trod laidOut (by kernel_rfl) (of_decide_eq_true (by kernel_rfl)) k2 bel lt2) trodAll_mk0))), rfl, bel.frame _, fun h => by cases h⟩
theorem over : Rows.pointerRoundTripRow.holds Tryd.pinned (OpenSpec.ofChange Rows.pointerRoundTripSpec) :=
  OpenClaim.holds_of_wide 4 Tryd.f4 rfl rfl rfl rfl rfl rfl rfl ⟨rfl, rfl, rfl, rfl, rfl⟩ rfl rfl rfl rfl rfl (by kernel_rfl) Tryd.func4 (by kernel_rfl)
    (of_decide_eq_true (by kernel_rfl)) (by unfold Func.isWrapper; first | (rw [if_pos (by decide +kernel)]; kernel_rfl) | (rw [if_neg (by decide +kernel)]; exact ⟨rfl, rfl⟩))
    (fun os started H enc _ => lifted os started H enc)
theorem card_holds : Rows.PointerRoundTripCardSaid :=
  Claim7.holds_tied_plain_at .later [] [.funcs] true (true, "9e5cc529afa621d478c546a0085e26c662def7732cbd726b949eb0b3f7113bb8") false
    over (fun _ h => by cases h) (by kernel_rfl) (fun _ h => by cases h) pointerRoundTrip_row_tie rfl ⟨rfl, rfl⟩ (by kernel_rfl) rfl
    (fun f fn hf hfn => by
      obtain rfl : f = 4 := Option.some.inj ((show Tryd.prog.funcNamed "capnp/capnplaw02.PointerRoundTrip" = some 4 by kernel_rfl).symm.trans hf) |>.symm
      obtain rfl : fn = Tryd.f4 := (Option.some.inj (Tryd.func4.symm.trans hfn)).symm
      exact ⟨by kernel_rfl, fun j t ht => by
        rw [Tryd.params4] at ht
        have hm : t ∈ [22, 25, 25] := by simpa using Array.mem_of_getElem? ht
        have hall : ([22, 25, 25].all fun u => !Tryd.prog.wantsStandIn u) = true := by kernel_rfl
        exact (show Tryd.prog.wantsStandIn t = false by simpa using List.all_eq_true.1 hall t hm)⟩)
    (by kernel_rfl)
#print axioms card_holds
end Go.Proofs.YtlkcmpamjheldaaDoor.pointerRoundTrip
namespace Go.Proofs.YtlkcmpamjheldaaDoor
theorem pointerRoundTrip_holds : Go.Proofs.YtlkcmpamjheldaaDoor.Rows.PointerRoundTripCardSaid := pointerRoundTrip.card_holds
end Go.Proofs.YtlkcmpamjheldaaDoor
