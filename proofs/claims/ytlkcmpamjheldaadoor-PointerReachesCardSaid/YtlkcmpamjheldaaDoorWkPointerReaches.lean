import Derived.Test.YtlkcmpamjheldaaDoorCtPtr
import Derived.Test.YtlkcmpamjheldaaDoorPx13
set_option linter.unusedVariables false
namespace Go.Proofs.YtlkcmpamjheldaaDoor.P
open Go.RowKit Go.Proofs.YtlkcmpamjheldaaDoorW.PrintWords Go.Proofs.YtlkcmpamjheldaaDoorW.PrintLast Go.Proofs.YtlkcmpamjheldaaDoorW.PrintMore
set_option maxHeartbeats 1000000 in
set_option maxRecDepth 100000 in
theorem PointerReaches_walk (a0 : Int) (h0 : 0 ≤ a0 ∧ a0 ≤ 4294967295) (a1 : Int) (h1 : 0 ≤ a1 ∧ a1 ≤ 4294967295) (l : Bool) (w : World) (hG : Glob w) :
    Calls Tryd.prog 7 #[.int .u32 a0, .int .u32 a1, .bool l] w fun e w' => e = .returned (.bool true) ∧ Below w.heap.size w w' := by
  have HG := Aside0.mk hG
  have HB := Aside0.mk (Below.refl w.heap.size w)
  clear hG
  go_enter Tryd.func7, Tryd.ntmps7
  go_wp2_with fail
  refine ((capnplaw02_awake.calls true _ (HG.out.below (by with_reducible repeat (first | exact HB.out | apply below_alloc | apply pw_below_drewN | apply below_drew1))) (by kernel_rfl))).mono ?_
  rintro e w1 ⟨rfl, hb⟩
  have nB := Aside0.mk (below_step (by with_reducible repeat (first | exact HB.out | apply below_alloc | apply pw_below_drewN | apply below_drew1)) hb)
  clear HB 
  have HB := nB
  clear nB
  clear hb
  have HV0 : Aside0 (vldP (0, a1 % 536870912 - a0 % 536870912 - 1, 1, 0, 0, 0, false, 0, 0, 0)) := ⟨by unfold vldP; simp; omega⟩
  have HV1 : Aside0 (vldP (1, a1 % 536870912 - a0 % 536870912 - 1, 0, 0, 5, 1, false, 0, 0, 0)) := ⟨by unfold vldP; simp; omega⟩
  cases l
  · go_wp2_with fail
    have GE_p : Aside0 (w.heap.size ≤ w1.heap.size) := ⟨by have := HB.out.size; first | exact this | omega⟩
    refine (Enc_k _ _ _ _ _ _ _ _ _ _ HV0.out _ (HG.out.below (by with_reducible repeat (first | exact HB.out | apply below_alloc | apply pw_below_drewN | apply below_drew1 | refine below_set ?_ GE_p.out)))).mono ?_
    rintro e w2 ⟨rfl, hb⟩
    have nB := Aside0.mk (below_step (by with_reducible repeat (first | exact HB.out | apply below_alloc | apply pw_below_drewN | apply below_drew1 | refine below_set ?_ GE_p.out)) hb)
    have nX_p := Aside0.mk (blk_below (g := w1.heap.size) (by with_reducible repeat (first | exact HX_p.out | (apply blk_newN; first | rfl | (simp; done)) | apply blk_alloc | apply blk_drewN | apply blk_drew)) hb)
    clear HB 
    have HB := nB
    clear nB
    have HX_p := nX_p
    clear nX_p
    have cs_p : ∀ i, w2.cell? ⟨w1.heap.size, i, none⟩ = _ := fun i => blk_cell HX_p.out i
    have fr_p : ∀ i, w2.frozen? ⟨w1.heap.size, i, none⟩ = false := fun i => blk_frozen HX_p.out i
    have lt_p := lt_of_block HX_p.out
    clear hb
    go_wp2_with fail
    have HR := Aside0.mk (pakI_range (0, a1 % 536870912 - a0 % 536870912 - 1, 1, 0, 0, 0, false, 0, 0, 0))
    refine (Dec_k _ _ _ _ _ _ _ _ _ _ _ HR.out (dec_pak HV0.out) _ (HG.out.below (by with_reducible repeat (first | exact HB.out | apply below_alloc | apply pw_below_drewN | apply below_drew1 | refine below_set ?_ GE_p.out)))).mono ?_
    rintro e w3 ⟨rfl, hb⟩
    have nB := Aside0.mk (below_step (by with_reducible repeat (first | exact HB.out | apply below_alloc | apply pw_below_drewN | apply below_drew1 | refine below_set ?_ GE_p.out)) hb)
    have nX_p := Aside0.mk (blk_below (g := w1.heap.size) (by with_reducible repeat (first | exact HX_p.out | (apply blk_newN; first | rfl | (simp; done)) | apply blk_alloc | apply blk_drewN | apply blk_drew)) hb)
    clear HB HX_p cs_p fr_p lt_p
    have HB := nB
    clear nB
    have HX_p := nX_p
    clear nX_p
    have cs_p : ∀ i, w3.cell? ⟨w1.heap.size, i, none⟩ = _ := fun i => blk_cell HX_p.out i
    have fr_p : ∀ i, w3.frozen? ⟨w1.heap.size, i, none⟩ = false := fun i => blk_frozen HX_p.out i
    have lt_p := lt_of_block HX_p.out
    clear hb
    go_wp2_with fail
    have GE_q : Aside0 (w.heap.size ≤ w3.heap.size) := ⟨by have := HB.out.size; first | exact this | omega⟩
    refine (Val_k _ _ _ _ _ _ _ _ _ _ true (decide_eq_true HV0.out) _ (HG.out.below (by with_reducible repeat (first | exact HB.out | apply below_alloc | apply pw_below_drewN | apply below_drew1 | refine below_set ?_ GE_p.out | refine below_set ?_ GE_q.out)))).mono ?_
    rintro e w4 ⟨rfl, hb⟩
    have nB := Aside0.mk (below_step (by with_reducible repeat (first | exact HB.out | apply below_alloc | apply pw_below_drewN | apply below_drew1 | refine below_set ?_ GE_p.out | refine below_set ?_ GE_q.out)) hb)
    have nX_p := Aside0.mk (blk_below (g := w1.heap.size) (by with_reducible repeat (first | exact HX_p.out | (apply blk_newN; first | rfl | (simp; done)) | apply blk_alloc | apply blk_drewN | apply blk_drew | apply blk_far (hp := NE_p_q.out))) hb)
    have nX_q := Aside0.mk (blk_below (g := w3.heap.size) (by with_reducible repeat (first | exact HX_q.out | (apply blk_newN; first | rfl | (simp; done)) | apply blk_alloc | apply blk_drewN | apply blk_drew | apply blk_far (hp := NE_q_p.out))) hb)
    clear HB HX_p cs_p fr_p lt_p
    have HB := nB
    clear nB
    have HX_p := nX_p
    clear nX_p
    have cs_p : ∀ i, w4.cell? ⟨w1.heap.size, i, none⟩ = _ := fun i => blk_cell HX_p.out i
    have fr_p : ∀ i, w4.frozen? ⟨w1.heap.size, i, none⟩ = false := fun i => blk_frozen HX_p.out i
    have lt_p := lt_of_block HX_p.out
    have HX_q := nX_q
    clear nX_q
    have cs_q : ∀ i, w4.cell? ⟨w3.heap.size, i, none⟩ = _ := fun i => blk_cell HX_q.out i
    have fr_q : ∀ i, w4.frozen? ⟨w3.heap.size, i, none⟩ = false := fun i => blk_frozen HX_q.out i
    have lt_q := lt_of_block HX_q.out
    clear hb
    go_wp2
    go_ret
    refine ⟨by first | rfl | (simp; done) | (simp; omega), ?_⟩
    exact (by with_reducible repeat (first | exact HB.out | apply below_alloc | apply pw_below_drewN | apply below_drew1 | refine below_set ?_ GE_p.out | refine below_set ?_ GE_q.out))
  · go_wp2_with fail
    have GE_p : Aside0 (w.heap.size ≤ w1.heap.size) := ⟨by have := HB.out.size; first | exact this | omega⟩
    refine (Enc_k _ _ _ _ _ _ _ _ _ _ HV1.out _ (HG.out.below (by with_reducible repeat (first | exact HB.out | apply below_alloc | apply pw_below_drewN | apply below_drew1 | refine below_set ?_ GE_p.out)))).mono ?_
    rintro e w2 ⟨rfl, hb⟩
    have nB := Aside0.mk (below_step (by with_reducible repeat (first | exact HB.out | apply below_alloc | apply pw_below_drewN | apply below_drew1 | refine below_set ?_ GE_p.out)) hb)
    have nX_p := Aside0.mk (blk_below (g := w1.heap.size) (by with_reducible repeat (first | exact HX_p.out | (apply blk_newN; first | rfl | (simp; done)) | apply blk_alloc | apply blk_drewN | apply blk_drew)) hb)
    clear HB 
    have HB := nB
    clear nB
    have HX_p := nX_p
    clear nX_p
    have cs_p : ∀ i, w2.cell? ⟨w1.heap.size, i, none⟩ = _ := fun i => blk_cell HX_p.out i
    have fr_p : ∀ i, w2.frozen? ⟨w1.heap.size, i, none⟩ = false := fun i => blk_frozen HX_p.out i
    have lt_p := lt_of_block HX_p.out
    clear hb
    go_wp2_with fail
    have HR := Aside0.mk (pakI_range (1, a1 % 536870912 - a0 % 536870912 - 1, 0, 0, 5, 1, false, 0, 0, 0))
    refine (Dec_k _ _ _ _ _ _ _ _ _ _ _ HR.out (dec_pak HV1.out) _ (HG.out.below (by with_reducible repeat (first | exact HB.out | apply below_alloc | apply pw_below_drewN | apply below_drew1 | refine below_set ?_ GE_p.out)))).mono ?_
    rintro e w3 ⟨rfl, hb⟩
    have nB := Aside0.mk (below_step (by with_reducible repeat (first | exact HB.out | apply below_alloc | apply pw_below_drewN | apply below_drew1 | refine below_set ?_ GE_p.out)) hb)
    have nX_p := Aside0.mk (blk_below (g := w1.heap.size) (by with_reducible repeat (first | exact HX_p.out | (apply blk_newN; first | rfl | (simp; done)) | apply blk_alloc | apply blk_drewN | apply blk_drew)) hb)
    clear HB HX_p cs_p fr_p lt_p
    have HB := nB
    clear nB
    have HX_p := nX_p
    clear nX_p
    have cs_p : ∀ i, w3.cell? ⟨w1.heap.size, i, none⟩ = _ := fun i => blk_cell HX_p.out i
    have fr_p : ∀ i, w3.frozen? ⟨w1.heap.size, i, none⟩ = false := fun i => blk_frozen HX_p.out i
    have lt_p := lt_of_block HX_p.out
    clear hb
    go_wp2_with fail
    have GE_q : Aside0 (w.heap.size ≤ w3.heap.size) := ⟨by have := HB.out.size; first | exact this | omega⟩
    refine (Val_k _ _ _ _ _ _ _ _ _ _ true (decide_eq_true HV1.out) _ (HG.out.below (by with_reducible repeat (first | exact HB.out | apply below_alloc | apply pw_below_drewN | apply below_drew1 | refine below_set ?_ GE_p.out | refine below_set ?_ GE_q.out)))).mono ?_
    rintro e w4 ⟨rfl, hb⟩
    have nB := Aside0.mk (below_step (by with_reducible repeat (first | exact HB.out | apply below_alloc | apply pw_below_drewN | apply below_drew1 | refine below_set ?_ GE_p.out | refine below_set ?_ GE_q.out)) hb)
    have nX_p := Aside0.mk (blk_below (g := w1.heap.size) (by with_reducible repeat (first | exact HX_p.out | (apply blk_newN; first | rfl | (simp; done)) | apply blk_alloc | apply blk_drewN | apply blk_drew | apply blk_far (hp := NE_p_q.out))) hb)
    have nX_q := Aside0.mk (blk_below (g := w3.heap.size) (by with_reducible repeat (first | exact HX_q.out | (apply blk_newN; first | rfl | (simp; done)) | apply blk_alloc | apply blk_drewN | apply blk_drew | apply blk_far (hp := NE_q_p.out))) hb)
    clear HB HX_p cs_p fr_p lt_p
    have HB := nB
    clear nB
    have HX_p := nX_p
    clear nX_p
    have cs_p : ∀ i, w4.cell? ⟨w1.heap.size, i, none⟩ = _ := fun i => blk_cell HX_p.out i
    have fr_p : ∀ i, w4.frozen? ⟨w1.heap.size, i, none⟩ = false := fun i => blk_frozen HX_p.out i
    have lt_p := lt_of_block HX_p.out
    have HX_q := nX_q
    clear nX_q
    have cs_q : ∀ i, w4.cell? ⟨w3.heap.size, i, none⟩ = _ := fun i => blk_cell HX_q.out i
    have fr_q : ∀ i, w4.frozen? ⟨w3.heap.size, i, none⟩ = false := fun i => blk_frozen HX_q.out i
    have lt_q := lt_of_block HX_q.out
    clear hb
    go_wp2
    go_ret
    refine ⟨by first | rfl | (simp; done) | (simp; omega), ?_⟩
    exact (by with_reducible repeat (first | exact HB.out | apply below_alloc | apply pw_below_drewN | apply below_drew1 | refine below_set ?_ GE_p.out | refine below_set ?_ GE_q.out))
end Go.Proofs.YtlkcmpamjheldaaDoor.P
