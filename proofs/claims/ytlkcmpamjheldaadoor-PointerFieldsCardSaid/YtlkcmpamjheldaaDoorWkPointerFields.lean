import Derived.Test.YtlkcmpamjheldaaDoorCtPtr
import Derived.Test.YtlkcmpamjheldaaDoorPx13
import Derived.Deep.RegionHeld3
import Derived.Outline
set_option linter.unusedVariables false
namespace Go.Proofs.YtlkcmpamjheldaaDoor.P
open Go.RowKit Go.Proofs.YtlkcmpamjheldaaDoorW.PrintWords Go.Proofs.YtlkcmpamjheldaaDoorW.PrintLast Go.Proofs.YtlkcmpamjheldaaDoorW.PrintMore
theorem eqx {a : Int} (h : 0 ≤ a ∧ a < 18446744073709551616) {Q : PT} (hv : vldP Q) : pakI Q = a ↔ decI a = Q := by
  constructor
  · intro e
    rw [← e, dec_pak hv]
  · intro e
    rw [← e, pak_dec h]
theorem pak4 (p : PT) (hk : 0 ≤ p.1 ∧ p.1 ≤ 3) : pakI p % 4 = p.1 := by
  unfold pakI
  split
  · omega
  split
  · omega
  split
  · split <;> omega
  · omega
set_option maxHeartbeats 4000000 in
set_option maxRecDepth 100000 in
theorem PointerFields_walk (a : Int) (ha : 0 ≤ a ∧ a ≤ 18446744073709551615) (of : Int) (hof : -2147483648 ≤ of ∧ of ≤ 2147483647) (dt : Int) (hdt : 0 ≤ dt ∧ dt ≤ 65535) (pt : Int) (hpt : 0 ≤ pt ∧ pt ≤ 65535) (ct : Int) (hct : 0 ≤ ct ∧ ct ≤ 4294967295) (w : World) (hG : Glob w) :
    Calls Tryd.prog 6 #[.int .u64 a, .int .i32 of, .int .u16 dt, .int .u16 pt, .int .u32 ct] w fun e w' => e = .returned (.bool true) ∧ Below w.heap.size w w' := by
  have HA : Aside0 (0 ≤ a ∧ a < 18446744073709551616) := ⟨by omega⟩
  have HG := Aside0.mk hG
  have HB := Aside0.mk (Below.refl w.heap.size w)
  clear hG
  go_enter Tryd.func6, Tryd.ntmps6
  go_wp2_with fail
  refine ((capnplaw02_awake.calls true _ (HG.out.below (by with_reducible repeat (first | exact HB.out | apply below_alloc | apply pw_below_drewN | apply below_drew1))) (by kernel_rfl))).mono ?_
  rintro e w1 ⟨rfl, hb⟩
  have nB := Aside0.mk (below_step (by with_reducible repeat (first | exact HB.out | apply below_alloc | apply pw_below_drewN | apply below_drew1)) hb)
  clear HB 
  have HB := nB
  clear nB
  clear hb
  go_wp2_with fail
  by_cases c0 : a % 4 = 0
  · have HD : Aside0 (decI a = (0, sgn30 (a / 4 % 1073741824), a / 4294967296 % 65536, a / 281474976710656 % 65536, 0, 0, false, 0, 0, 0)) := ⟨by unfold decI; rw [if_pos c0]⟩
    have HV : Aside0 (vldP (0, of / 4, dt, pt, 0, 0, false, 0, 0, 0)) := ⟨by unfold vldP; simp; omega⟩
    have hx : (pakI (0, of / 4, dt, pt, 0, 0, false, 0, 0, 0) == a) = (sgn30 (a / 4 % 1073741824) == of / 4 && (a / 4294967296 % 65536 == dt && a / 281474976710656 % 65536 == pt)) := by
      rw [Bool.eq_iff_iff, beq_iff_eq, eqx HA.out HV.out, HD.out]
      simp
    have h4 : (pakI (0, of / 4, dt, pt, 0, 0, false, 0, 0, 0)).tmod 4 = a.tmod 4 := by rw [Int.tmod_eq_emod_of_nonneg (pakI_range _).1, Int.tmod_eq_emod_of_nonneg HA.out.1, pak4 _ (by simp)]; simp; omega
    have HX := Aside0.mk hx
    have H4 := Aside0.mk h4
    have HR := Aside0.mk (pakI_range (0, of / 4, dt, pt, 0, 0, false, 0, 0, 0))
    clear hx h4
    refine (Dec_k _ _ _ _ _ _ _ _ _ _ _ HA.out HD.out _ (HG.out.below (by with_reducible repeat (first | exact HB.out | apply below_alloc | apply pw_below_drewN | apply below_drew1)))).mono ?_
    rintro e w2 ⟨rfl, hb⟩
    have nB := Aside0.mk (below_step (by with_reducible repeat (first | exact HB.out | apply below_alloc | apply pw_below_drewN | apply below_drew1)) hb)
    clear HB 
    have HB := nB
    clear nB
    clear hb
    go_wp2_with fail
    have GE_p : Aside0 (w.heap.size ≤ w2.heap.size) := ⟨by have := HB.out.size; first | exact this | omega⟩
    have GE_q : Aside0 (w.heap.size ≤ w2.heap.size + 1) := ⟨by have := HB.out.size; first | exact this | omega⟩
    refine (Enc_k _ _ _ _ _ _ _ _ _ _ HV.out _ (HG.out.below (by with_reducible repeat (first | exact HB.out | apply below_alloc | apply pw_below_drewN | apply below_drew1 | refine below_set ?_ GE_p.out | refine below_set ?_ GE_q.out)))).mono ?_
    rintro e w3 ⟨rfl, hb⟩
    have nB := Aside0.mk (below_step (by with_reducible repeat (first | exact HB.out | apply below_alloc | apply pw_below_drewN | apply below_drew1 | refine below_set ?_ GE_p.out | refine below_set ?_ GE_q.out)) hb)
    have nX_p := Aside0.mk (blk_below (g := w2.heap.size) (by with_reducible repeat (first | exact HX_p.out | (apply blk_newN; first | rfl | (simp; done)) | apply blk_alloc | apply blk_drewN | apply blk_drew | apply blk_far (hp := NE_p_q.out))) hb)
    have nX_q := Aside0.mk (blk_below (g := w2.heap.size + 1) (by with_reducible repeat (first | exact HX_q.out | (apply blk_newN; first | rfl | (simp; done)) | apply blk_alloc | apply blk_drewN | apply blk_drew | apply blk_far (hp := NE_q_p.out))) hb)
    clear HB 
    have HB := nB
    clear nB
    have HX_p := nX_p
    clear nX_p
    have cs_p : ∀ i, w3.cell? ⟨w2.heap.size, i, none⟩ = _ := fun i => blk_cell HX_p.out i
    have fr_p : ∀ i, w3.frozen? ⟨w2.heap.size, i, none⟩ = false := fun i => blk_frozen HX_p.out i
    have lt_p := lt_of_block HX_p.out
    have HX_q := nX_q
    clear nX_q
    have cs_q : ∀ i, w3.cell? ⟨w2.heap.size + 1, i, none⟩ = _ := fun i => blk_cell HX_q.out i
    have fr_q : ∀ i, w3.frozen? ⟨w2.heap.size + 1, i, none⟩ = false := fun i => blk_frozen HX_q.out i
    have lt_q := lt_of_block HX_q.out
    clear hb
    cases h1 : (sgn30 (a / 4 % 1073741824) == of / 4) <;> cases h2 : (a / 4294967296 % 65536 == dt) <;> cases h3 : (a / 281474976710656 % 65536 == pt)
    all_goals
      have hx := HX.out
      simp only [h1, h2, h3, Bool.and_true, Bool.and_false, Bool.true_and, Bool.false_and] at hx
      have hr := HR.out
      go_wp2_with fail
      go_region_held3 (fun w' => Below w.heap.size w w' ∧ w'.heap[w2.heap.size]? = some (.cells #[.int .i64 (0), .int .i64 (sgn30 (a / 4 % 1073741824)), .int .i64 (a / 4294967296 % 65536), .int .i64 (a / 281474976710656 % 65536), .int .i64 (0), .int .i64 (0), .bool (false), .int .i64 (0), .int .u32 (0), .int .u32 (0)] 25 (0, 0)) ∧ (∀ i, w'.cell? ⟨w2.heap.size, i, none⟩ = (#[.int .i64 (0), .int .i64 (sgn30 (a / 4 % 1073741824)), .int .i64 (a / 4294967296 % 65536), .int .i64 (a / 281474976710656 % 65536), .int .i64 (0), .int .i64 (0), .bool (false), .int .i64 (0), .int .u32 (0), .int .u32 (0)] : Array Value)[i]?) ∧ w'.heap[w2.heap.size + 1]? = some (.cells #[.int .i64 (0), .int .i64 (of / 4), .int .i64 (dt), .int .i64 (pt), .int .i64 (0), .int .i64 (0), .bool (false), .int .i64 (0), .int .u32 (0), .int .u32 (0)] 25 (0, 0)) ∧ (∀ i, w'.cell? ⟨w2.heap.size + 1, i, none⟩ = (#[.int .i64 (0), .int .i64 (of / 4), .int .i64 (dt), .int .i64 (pt), .int .i64 (0), .int .i64 (0), .bool (false), .int .i64 (0), .int .u32 (0), .int .u32 (0)] : Array Value)[i]?)) (first | exact ⟨HB.out.drew, HX_p.out, cs_p, HX_q.out, cs_q⟩ | exact ⟨HB.out, HX_p.out, cs_p, HX_q.out, cs_q⟩) (first | (go_at_call 11; refine (Dec_k _ _ _ _ _ _ _ _ _ _ _ HR.out (dec_pak HV.out) _ (HG.out.below (by with_reducible repeat (first | exact HB.out | apply below_alloc | apply pw_below_drewN | apply below_drew1 | refine below_set ?_ GE_p.out | refine below_set ?_ GE_q.out)))).mono ?_; rintro e w9 ⟨rfl, hb⟩; (have nB := Aside0.mk (below_step (by with_reducible repeat (first | exact HB.out | apply below_alloc | apply pw_below_drewN | apply below_drew1 | refine below_set ?_ GE_p.out | refine below_set ?_ GE_q.out)) hb)); (have nX_p := Aside0.mk (blk_below (g := w2.heap.size) (by with_reducible repeat (first | exact HX_p.out | (apply blk_newN; first | rfl | (simp; done)) | apply blk_alloc | apply blk_drewN | apply blk_drew | apply blk_far (hp := NE_p_q.out))) hb)); (have nX_q := Aside0.mk (blk_below (g := w2.heap.size + 1) (by with_reducible repeat (first | exact HX_q.out | (apply blk_newN; first | rfl | (simp; done)) | apply blk_alloc | apply blk_drewN | apply blk_drew | apply blk_far (hp := NE_q_p.out))) hb)); clear HB HX_p cs_p fr_p lt_p HX_q cs_q fr_q lt_q; (have HB := nB); clear nB; (have HX_p := nX_p); clear nX_p; (have cs_p : ∀ i, w9.cell? ⟨w2.heap.size, i, none⟩ = _ := fun i => blk_cell HX_p.out i); (have fr_p : ∀ i, w9.frozen? ⟨w2.heap.size, i, none⟩ = false := fun i => blk_frozen HX_p.out i); (have lt_p := lt_of_block HX_p.out); (have HX_q := nX_q); clear nX_q; (have cs_q : ∀ i, w9.cell? ⟨w2.heap.size + 1, i, none⟩ = _ := fun i => blk_cell HX_q.out i); (have fr_q : ∀ i, w9.frozen? ⟨w2.heap.size + 1, i, none⟩ = false := fun i => blk_frozen HX_q.out i); (have lt_q := lt_of_block HX_q.out); clear hb))
      go_wp2
      go_ret
      refine ⟨by first | rfl | (simp; done) | (simp [H4.out]; done) | (simp [*, H4.out]; done), ?_⟩
      exact (by with_reducible repeat (first | exact HB.out | apply below_alloc | apply pw_below_drewN | apply below_drew1 | refine below_set ?_ GE_p.out | refine below_set ?_ GE_q.out))
  by_cases c1 : a % 4 = 1
  · have HD : Aside0 (decI a = (1, sgn30 (a / 4 % 1073741824), 0, 0, a / 4294967296 % 8, a / 34359738368 % 536870912, false, 0, 0, 0)) := ⟨by unfold decI; rw [if_neg c0, if_pos c1]⟩
    have HV : Aside0 (vldP (1, of / 4, 0, 0, dt % 8, ct % 536870912, false, 0, 0, 0)) := ⟨by unfold vldP; simp; omega⟩
    have hx : (pakI (1, of / 4, 0, 0, dt % 8, ct % 536870912, false, 0, 0, 0) == a) = (sgn30 (a / 4 % 1073741824) == of / 4 && (a / 4294967296 % 8 == dt % 8 && a / 34359738368 % 536870912 == ct % 536870912)) := by
      rw [Bool.eq_iff_iff, beq_iff_eq, eqx HA.out HV.out, HD.out]
      simp
    have h4 : (pakI (1, of / 4, 0, 0, dt % 8, ct % 536870912, false, 0, 0, 0)).tmod 4 = a.tmod 4 := by rw [Int.tmod_eq_emod_of_nonneg (pakI_range _).1, Int.tmod_eq_emod_of_nonneg HA.out.1, pak4 _ (by simp)]; simp; omega
    have HX := Aside0.mk hx
    have H4 := Aside0.mk h4
    have HR := Aside0.mk (pakI_range (1, of / 4, 0, 0, dt % 8, ct % 536870912, false, 0, 0, 0))
    clear hx h4
    refine (Dec_k _ _ _ _ _ _ _ _ _ _ _ HA.out HD.out _ (HG.out.below (by with_reducible repeat (first | exact HB.out | apply below_alloc | apply pw_below_drewN | apply below_drew1)))).mono ?_
    rintro e w2 ⟨rfl, hb⟩
    have nB := Aside0.mk (below_step (by with_reducible repeat (first | exact HB.out | apply below_alloc | apply pw_below_drewN | apply below_drew1)) hb)
    clear HB 
    have HB := nB
    clear nB
    clear hb
    go_wp2_with fail
    have GE_p : Aside0 (w.heap.size ≤ w2.heap.size) := ⟨by have := HB.out.size; first | exact this | omega⟩
    have GE_q : Aside0 (w.heap.size ≤ w2.heap.size + 1) := ⟨by have := HB.out.size; first | exact this | omega⟩
    refine (Enc_k _ _ _ _ _ _ _ _ _ _ HV.out _ (HG.out.below (by with_reducible repeat (first | exact HB.out | apply below_alloc | apply pw_below_drewN | apply below_drew1 | refine below_set ?_ GE_p.out | refine below_set ?_ GE_q.out)))).mono ?_
    rintro e w3 ⟨rfl, hb⟩
    have nB := Aside0.mk (below_step (by with_reducible repeat (first | exact HB.out | apply below_alloc | apply pw_below_drewN | apply below_drew1 | refine below_set ?_ GE_p.out | refine below_set ?_ GE_q.out)) hb)
    have nX_p := Aside0.mk (blk_below (g := w2.heap.size) (by with_reducible repeat (first | exact HX_p.out | (apply blk_newN; first | rfl | (simp; done)) | apply blk_alloc | apply blk_drewN | apply blk_drew | apply blk_far (hp := NE_p_q.out))) hb)
    have nX_q := Aside0.mk (blk_below (g := w2.heap.size + 1) (by with_reducible repeat (first | exact HX_q.out | (apply blk_newN; first | rfl | (simp; done)) | apply blk_alloc | apply blk_drewN | apply blk_drew | apply blk_far (hp := NE_q_p.out))) hb)
    clear HB 
    have HB := nB
    clear nB
    have HX_p := nX_p
    clear nX_p
    have cs_p : ∀ i, w3.cell? ⟨w2.heap.size, i, none⟩ = _ := fun i => blk_cell HX_p.out i
    have fr_p : ∀ i, w3.frozen? ⟨w2.heap.size, i, none⟩ = false := fun i => blk_frozen HX_p.out i
    have lt_p := lt_of_block HX_p.out
    have HX_q := nX_q
    clear nX_q
    have cs_q : ∀ i, w3.cell? ⟨w2.heap.size + 1, i, none⟩ = _ := fun i => blk_cell HX_q.out i
    have fr_q : ∀ i, w3.frozen? ⟨w2.heap.size + 1, i, none⟩ = false := fun i => blk_frozen HX_q.out i
    have lt_q := lt_of_block HX_q.out
    clear hb
    cases h1 : (sgn30 (a / 4 % 1073741824) == of / 4) <;> cases h2 : (a / 4294967296 % 8 == dt % 8) <;> cases h3 : (a / 34359738368 % 536870912 == ct % 536870912)
    all_goals
      have hx := HX.out
      simp only [h1, h2, h3, Bool.and_true, Bool.and_false, Bool.true_and, Bool.false_and] at hx
      have hr := HR.out
      go_wp2_with fail
      go_region_held3 (fun w' => Below w.heap.size w w' ∧ w'.heap[w2.heap.size]? = some (.cells #[.int .i64 (1), .int .i64 (sgn30 (a / 4 % 1073741824)), .int .i64 (0), .int .i64 (0), .int .i64 (a / 4294967296 % 8), .int .i64 (a / 34359738368 % 536870912), .bool (false), .int .i64 (0), .int .u32 (0), .int .u32 (0)] 25 (0, 0)) ∧ (∀ i, w'.cell? ⟨w2.heap.size, i, none⟩ = (#[.int .i64 (1), .int .i64 (sgn30 (a / 4 % 1073741824)), .int .i64 (0), .int .i64 (0), .int .i64 (a / 4294967296 % 8), .int .i64 (a / 34359738368 % 536870912), .bool (false), .int .i64 (0), .int .u32 (0), .int .u32 (0)] : Array Value)[i]?) ∧ w'.heap[w2.heap.size + 1]? = some (.cells #[.int .i64 (1), .int .i64 (of / 4), .int .i64 (0), .int .i64 (0), .int .i64 (dt % 8), .int .i64 (ct % 536870912), .bool (false), .int .i64 (0), .int .u32 (0), .int .u32 (0)] 25 (0, 0)) ∧ (∀ i, w'.cell? ⟨w2.heap.size + 1, i, none⟩ = (#[.int .i64 (1), .int .i64 (of / 4), .int .i64 (0), .int .i64 (0), .int .i64 (dt % 8), .int .i64 (ct % 536870912), .bool (false), .int .i64 (0), .int .u32 (0), .int .u32 (0)] : Array Value)[i]?)) (first | exact ⟨HB.out.drew, HX_p.out, cs_p, HX_q.out, cs_q⟩ | exact ⟨HB.out, HX_p.out, cs_p, HX_q.out, cs_q⟩) (first | (go_at_call 11; refine (Dec_k _ _ _ _ _ _ _ _ _ _ _ HR.out (dec_pak HV.out) _ (HG.out.below (by with_reducible repeat (first | exact HB.out | apply below_alloc | apply pw_below_drewN | apply below_drew1 | refine below_set ?_ GE_p.out | refine below_set ?_ GE_q.out)))).mono ?_; rintro e w9 ⟨rfl, hb⟩; (have nB := Aside0.mk (below_step (by with_reducible repeat (first | exact HB.out | apply below_alloc | apply pw_below_drewN | apply below_drew1 | refine below_set ?_ GE_p.out | refine below_set ?_ GE_q.out)) hb)); (have nX_p := Aside0.mk (blk_below (g := w2.heap.size) (by with_reducible repeat (first | exact HX_p.out | (apply blk_newN; first | rfl | (simp; done)) | apply blk_alloc | apply blk_drewN | apply blk_drew | apply blk_far (hp := NE_p_q.out))) hb)); (have nX_q := Aside0.mk (blk_below (g := w2.heap.size + 1) (by with_reducible repeat (first | exact HX_q.out | (apply blk_newN; first | rfl | (simp; done)) | apply blk_alloc | apply blk_drewN | apply blk_drew | apply blk_far (hp := NE_q_p.out))) hb)); clear HB HX_p cs_p fr_p lt_p HX_q cs_q fr_q lt_q; (have HB := nB); clear nB; (have HX_p := nX_p); clear nX_p; (have cs_p : ∀ i, w9.cell? ⟨w2.heap.size, i, none⟩ = _ := fun i => blk_cell HX_p.out i); (have fr_p : ∀ i, w9.frozen? ⟨w2.heap.size, i, none⟩ = false := fun i => blk_frozen HX_p.out i); (have lt_p := lt_of_block HX_p.out); (have HX_q := nX_q); clear nX_q; (have cs_q : ∀ i, w9.cell? ⟨w2.heap.size + 1, i, none⟩ = _ := fun i => blk_cell HX_q.out i); (have fr_q : ∀ i, w9.frozen? ⟨w2.heap.size + 1, i, none⟩ = false := fun i => blk_frozen HX_q.out i); (have lt_q := lt_of_block HX_q.out); clear hb))
      go_wp2
      go_ret
      refine ⟨by first | rfl | (simp; done) | (simp [H4.out]; done) | (simp [*, H4.out]; done), ?_⟩
      exact (by with_reducible repeat (first | exact HB.out | apply below_alloc | apply pw_below_drewN | apply below_drew1 | refine below_set ?_ GE_p.out | refine below_set ?_ GE_q.out))
  by_cases c2 : a % 4 = 2
  · have HD : Aside0 (decI a = (2, 0, 0, 0, 0, 0, a / 4 % 2 == 1, a / 8 % 536870912, a / 4294967296 % 4294967296, 0)) := ⟨by unfold decI; rw [if_neg c0, if_neg c1, if_pos c2]⟩
    have HV : Aside0 (vldP (2, 0, 0, 0, 0, 0, a / 4 % 2 == 1, a / 8 % 536870912, ct, 0)) := ⟨by unfold vldP; simp; omega⟩
    have hx : (pakI (2, 0, 0, 0, 0, 0, a / 4 % 2 == 1, a / 8 % 536870912, ct, 0) == a) = (a / 4294967296 % 4294967296 == ct) := by
      rw [Bool.eq_iff_iff, beq_iff_eq, eqx HA.out HV.out, HD.out]
      simp
    have h4 : (pakI (2, 0, 0, 0, 0, 0, a / 4 % 2 == 1, a / 8 % 536870912, ct, 0)).tmod 4 = a.tmod 4 := by rw [Int.tmod_eq_emod_of_nonneg (pakI_range _).1, Int.tmod_eq_emod_of_nonneg HA.out.1, pak4 _ (by simp)]; simp; omega
    have HX := Aside0.mk hx
    have H4 := Aside0.mk h4
    have HR := Aside0.mk (pakI_range (2, 0, 0, 0, 0, 0, a / 4 % 2 == 1, a / 8 % 536870912, ct, 0))
    clear hx h4
    refine (Dec_k _ _ _ _ _ _ _ _ _ _ _ HA.out HD.out _ (HG.out.below (by with_reducible repeat (first | exact HB.out | apply below_alloc | apply pw_below_drewN | apply below_drew1)))).mono ?_
    rintro e w2 ⟨rfl, hb⟩
    have nB := Aside0.mk (below_step (by with_reducible repeat (first | exact HB.out | apply below_alloc | apply pw_below_drewN | apply below_drew1)) hb)
    clear HB 
    have HB := nB
    clear nB
    clear hb
    go_wp2_with fail
    have GE_p : Aside0 (w.heap.size ≤ w2.heap.size) := ⟨by have := HB.out.size; first | exact this | omega⟩
    have GE_q : Aside0 (w.heap.size ≤ w2.heap.size + 1) := ⟨by have := HB.out.size; first | exact this | omega⟩
    refine (Enc_k _ _ _ _ _ _ _ _ _ _ HV.out _ (HG.out.below (by with_reducible repeat (first | exact HB.out | apply below_alloc | apply pw_below_drewN | apply below_drew1 | refine below_set ?_ GE_p.out | refine below_set ?_ GE_q.out)))).mono ?_
    rintro e w3 ⟨rfl, hb⟩
    have nB := Aside0.mk (below_step (by with_reducible repeat (first | exact HB.out | apply below_alloc | apply pw_below_drewN | apply below_drew1 | refine below_set ?_ GE_p.out | refine below_set ?_ GE_q.out)) hb)
    have nX_p := Aside0.mk (blk_below (g := w2.heap.size) (by with_reducible repeat (first | exact HX_p.out | (apply blk_newN; first | rfl | (simp; done)) | apply blk_alloc | apply blk_drewN | apply blk_drew | apply blk_far (hp := NE_p_q.out))) hb)
    have nX_q := Aside0.mk (blk_below (g := w2.heap.size + 1) (by with_reducible repeat (first | exact HX_q.out | (apply blk_newN; first | rfl | (simp; done)) | apply blk_alloc | apply blk_drewN | apply blk_drew | apply blk_far (hp := NE_q_p.out))) hb)
    clear HB 
    have HB := nB
    clear nB
    have HX_p := nX_p
    clear nX_p
    have cs_p : ∀ i, w3.cell? ⟨w2.heap.size, i, none⟩ = _ := fun i => blk_cell HX_p.out i
    have fr_p : ∀ i, w3.frozen? ⟨w2.heap.size, i, none⟩ = false := fun i => blk_frozen HX_p.out i
    have lt_p := lt_of_block HX_p.out
    have HX_q := nX_q
    clear nX_q
    have cs_q : ∀ i, w3.cell? ⟨w2.heap.size + 1, i, none⟩ = _ := fun i => blk_cell HX_q.out i
    have fr_q : ∀ i, w3.frozen? ⟨w2.heap.size + 1, i, none⟩ = false := fun i => blk_frozen HX_q.out i
    have lt_q := lt_of_block HX_q.out
    clear hb
    cases h1 : (a / 4294967296 % 4294967296 == ct)
    all_goals
      have hx := HX.out
      simp only [h1, Bool.and_true, Bool.and_false, Bool.true_and, Bool.false_and] at hx
      have hr := HR.out
      go_wp2_with fail
      go_region_held3 (fun w' => Below w.heap.size w w' ∧ w'.heap[w2.heap.size]? = some (.cells #[.int .i64 (2), .int .i64 (0), .int .i64 (0), .int .i64 (0), .int .i64 (0), .int .i64 (0), .bool (a / 4 % 2 == 1), .int .i64 (a / 8 % 536870912), .int .u32 (a / 4294967296 % 4294967296), .int .u32 (0)] 25 (0, 0)) ∧ (∀ i, w'.cell? ⟨w2.heap.size, i, none⟩ = (#[.int .i64 (2), .int .i64 (0), .int .i64 (0), .int .i64 (0), .int .i64 (0), .int .i64 (0), .bool (a / 4 % 2 == 1), .int .i64 (a / 8 % 536870912), .int .u32 (a / 4294967296 % 4294967296), .int .u32 (0)] : Array Value)[i]?) ∧ w'.heap[w2.heap.size + 1]? = some (.cells #[.int .i64 (2), .int .i64 (0), .int .i64 (0), .int .i64 (0), .int .i64 (0), .int .i64 (0), .bool (a / 4 % 2 == 1), .int .i64 (a / 8 % 536870912), .int .u32 (ct), .int .u32 (0)] 25 (0, 0)) ∧ (∀ i, w'.cell? ⟨w2.heap.size + 1, i, none⟩ = (#[.int .i64 (2), .int .i64 (0), .int .i64 (0), .int .i64 (0), .int .i64 (0), .int .i64 (0), .bool (a / 4 % 2 == 1), .int .i64 (a / 8 % 536870912), .int .u32 (ct), .int .u32 (0)] : Array Value)[i]?)) (first | exact ⟨HB.out.drew, HX_p.out, cs_p, HX_q.out, cs_q⟩ | exact ⟨HB.out, HX_p.out, cs_p, HX_q.out, cs_q⟩) (first | (go_at_call 11; refine (Dec_k _ _ _ _ _ _ _ _ _ _ _ HR.out (dec_pak HV.out) _ (HG.out.below (by with_reducible repeat (first | exact HB.out | apply below_alloc | apply pw_below_drewN | apply below_drew1 | refine below_set ?_ GE_p.out | refine below_set ?_ GE_q.out)))).mono ?_; rintro e w9 ⟨rfl, hb⟩; (have nB := Aside0.mk (below_step (by with_reducible repeat (first | exact HB.out | apply below_alloc | apply pw_below_drewN | apply below_drew1 | refine below_set ?_ GE_p.out | refine below_set ?_ GE_q.out)) hb)); (have nX_p := Aside0.mk (blk_below (g := w2.heap.size) (by with_reducible repeat (first | exact HX_p.out | (apply blk_newN; first | rfl | (simp; done)) | apply blk_alloc | apply blk_drewN | apply blk_drew | apply blk_far (hp := NE_p_q.out))) hb)); (have nX_q := Aside0.mk (blk_below (g := w2.heap.size + 1) (by with_reducible repeat (first | exact HX_q.out | (apply blk_newN; first | rfl | (simp; done)) | apply blk_alloc | apply blk_drewN | apply blk_drew | apply blk_far (hp := NE_q_p.out))) hb)); clear HB HX_p cs_p fr_p lt_p HX_q cs_q fr_q lt_q; (have HB := nB); clear nB; (have HX_p := nX_p); clear nX_p; (have cs_p : ∀ i, w9.cell? ⟨w2.heap.size, i, none⟩ = _ := fun i => blk_cell HX_p.out i); (have fr_p : ∀ i, w9.frozen? ⟨w2.heap.size, i, none⟩ = false := fun i => blk_frozen HX_p.out i); (have lt_p := lt_of_block HX_p.out); (have HX_q := nX_q); clear nX_q; (have cs_q : ∀ i, w9.cell? ⟨w2.heap.size + 1, i, none⟩ = _ := fun i => blk_cell HX_q.out i); (have fr_q : ∀ i, w9.frozen? ⟨w2.heap.size + 1, i, none⟩ = false := fun i => blk_frozen HX_q.out i); (have lt_q := lt_of_block HX_q.out); clear hb))
      go_wp2
      go_ret
      refine ⟨by first | rfl | (simp; done) | (simp [H4.out]; done) | (simp [*, H4.out]; done), ?_⟩
      exact (by with_reducible repeat (first | exact HB.out | apply below_alloc | apply pw_below_drewN | apply below_drew1 | refine below_set ?_ GE_p.out | refine below_set ?_ GE_q.out))
  · have HD : Aside0 (decI a = (3, 0, 0, 0, 0, 0, false, 0, a / 4294967296 % 4294967296, a / 4 % 1073741824)) := ⟨by unfold decI; rw [if_neg c0, if_neg c1, if_neg c2]⟩
    have HV : Aside0 (vldP (3, 0, 0, 0, 0, 0, false, 0, ct, a / 4 % 1073741824)) := ⟨by unfold vldP; simp; omega⟩
    have hx : (pakI (3, 0, 0, 0, 0, 0, false, 0, ct, a / 4 % 1073741824) == a) = (a / 4294967296 % 4294967296 == ct) := by
      rw [Bool.eq_iff_iff, beq_iff_eq, eqx HA.out HV.out, HD.out]
      simp
    have h4 : (pakI (3, 0, 0, 0, 0, 0, false, 0, ct, a / 4 % 1073741824)).tmod 4 = a.tmod 4 := by rw [Int.tmod_eq_emod_of_nonneg (pakI_range _).1, Int.tmod_eq_emod_of_nonneg HA.out.1, pak4 _ (by simp)]; simp; omega
    have HX := Aside0.mk hx
    have H4 := Aside0.mk h4
    have HR := Aside0.mk (pakI_range (3, 0, 0, 0, 0, 0, false, 0, ct, a / 4 % 1073741824))
    clear hx h4
    refine (Dec_k _ _ _ _ _ _ _ _ _ _ _ HA.out HD.out _ (HG.out.below (by with_reducible repeat (first | exact HB.out | apply below_alloc | apply pw_below_drewN | apply below_drew1)))).mono ?_
    rintro e w2 ⟨rfl, hb⟩
    have nB := Aside0.mk (below_step (by with_reducible repeat (first | exact HB.out | apply below_alloc | apply pw_below_drewN | apply below_drew1)) hb)
    clear HB 
    have HB := nB
    clear nB
    clear hb
    go_wp2_with fail
    have GE_p : Aside0 (w.heap.size ≤ w2.heap.size) := ⟨by have := HB.out.size; first | exact this | omega⟩
    have GE_q : Aside0 (w.heap.size ≤ w2.heap.size + 1) := ⟨by have := HB.out.size; first | exact this | omega⟩
    refine (Enc_k _ _ _ _ _ _ _ _ _ _ HV.out _ (HG.out.below (by with_reducible repeat (first | exact HB.out | apply below_alloc | apply pw_below_drewN | apply below_drew1 | refine below_set ?_ GE_p.out | refine below_set ?_ GE_q.out)))).mono ?_
    rintro e w3 ⟨rfl, hb⟩
    have nB := Aside0.mk (below_step (by with_reducible repeat (first | exact HB.out | apply below_alloc | apply pw_below_drewN | apply below_drew1 | refine below_set ?_ GE_p.out | refine below_set ?_ GE_q.out)) hb)
    have nX_p := Aside0.mk (blk_below (g := w2.heap.size) (by with_reducible repeat (first | exact HX_p.out | (apply blk_newN; first | rfl | (simp; done)) | apply blk_alloc | apply blk_drewN | apply blk_drew | apply blk_far (hp := NE_p_q.out))) hb)
    have nX_q := Aside0.mk (blk_below (g := w2.heap.size + 1) (by with_reducible repeat (first | exact HX_q.out | (apply blk_newN; first | rfl | (simp; done)) | apply blk_alloc | apply blk_drewN | apply blk_drew | apply blk_far (hp := NE_q_p.out))) hb)
    clear HB 
    have HB := nB
    clear nB
    have HX_p := nX_p
    clear nX_p
    have cs_p : ∀ i, w3.cell? ⟨w2.heap.size, i, none⟩ = _ := fun i => blk_cell HX_p.out i
    have fr_p : ∀ i, w3.frozen? ⟨w2.heap.size, i, none⟩ = false := fun i => blk_frozen HX_p.out i
    have lt_p := lt_of_block HX_p.out
    have HX_q := nX_q
    clear nX_q
    have cs_q : ∀ i, w3.cell? ⟨w2.heap.size + 1, i, none⟩ = _ := fun i => blk_cell HX_q.out i
    have fr_q : ∀ i, w3.frozen? ⟨w2.heap.size + 1, i, none⟩ = false := fun i => blk_frozen HX_q.out i
    have lt_q := lt_of_block HX_q.out
    clear hb
    cases h1 : (a / 4294967296 % 4294967296 == ct)
    all_goals
      have hx := HX.out
      simp only [h1, Bool.and_true, Bool.and_false, Bool.true_and, Bool.false_and] at hx
      have hr := HR.out
      go_wp2_with fail
      go_region_held3 (fun w' => Below w.heap.size w w' ∧ w'.heap[w2.heap.size]? = some (.cells #[.int .i64 (3), .int .i64 (0), .int .i64 (0), .int .i64 (0), .int .i64 (0), .int .i64 (0), .bool (false), .int .i64 (0), .int .u32 (a / 4294967296 % 4294967296), .int .u32 (a / 4 % 1073741824)] 25 (0, 0)) ∧ (∀ i, w'.cell? ⟨w2.heap.size, i, none⟩ = (#[.int .i64 (3), .int .i64 (0), .int .i64 (0), .int .i64 (0), .int .i64 (0), .int .i64 (0), .bool (false), .int .i64 (0), .int .u32 (a / 4294967296 % 4294967296), .int .u32 (a / 4 % 1073741824)] : Array Value)[i]?) ∧ w'.heap[w2.heap.size + 1]? = some (.cells #[.int .i64 (3), .int .i64 (0), .int .i64 (0), .int .i64 (0), .int .i64 (0), .int .i64 (0), .bool (false), .int .i64 (0), .int .u32 (ct), .int .u32 (a / 4 % 1073741824)] 25 (0, 0)) ∧ (∀ i, w'.cell? ⟨w2.heap.size + 1, i, none⟩ = (#[.int .i64 (3), .int .i64 (0), .int .i64 (0), .int .i64 (0), .int .i64 (0), .int .i64 (0), .bool (false), .int .i64 (0), .int .u32 (ct), .int .u32 (a / 4 % 1073741824)] : Array Value)[i]?)) (first | exact ⟨HB.out.drew, HX_p.out, cs_p, HX_q.out, cs_q⟩ | exact ⟨HB.out, HX_p.out, cs_p, HX_q.out, cs_q⟩) (first | (go_at_call 11; refine (Dec_k _ _ _ _ _ _ _ _ _ _ _ HR.out (dec_pak HV.out) _ (HG.out.below (by with_reducible repeat (first | exact HB.out | apply below_alloc | apply pw_below_drewN | apply below_drew1 | refine below_set ?_ GE_p.out | refine below_set ?_ GE_q.out)))).mono ?_; rintro e w9 ⟨rfl, hb⟩; (have nB := Aside0.mk (below_step (by with_reducible repeat (first | exact HB.out | apply below_alloc | apply pw_below_drewN | apply below_drew1 | refine below_set ?_ GE_p.out | refine below_set ?_ GE_q.out)) hb)); (have nX_p := Aside0.mk (blk_below (g := w2.heap.size) (by with_reducible repeat (first | exact HX_p.out | (apply blk_newN; first | rfl | (simp; done)) | apply blk_alloc | apply blk_drewN | apply blk_drew | apply blk_far (hp := NE_p_q.out))) hb)); (have nX_q := Aside0.mk (blk_below (g := w2.heap.size + 1) (by with_reducible repeat (first | exact HX_q.out | (apply blk_newN; first | rfl | (simp; done)) | apply blk_alloc | apply blk_drewN | apply blk_drew | apply blk_far (hp := NE_q_p.out))) hb)); clear HB HX_p cs_p fr_p lt_p HX_q cs_q fr_q lt_q; (have HB := nB); clear nB; (have HX_p := nX_p); clear nX_p; (have cs_p : ∀ i, w9.cell? ⟨w2.heap.size, i, none⟩ = _ := fun i => blk_cell HX_p.out i); (have fr_p : ∀ i, w9.frozen? ⟨w2.heap.size, i, none⟩ = false := fun i => blk_frozen HX_p.out i); (have lt_p := lt_of_block HX_p.out); (have HX_q := nX_q); clear nX_q; (have cs_q : ∀ i, w9.cell? ⟨w2.heap.size + 1, i, none⟩ = _ := fun i => blk_cell HX_q.out i); (have fr_q : ∀ i, w9.frozen? ⟨w2.heap.size + 1, i, none⟩ = false := fun i => blk_frozen HX_q.out i); (have lt_q := lt_of_block HX_q.out); clear hb))
      go_wp2
      go_ret
      refine ⟨by first | rfl | (simp; done) | (simp [H4.out]; done) | (simp [*, H4.out]; done), ?_⟩
      exact (by with_reducible repeat (first | exact HB.out | apply below_alloc | apply pw_below_drewN | apply below_drew1 | refine below_set ?_ GE_p.out | refine below_set ?_ GE_q.out))
end Go.Proofs.YtlkcmpamjheldaaDoor.P
