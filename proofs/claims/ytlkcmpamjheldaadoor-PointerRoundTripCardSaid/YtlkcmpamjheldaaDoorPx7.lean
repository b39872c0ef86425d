-- Printed by this session's wip/pp.py, out of Lean's print of the program.
import Derived.Test.YtlkcmpamjheldaaDoorPx0
import Derived.Test.YtlkcmpamjheldaaDoorPx2
import Derived.Test.YtlkcmpamjheldaaDoorPx4
import Derived.Test.YtlkcmpamjheldaaDoorPx5
import Derived.Test.YtlkcmpamjheldaaDoorPx6
namespace Go.Proofs.YtlkcmpamjheldaaDoor.P
open Go.RowKit Go.Proofs.YtlkcmpamjheldaaDoorW.PrintWords Go.Proofs.YtlkcmpamjheldaaDoorW.PrintLast Go.Proofs.YtlkcmpamjheldaaDoorW.PrintMore
attribute [local go_sem] max2_int min2_int max_two min_two max_three min_three max_four min_four   -- for this text's walks alone
set_option linter.unusedVariables false
set_option linter.unusedSimpArgs false

/-! ### pointer_Decode: function 11 -/
def pointer_Decode.f (a0 : Int) : Option (Int × Int × Int × Int × Int × Int × Bool × Int × Int × Int) := (word_Field.f a0 0 2).bind fun k => if k = 0 then ((pointer_decoders_1.f a0).bind fun r => some (0, r.2)) else (if k = 1 then ((pointer_decoders_2.f a0).bind fun r => some (1, r.2)) else (if k = 2 then ((pointer_decoders_3.f a0).bind fun r => some (2, r.2)) else (if k = 3 then ((pointer_decoders_4.f a0).bind fun r => some (3, r.2)) else none)))
theorem pointer_Decode.cases (a0 : Int) (r1 r2 r3 r4 r5 r6 : Int) (r7 : Bool) (r8 r9 r10 : Int) (h : pointer_Decode.f a0 = some (r1, r2, r3, r4, r5, r6, r7, r8, r9, r10)) :
    (∃ r, word_Field.f a0 0 2 = some 0 ∧ r1 = 0 ∧ pointer_decoders_1.f a0 = some (r, r2, r3, r4, r5, r6, r7, r8, r9, r10)) ∨ (∃ r, word_Field.f a0 0 2 = some 1 ∧ r1 = 1 ∧ pointer_decoders_2.f a0 = some (r, r2, r3, r4, r5, r6, r7, r8, r9, r10)) ∨
    (∃ r, word_Field.f a0 0 2 = some 2 ∧ r1 = 2 ∧ pointer_decoders_3.f a0 = some (r, r2, r3, r4, r5, r6, r7, r8, r9, r10)) ∨ (∃ r, word_Field.f a0 0 2 = some 3 ∧ r1 = 3 ∧ pointer_decoders_4.f a0 = some (r, r2, r3, r4, r5, r6, r7, r8, r9, r10)) := by
  unfold pointer_Decode.f at h
  obtain ⟨k, hk, h⟩ := Option.bind_eq_some_iff.mp h
  split at h
  · obtain ⟨⟨r, q⟩, hr, h⟩ := Option.bind_eq_some_iff.mp h
    simp only [Option.some.injEq, Prod.mk.injEq] at h
    obtain ⟨rfl, rfl⟩ := h
    exact .inl ⟨r, by simp_all, rfl, hr⟩
  split at h
  · obtain ⟨⟨r, q⟩, hr, h⟩ := Option.bind_eq_some_iff.mp h
    simp only [Option.some.injEq, Prod.mk.injEq] at h
    obtain ⟨rfl, rfl⟩ := h
    exact .inr (.inl ⟨r, by simp_all, rfl, hr⟩)
  split at h
  · obtain ⟨⟨r, q⟩, hr, h⟩ := Option.bind_eq_some_iff.mp h
    simp only [Option.some.injEq, Prod.mk.injEq] at h
    obtain ⟨rfl, rfl⟩ := h
    exact .inr (.inr (.inl ⟨r, by simp_all, rfl, hr⟩))
  split at h
  · obtain ⟨⟨r, q⟩, hr, h⟩ := Option.bind_eq_some_iff.mp h
    simp only [Option.some.injEq, Prod.mk.injEq] at h
    obtain ⟨rfl, rfl⟩ := h
    exact .inr (.inr (.inr ⟨r, by simp_all, rfl, hr⟩))
  · exact absurd h (by simp)
set_option maxHeartbeats 1600000 in
set_option maxRecDepth 100000 in
theorem pointer_Decode.calls (a0 : Int) (r1 : Int) (r2 : Int) (r3 : Int) (r4 : Int) (r5 : Int) (r6 : Int) (r7 : Bool) (r8 : Int) (r9 : Int) (r10 : Int) (w : World) (hG : Glob w) (h : pointer_Decode.f a0 = some (r1, r2, r3, r4, r5, r6, r7, r8, r9, r10)) :
    Calls Tryd.prog 11 #[.int .u64 a0] w fun e w' => e = .returned (.agg #[.int .i64 r1, .int .i64 r2, .int .i64 r3, .int .i64 r4, .int .i64 r5, .int .i64 r6, .bool r7, .int .i64 r8, .int .u32 r9, .int .u32 r10]) ∧ Below w.heap.size w w' := by
  obtain ⟨bm, es, clock, hc, hm, hl⟩ := hG.dec
  have Hl := Aside0.mk hl
  clear hl hG
  have hsz : 0 < w.heap.size := World.block_lt_of_cell? w _ hc
  rcases pointer_Decode.cases _ _ _ _ _ _ _ _ _ _ _ h with ⟨r, hk, hr1, hd⟩ | ⟨r, hk, hr1, hd⟩ | ⟨r, hk, hr1, hd⟩ | ⟨r, hk, hr1, hd⟩
  all_goals
    have Hk := Aside0.mk hk
    have H := Aside0.mk hd
    have Hr := Aside0.mk hr1
    clear h hk hd hr1
    go_enter Tryd.func11, Tryd.ntmps11
    go_wp2_with fail
    refine (word_Field.calls a0 0 2 _ _ Hk.out).mono ?_
    rintro e w1 ⟨rfl, hd⟩
    have hb1 := hd.below
    clear hd
    have hc1 := (hb1.cell (p := ⟨0, 0, none⟩) (by simp)).trans (World.cell?_alloc_past _ _ _ hsz |>.trans hc)
    have hm1 : w1.heap[bm]? = some (.map es clock) := blk_below (blk_alloc hm _) hb1
    obtain ⟨hl0, hl1, hl2, hl3⟩ := Hl.out w1 hm1
    have hx1 := blk_below (blk_new w _) hb1
    have HB1 := Aside0.mk (below_step (below_alloc (Below.refl w.heap.size w) _) hb1)
    clear hb1
    go_wp2_with fail
    first
    | (go_at_call 41; refine (pointer_decoders_1.calls a0 _ _ _ _ _ _ _ _ _ _ _ H.out).mono ?_)
    | (go_at_call 43; refine (pointer_decoders_2.calls a0 _ _ _ _ _ _ _ _ _ _ _ H.out).mono ?_)
    | (go_at_call 44; refine (pointer_decoders_3.calls a0 _ _ _ _ _ _ _ _ _ _ _ H.out).mono ?_)
    | (go_at_call 45; refine (pointer_decoders_4.calls a0 _ _ _ _ _ _ _ _ _ _ _ H.out).mono ?_)
    rintro e w2 ⟨rfl, hb2⟩
    have hx2 := blk_below hx1 hb2
    have HB2 := Aside0.mk (below_step HB1.out hb2)
    have hs2 : w.heap.size < w2.heap.size := lt_of_block hx2
    have hcs : ∀ i, w2.cell? ⟨w.heap.size, i, none⟩ = _ := fun i => blk_cell hx2 i
    have hfr : ∀ i, w2.frozen? ⟨w.heap.size, i, none⟩ = false := fun i => blk_frozen hx2 i
    clear hb2 hc1 hm1 hl0 hl1 hl2 hl3 hx1 hc hm HB1
    go_wp2
    refine bodyPost_ret (v := .agg #[.int .i64 r1, .int .i64 r2, .int .i64 r3, .int .i64 r4, .int .i64 r5, .int .i64 r6, .bool r7, .int .i64 r8, .int .u32 r9, .int .u32 r10]) (by rw [Hr.out]; simp [results, Tryd.results11, go_sem, hcs, hfr, hs2]) rfl ⟨rfl, ?_⟩
    repeat (with_reducible first | exact HB2.out | apply below_alloc | refine below_set ?_ (Nat.le_refl _))

end Go.Proofs.YtlkcmpamjheldaaDoor.P
