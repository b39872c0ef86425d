import Derived.Test.YtlkcmpamjheldaaPuArena
import Derived.Test.YtlkcmpamjheldaaPuAwake05
import Derived.LoopTactic
set_option linter.unusedVariables false
set_option linter.unusedSimpArgs false
namespace Go.Proofs.Ytlkcmpamjheldaa.P
open Go.RowKit Go.Proofs.YtlkcmpamjheldaaW.PrintWords Go.Proofs.YtlkcmpamjheldaaW.PrintLast Go.Proofs.YtlkcmpamjheldaaW.PrintMore
set_option maxHeartbeats 1600000 in
set_option maxRecDepth 100000 in
theorem ArenaDoesNotAlias_walk (A0 : Option Addr) (c0 : Nat) (l0 : List Int) (hW : Words l0) (a : Int) (ha : 0 ≤ a ∧ a ≤ 255) (n : Int) (hn : 0 ≤ n ∧ n ≤ 255) (w : World) (hr0 : Kd.C (Kd.int .u64) w A0 l0.length l0) (hc0 : l0.length ≤ c0) :
    Calls Try.prog 6 #[.slice A0 l0.length c0, .int .u8 a, .int .u8 n] w fun e w' => e = .returned (.bool true) ∧ Below w.heap.size w w' := by
  have HR0 := Aside0.mk hr0
  have HC0 := Aside0.mk hc0
  clear hr0 hc0
  go_enter Try.func6, Try.ntmps6
  go_wp2_with fail
  refine (capnplaw05_awake.calls 30 true w (awake_eq 30 (by decide))).mono ?_
  rintro e w1 ⟨rfl, hb⟩
  have HB := Aside0.mk hb
  clear hb
  by_cases hlen : l0.length ≤ 300
  · go_wp2_with ((with_reducible refine gate_dst (N := 20) rfl ?_); refine Kd.R_lit (Kd.int .u64) _ 25 ?hg (N := 20) ?hd (xs := ([] : List Int)) (inner := []) (ok := fun _ => True) (okp := fun _ => True) ?hr ?hp (fun _ hk => hk) trivial (Below.refl _ _) (Nat.le_refl _) (by simp) ?_; (case hd => rfl); (case hg => rfl); (case hr => first | (go_simp; done) | (go_simp; rfl)); (case hp => exact (Reps.none _ _)))
    intro v2 w2 ho2 hb2 hg2 _ _ _
    clear hg2
    have hs2 := hb2.size
    have HR2 := Aside0.mk (Kd.C_below HR0.out (below_step HB.out hb2))
    go_wp2_with ((with_reducible refine gate_dst (N := 22) rfl ?_); refine Kd.R_append_rows (Kd.int .u64) (w0 := w1) w1.heap.size rfl (.tmp 20) (.tmp 21) 28 25 (.int .u64 0) 8 rfl Try.underlying28 info25 rfl (by decide) (by omega) v2 [] l0 _ _ _ (fun _ => True) (fun _ => False) rfl rfl ho2 HR2.out (fun _ _ h => h) (fun _ h => h.elim) (fun _ _ => trivial) hb2 hs2 (by simp; omega) ?_)
    intro v3 w3 ho3 hb3 hg3 hat3
    obtain ⟨Ao, co, rfl, hlo, hCo⟩ := Kd.R_reads ho3
    clear hg3 hat3 ho2 ho3 hb2 HR2
    have hs3 := hb3.size
    have HB3 := Aside0.mk (below_step HB.out hb3)
    have HR3 := Aside0.mk (Kd.C_below HR0.out HB3.out)
    have HO3 := Aside0.mk hCo
    have HLO := Aside0.mk hlo
    clear hCo hb3 HB hlo
    go_wp2_with fail
    have hS : Segs [l0] := ⟨by simp, fun s hs => by rw [List.mem_singleton.1 hs]; exact hW⟩
    obtain ⟨r1, r2, hf, hlr⟩ : ∃ r1 r2, arena_Slice.f [l0] 0 a n = some (r1, r2) ∧ r1.length ≤ 300 := by
      rw [Slice_eq hS _ _ _ (by omega)]
      by_cases hb : inB [l0] 0 a n
      · rw [if_pos hb]
        exact ⟨_, _, rfl, by unfold cut; rw [List.length_take]; omega⟩
      · rw [if_neg hb]
        exact ⟨_, _, rfl, by simp⟩
    have hC4 : Kd.C (Kd.slice 25 (Kd.int .u64)) (w3.alloc (Obj.cells #[Value.slice Ao l0.length co] 28)) (some ⟨w3.heap.size, 0, none⟩) [l0].length [l0] := by
      refine ⟨rfl, by simp, fun _ => ⟨_, rfl, fun j p hj => ?_⟩⟩
      obtain rfl : j = 0 := by have := (List.getElem?_eq_some_iff.1 hj).1; simpa using this
      obtain rfl : l0 = p := by simpa using hj
      refine ⟨[.slice Ao l0.length co], rfl, ⟨Ao, co, rfl, HLO.out, Kd.C_alloc HO3.out _⟩, fun i u hu => ?_⟩
      obtain rfl : i = 0 := by have := (List.getElem?_eq_some_iff.1 hu).1; simpa using this
      obtain rfl : Value.slice Ao l0.length co = u := by simpa using hu
      exact cell_one_new _ _ _ 0 _ rfl
    refine (arena_Slice.calls _ 1 [l0] 0 a n r1 r2 _ hC4 (by simp) hf).mono ?_
    rintro e w5 ⟨v5, rfl, ho5, hb5⟩
    clear hC4 hf hS
    have HB5 := Aside0.mk (show Below w3.heap.size w3 w5 from below_step (below_alloc (Below.refl _ _) _) hb5)
    have hs5 := hb5.size
    obtain ⟨ho, hor⟩ := Kd.own_of_R ho5
    rcases hor with ⟨rfl, hz⟩ | ⟨g, cap, cur, rfl, hg, hh, hr⟩
    · clear ho5 hb5 hz ho
      go_wp2_with fail
      refine wp_loop_rounds 1 ?_
      rw [rounds_succ]
      go_wp2_with fail
      refine (capnpref01_SameWords.calls 400 _ _ _ _ _ _ true _ (Kd.C_below HO3.out HB5.out) HLO.out (Kd.C_below HR3.out HB5.out) HC0.out (by rw [SameWords_eq _ _ (by omega) _ (by omega), decide_eq_true rfl])).mono ?_
      rintro e w6 ⟨rfl, hb⟩
      have HB6 := Aside0.mk (below_step HB3.out (below_step HB5.out hb.below))
      go_wp2
      go_ret
      exact ⟨by first | rfl | (simp; done), HB6.out⟩
    · have hR := Kd.R_lower (base' := w3.heap.size) ho5 (by simp)
      clear ho5 hb5 hh ho hr
      go_wp2_with fail
      go_loopw [11] (fun i wr => ∃ (k : Nat) (xs : List Int), k ≤ r1.length ∧ i = .int .i64 k ∧ xs.length = r1.length ∧ (Kd.int .u64).R 25 wr w3.heap.size (fun _ => True) (.slice (some ⟨g, 0, none⟩) xs.length cap) xs ∧ Below w3.heap.size w3 wr) (fun i _ => r1.length - (intOf i).toNat)
      case atStart => exact ⟨0, r1, by omega, rfl, rfl, hR, HB5.out⟩
      case round =>
        obtain ⟨k, xs, hk, rfl, hx, hrx, hbx⟩ := hrel
        by_cases hlt : k < r1.length
        · obtain ⟨hcell, hfz⟩ := Kd.R_cell (enc := Value.int .u64) (h1 := fun _ => rfl) (0 : Int) hrx k (by omega) (by omega)
          obtain ⟨hput, hgr⟩ := Kd.R_put (enc := Value.int .u64) (h1 := fun _ => rfl) hrx k (IntKind.u64.wrap (rdOf 0 xs k + 1))
          rw [Int.toNat_natCast] at hcell hfz hput hgr
          have HP := Aside0.mk hput
          have HX := Aside0.mk hbx
          clear hput hgr hrx hbx hR
          go_wp2_with fail
          refine ⟨⟨k + 1, xs.set k (IntKind.u64.wrap (rdOf 0 xs k + 1)), by omega, by push_cast; rfl, by rw [List.length_set, hx], ?_, HX.out.setCell (by simp at hg ⊢; omega) _⟩, by simp [intOf]; omega⟩
          rw [List.length_set]
          exact HP.out
        · have HX := Aside0.mk hbx
          clear hrx hbx hR
          go_wp2_with fail
          refine (capnpref01_SameWords.calls 400 _ _ _ _ _ _ true _ (Kd.C_below HO3.out HX.out) HLO.out (Kd.C_below HR3.out HX.out) HC0.out (by rw [SameWords_eq _ _ (by omega) _ (by omega), decide_eq_true rfl])).mono ?_
          rintro e w6 ⟨rfl, hb⟩
          have HB6 := Aside0.mk (below_step HB3.out (below_step HX.out hb.below))
          go_wp2
          go_ret
          exact ⟨by first | rfl | (simp; done), HB6.out⟩
  · go_wp2_with fail
    refine (capnplaw05_awake.calls 30 true _ (awake_eq 30 (by decide))).mono ?_
    rintro e w2 ⟨rfl, hb⟩
    have HB := Aside0.mk (below_step HB.out hb)
    clear hb
    go_wp2
    go_ret
    exact ⟨by first | rfl | (simp; done), HB.out⟩
end Go.Proofs.Ytlkcmpamjheldaa.P
