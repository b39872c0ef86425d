-- Printed by this session's wip/pp.py, out of Lean's print of the program.
import Derived.Test.YtlkcmpamjheldaaPx0
import Derived.Test.YtlkcmpamjheldaaPx1
namespace Go.Proofs.Ytlkcmpamjheldaa.P
open Go.RowKit Go.Proofs.YtlkcmpamjheldaaW.PrintWords Go.Proofs.YtlkcmpamjheldaaW.PrintLast Go.Proofs.YtlkcmpamjheldaaW.PrintMore
attribute [local go_sem] max2_int min2_int max_two min_two max_three min_three max_four min_four   -- for this text's walks alone
set_option linter.unusedVariables false
set_option linter.unusedSimpArgs false

/-! ### arena_Slice: function 11 -/
def arena_Slice.f (l0 : List (List Int)) (a1 : Int) (a2 : Int) (a3 : Int) : Option (List Int × Bool) := (arena_InBounds.f l0 a1 a2 a3).bind fun t => if t = true then (if 0 ≤ a1 ∧ a1 < (l0.length : Int) ∧ 0 ≤ a2 ∧ 0 ≤ a3 ∧ a2 + a3 ≤ ((rd_L1 l0 a1).length : Int) ∧ a3 < 17592186044416 then some (((rd_L1 l0 a1).drop a2.toNat).take a3.toNat, true) else none) else some ([], false)
set_option maxHeartbeats 1600000 in
set_option maxRecDepth 100000 in
theorem arena_Slice.calls (A0 : Option Addr) (c0 : Nat) (l0 : List (List Int)) (a1 : Int) (a2 : Int) (a3 : Int) (r1 : List Int) (r2 : Bool) (w : World) (hr0 : Kd.C (Kd.slice 25 (Kd.int .u64)) w A0 l0.length l0) (hc0 : l0.length ≤ c0) (h : arena_Slice.f l0 a1 a2 a3 = some (r1, r2)) :
    Calls Try.prog 11 #[.slice A0 l0.length c0, .int .i64 a1, .int .i64 a2, .int .i64 a3] w fun e w' => ∃ v0_ : Value, e = .returned (.tuple #[v0_, .bool r2]) ∧ Kd.R (Kd.int .u64) 25 w' w.heap.size (fun _ => True) v0_ r1 ∧ Below w.heap.size w w' := by
  have HR0 := Aside0.mk hr0
  have HC0 := Aside0.mk hc0
  clear hr0 hc0
  unfold arena_Slice.f at h
  obtain ⟨t, ht, h⟩ := Option.bind_eq_some_iff.mp h
  have Ht := Aside0.mk ht
  clear ht
  cases t
  · simp only [Bool.false_eq_true, if_false, Option.some.injEq, Prod.mk.injEq] at h
    obtain ⟨rfl, rfl⟩ := h
    go_enter Try.func11, Try.ntmps11
    go_wp2_with fail
    refine (arena_InBounds.calls _ _ _ _ _ _ _ _ HR0.out HC0.out Ht.out).mono ?_
    rintro e w1 ⟨rfl, hd⟩
    have HB := Aside0.mk hd.below
    clear hd
    go_wp2
    go_ret2
    exact ⟨_, by first | rfl | (simp; done), Kd.R_nil _ _ _ _ _, HB.out⟩
  · rw [if_pos rfl] at h
    split at h
    · rename_i hc
      obtain ⟨h1, h2, h3, h4, h5, h6⟩ := hc
      simp only [Option.some.injEq, Prod.mk.injEq] at h
      obtain ⟨rfl, rfl⟩ := h
      obtain ⟨m, rfl⟩ := Int.eq_ofNat_of_zero_le h4
      obtain ⟨i, rfl⟩ := Int.eq_ofNat_of_zero_le h1
      obtain ⟨b, rfl⟩ := Int.eq_ofNat_of_zero_le h3
      obtain ⟨ad, A1, c1, rfl, hcell, hle, hC⟩ := at_L1 HR0.out i h1 h2
      have HC := Aside0.mk hC
      clear hC
      obtain ⟨io, hio, _, hsz, _⟩ := info_parts info25
      have hcut := cut_from (P := Try.prog) 28 25 .i64 Try.underlying28 hio 1 hsz A1 (rd_L1 l0 i).length c1 b (by omega) (by omega)
      have hD := Kd.C_drop (c := c1) HC.out (show b ≤ (rd_L1 l0 i).length by omega) hle
      have hm : m ≤ ((rd_L1 l0 i).drop b).length := by rw [List.length_drop]; omega
      rw [show ((b : Int).toNat * 1) = b * (Kd.int .u64).sz from rfl, Int.toNat_natCast] at hcut
      generalize hA2 : (if c1 = b then A1 else Option.map (fun x => x.add (b * (Kd.int IntKind.u64).sz)) A1) = A2 at hcut hD
      have hl : (rd_L1 l0 i).length - b = ((rd_L1 l0 i).drop b).length := List.length_drop.symm
      rw [hl] at hcut
      generalize hy : (rd_L1 l0 i).drop b = ys at hcut hD hm
      generalize hn : ys.length = n2 at hcut hD hm
      have HD := Aside0.mk hD
      have HM := Aside0.mk (show m < 17592186044416 ∧ m ≤ n2 by omega)
      have HY := Aside0.mk hy
      have HN := Aside0.mk hn
      clear hl hD hA2 hy hn hm
      clear h5 h6 h1 h3 h4 h
      go_enter Try.func11, Try.ntmps11
      go_wp2_with fail
      refine (arena_InBounds.calls _ _ _ _ _ _ _ _ HR0.out HC0.out Ht.out).mono ?_
      rintro e w1 ⟨rfl, hd⟩
      have HB := Aside0.mk hd.below
      have hs1 := HB.out.size
      clear hd
      go_wp2_with ((with_reducible refine gate_dst (N := 18) rfl ?_); refine Kd.R_make (Kd.int .u64) w.heap.size 25 rfl (N := 18) rfl 28 _ _ rfl m rfl rfl Try.underlying28 (.int .u64 0) 8 info25 rfl (by decide) (by omega) 0 (ok := fun _ => True) (okp := fun _ => False) rfl (fun _ hk => hk.elim) trivial (by omega) (by have := HM.out.1; omega) HB.out hs1 ?_)
      intro v1 w2 hR hB2 hg2 hb2 _ _
      have hs2 := hB2.size
      have hc2 := (hB2.cell (p := ad.add i) (by have := World.block_lt_of_cell? _ _ hcell; simpa using this)).trans hcell
      go_wp2_with ((with_reducible refine gate_dst (N := 26) rfl ?_); refine Kd.R_copy (P := Try.prog) (h1 := fun _ => rfl) 0 w.heap.size rfl (.tmp 19) (.tmp 25) 28 28 25 rfl Try.underlying28 (by kernel_rfl) _ _ _ _ _ _ (fun _ => True) rfl rfl hR (Kd.C_below HD.out hB2) hB2 hs2 ?_)
      intro w3 hR3 hB3 _
      have HR3 := Aside0.mk hR3
      have HB3 := Aside0.mk hB3
      clear hR3 hB3 hR hB2 hg2
      go_wp2
      go_ret2
      refine ⟨_, by first | rfl | (simp; done), ?_, HB3.out⟩
      have hr := HR3.out
      rw [show min n2 m = m by have := HM.out; omega, Nat.sub_self, List.replicate_zero, List.append_nil] at hr
      rw [show ((b : Nat) : Int).toNat = b from rfl, show ((m : Nat) : Int).toNat = m from rfl, HY.out]
      exact hr
    · exact absurd h (by simp)

end Go.Proofs.Ytlkcmpamjheldaa.P
