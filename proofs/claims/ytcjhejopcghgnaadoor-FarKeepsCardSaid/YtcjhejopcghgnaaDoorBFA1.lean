/- The texts of this session that come first, joined by wip/merge.py. -/
import Derived.Test.YtcjhejopcghgnaaDoorProg
import Derived.Below
import Derived.WalkKit
import Derived.KernelRfl
import Derived.Test.YtcjhejopcghgnaaDoorWWords
import Derived.Deep.Draws
import Derived.Deep.AppendLies
import Derived.Maps.AppendAt
import Derived.OwnWalk
import Derived.Laws.BytesArg
import Derived.Laws.MakeOwn
import Derived.Laws.OwnMore
import Derived.Deep.OwnRows
import Derived.Tactics
import Derived.Lib.ConvBytes
import Derived.Laws.Slices
import Derived.RowKit3
import Derived.Deep.LoopGhost
import Derived.Deep.QuietTactic
import Derived.BigQuiet
import Derived.WideLaws
import Derived.Deep.DeepCutAuto
import Derived.Deep.CutBlock
import Derived.Deep.RegionHeld3
import Derived.Laws.Rows
import Derived.Lib.AppendStr
import Derived.ArgAppend
import Derived.Laws.IdiomCopy
import Derived.OrdersHeld
import Derived.Laws.BitsLemmas
import Derived.RowKit
import Derived.Test.YtcjhejopcghgnaaDoorWLast
import Derived.Test.YtcjhejopcghgnaaDoorWTab
import Derived.Test.YtcjhejopcghgnaaDoorWFour
import Derived.Test.YtcjhejopcghgnaaDoorWQPut
import Derived.Test.YtcjhejopcghgnaaDoorWApart
import Derived.Test.YtcjhejopcghgnaaDoorWArr
import Derived.Test.YtcjhejopcghgnaaDoorWZeros
import Derived.Test.YtcjhejopcghgnaaDoorWFoot
import Derived.Test.YtcjhejopcghgnaaDoorWKept
import Derived.Test.YtcjhejopcghgnaaDoorWShare
import Derived.Test.YtcjhejopcghgnaaDoorWN
import Derived.Test.YtcjhejopcghgnaaDoorWFootNe
import Derived.Test.YtcjhejopcghgnaaDoorWAt
import Derived.Test.YtcjhejopcghgnaaDoorWEqStruct
import Derived.Test.YtcjhejopcghgnaaDoorWRepsOne
import Derived.Test.YtcjhejopcghgnaaDoorWInv
import Derived.Test.YtcjhejopcghgnaaDoorWInvWords
import Derived.Test.YtcjhejopcghgnaaDoorWGuard
import Derived.Test.YtcjhejopcghgnaaDoorWNEv
import Derived.Test.YtcjhejopcghgnaaDoorWMore
set_option linter.unusedVariables false
namespace Go.Proofs.YtcjhejopcghgnaaDoor.P
open Go.RowKit
/-- The widths of list elements. -/
def bitsOf (i : Nat) : Int := [0, 1, 8, 16, 32, 64, 64, 0].getD i 0
/-- What the package variables hold: the table of decoders, its look-ups answered in every world that keeps its block. -/
structure Glob (gb : Bool) (w : World) : Prop where
  dec : ∃ bm es clock, w.cell? ⟨0, 0, none⟩ = some (.map (some bm)) ∧ w.heap[bm]? = some (.map es clock) ∧
    ∀ W : World, W.heap[bm]? = some (.map es clock) →
      (Instr.lookup 70 (.map (some bm)) (.int .i64 0) false).run Tryd.prog W = .ok (.func (.func 75) #[] #[]) W ∧
      (Instr.lookup 70 (.map (some bm)) (.int .i64 1) false).run Tryd.prog W = .ok (.func (.func 77) #[] #[]) W ∧
      (Instr.lookup 70 (.map (some bm)) (.int .i64 2) false).run Tryd.prog W = .ok (.func (.func 78) #[] #[]) W ∧
      (Instr.lookup 70 (.map (some bm)) (.int .i64 3) false).run Tryd.prog W = .ok (.func (.func 79) #[] #[]) W
  bits : gb = true → ∀ i : Nat, i < 8 → w.cell? ⟨1, i, none⟩ = some (.int .i64 (bitsOf i))
theorem lt_of_block {w : World} {k : Nat} {o : Obj} (h : w.heap[k]? = some o) : k < w.heap.size := (Array.getElem?_eq_some_iff.1 h).1
theorem Glob.below {gb : Bool} {w w' : World} (h : Glob gb w) (hb : Below w.heap.size w w') : Glob gb w' := by
  constructor
  · obtain ⟨bm, es, clock, hc, hm, hl⟩ := h.dec
    exact ⟨bm, es, clock, (hb.cell (World.block_lt_of_cell? w _ hc)).trans hc, (hb.block bm (lt_of_block hm)).trans hm, hl⟩
  · exact fun hg i hi => (hb.cell (World.block_lt_of_cell? w _ (h.bits hg i hi))).trans (h.bits hg i hi)
theorem Glob.alloc {gb : Bool} {w : World} (h : Glob gb w) (o : Obj) : Glob gb (w.alloc o) := h.below ((Below.refl _ _).alloc (Nat.le_refl _) o)
theorem Glob.drew {gb : Bool} {w : World} (h : Glob gb w) : Glob gb w.drew := h.below (Below.refl _ _).drew
theorem Glob.drewN {gb : Bool} {w : World} (h : Glob gb w) (n : Nat) : Glob gb (w.drewN n) := by
  induction n generalizing w with
  | zero => exact h
  | succ n ih => exact (ih h).drew
theorem blk_newN {w : World} {n : Nat} {o : Obj} (h : n = w.heap.size) : (w.alloc o).heap[n]? = some o := by subst h; exact heap_alloc_new w o
end Go.Proofs.YtcjhejopcghgnaaDoor.P

namespace Go.Proofs.YtcjhejopcghgnaaDoor.P
open Go.RowKit Go.Proofs.YtcjhejopcghgnaaDoorW.PrintWords Go.Proofs.YtcjhejopcghgnaaDoorW.PrintLast Go.Proofs.YtcjhejopcghgnaaDoorW.PrintMore
attribute [local go_sem] max2_int min2_int max_two min_two max_three min_three max_four min_four   -- for this text's walks alone
set_option linter.unusedVariables false
set_option linter.unusedSimpArgs false

variable {gb : Bool}


def errW : Option Int → Value
  | none => .nilIface
  | some c => .iface 0 (.int .i64 c)
theorem errW_none : errW none = .nilIface := rfl
theorem errW_some (c : Int) : errW (some c) = .iface 0 (.int .i64 c) := rfl

theorem info23 : (Tryd.prog.info? 23).map (fun i => (i.zero, i.size, i.bytes)) = some (some (.int .u64 0), 1, 8) := by kernel_rfl
theorem info40 : (Tryd.prog.info? 40).map (fun i => (i.zero, i.size, i.bytes)) = some (some (.slice none 0 0), 1, 24) := by kernel_rfl
-- the values' own types
/-! #### struct type 39 -/
structure S39 where
  f0 : Int
  f1 : Int
  f2 : Int
  f3 : Int
  f4 : Int
  f5 : Int
  f6 : Bool
  f7 : Int
  f8 : Int
  f9 : Int
def z39 : S39 := ⟨(0 : Int), (0 : Int), (0 : Int), (0 : Int), (0 : Int), (0 : Int), false, (0 : Int), (0 : Int), (0 : Int)⟩
def k39 : Kd S39 := Kd.iso (Kd.pair (Kd.int .i64) (Kd.pair (Kd.int .i64) (Kd.pair (Kd.int .i64) (Kd.pair (Kd.int .i64) (Kd.pair (Kd.int .i64) (Kd.pair (Kd.int .i64) (Kd.pair Kd.bool (Kd.pair (Kd.int .i64) (Kd.pair (Kd.int .u32) (Kd.int .u32)))))))))) (fun x : S39 => (x.f0, x.f1, x.f2, x.f3, x.f4, x.f5, x.f6, x.f7, x.f8, x.f9))
theorem k39_open {w : World} {x : S39} {cs : List Value} (h : k39.K w x cs) : cs = [.int .i64 x.f0, .int .i64 x.f1, .int .i64 x.f2, .int .i64 x.f3, .int .i64 x.f4, .int .i64 x.f5, .bool x.f6, .int .i64 x.f7, .int .u32 x.f8, .int .u32 x.f9] := by
  obtain ⟨_, _, rfl, rfl, ⟨_, _, rfl, rfl, ⟨_, _, rfl, rfl, ⟨_, _, rfl, rfl, ⟨_, _, rfl, rfl, ⟨_, _, rfl, rfl, ⟨_, _, rfl, rfl, ⟨_, _, rfl, rfl, ⟨_, _, rfl, rfl, rfl⟩⟩⟩⟩⟩⟩⟩⟩⟩ := h
  exact rfl
theorem k39_openM {w : World} {base : Nat} {ok : Nat → Prop} {x : S39} {cs : List Value} (h : k39.M w base ok x cs) : cs = [.int .i64 x.f0, .int .i64 x.f1, .int .i64 x.f2, .int .i64 x.f3, .int .i64 x.f4, .int .i64 x.f5, .bool x.f6, .int .i64 x.f7, .int .u32 x.f8, .int .u32 x.f9] := by
  obtain ⟨_, _, rfl, rfl, ⟨_, _, rfl, rfl, ⟨_, _, rfl, rfl, ⟨_, _, rfl, rfl, ⟨_, _, rfl, rfl, ⟨_, _, rfl, rfl, ⟨_, _, rfl, rfl, ⟨_, _, rfl, rfl, ⟨_, _, rfl, rfl, rfl⟩⟩⟩⟩⟩⟩⟩⟩⟩ := h
  exact rfl
theorem k39_mk (w : World) (x : S39)  : k39.K w x [.int .i64 x.f0, .int .i64 x.f1, .int .i64 x.f2, .int .i64 x.f3, .int .i64 x.f4, .int .i64 x.f5, .bool x.f6, .int .i64 x.f7, .int .u32 x.f8, .int .u32 x.f9] := ⟨[.int .i64 x.f0], [.int .i64 x.f1, .int .i64 x.f2, .int .i64 x.f3, .int .i64 x.f4, .int .i64 x.f5, .bool x.f6, .int .i64 x.f7, .int .u32 x.f8, .int .u32 x.f9], rfl, rfl, ⟨[.int .i64 x.f1], [.int .i64 x.f2, .int .i64 x.f3, .int .i64 x.f4, .int .i64 x.f5, .bool x.f6, .int .i64 x.f7, .int .u32 x.f8, .int .u32 x.f9], rfl, rfl, ⟨[.int .i64 x.f2], [.int .i64 x.f3, .int .i64 x.f4, .int .i64 x.f5, .bool x.f6, .int .i64 x.f7, .int .u32 x.f8, .int .u32 x.f9], rfl, rfl, ⟨[.int .i64 x.f3], [.int .i64 x.f4, .int .i64 x.f5, .bool x.f6, .int .i64 x.f7, .int .u32 x.f8, .int .u32 x.f9], rfl, rfl, ⟨[.int .i64 x.f4], [.int .i64 x.f5, .bool x.f6, .int .i64 x.f7, .int .u32 x.f8, .int .u32 x.f9], rfl, rfl, ⟨[.int .i64 x.f5], [.bool x.f6, .int .i64 x.f7, .int .u32 x.f8, .int .u32 x.f9], rfl, rfl, ⟨[.bool x.f6], [.int .i64 x.f7, .int .u32 x.f8, .int .u32 x.f9], rfl, rfl, ⟨[.int .i64 x.f7], [.int .u32 x.f8, .int .u32 x.f9], rfl, rfl, ⟨[.int .u32 x.f8], [.int .u32 x.f9], rfl, rfl, rfl⟩⟩⟩⟩⟩⟩⟩⟩⟩
theorem k39_mkM (w : World) (base : Nat) (ok : Nat → Prop) (x : S39)  : k39.M w base ok x [.int .i64 x.f0, .int .i64 x.f1, .int .i64 x.f2, .int .i64 x.f3, .int .i64 x.f4, .int .i64 x.f5, .bool x.f6, .int .i64 x.f7, .int .u32 x.f8, .int .u32 x.f9] := ⟨[.int .i64 x.f0], [.int .i64 x.f1, .int .i64 x.f2, .int .i64 x.f3, .int .i64 x.f4, .int .i64 x.f5, .bool x.f6, .int .i64 x.f7, .int .u32 x.f8, .int .u32 x.f9], rfl, rfl, ⟨[.int .i64 x.f1], [.int .i64 x.f2, .int .i64 x.f3, .int .i64 x.f4, .int .i64 x.f5, .bool x.f6, .int .i64 x.f7, .int .u32 x.f8, .int .u32 x.f9], rfl, rfl, ⟨[.int .i64 x.f2], [.int .i64 x.f3, .int .i64 x.f4, .int .i64 x.f5, .bool x.f6, .int .i64 x.f7, .int .u32 x.f8, .int .u32 x.f9], rfl, rfl, ⟨[.int .i64 x.f3], [.int .i64 x.f4, .int .i64 x.f5, .bool x.f6, .int .i64 x.f7, .int .u32 x.f8, .int .u32 x.f9], rfl, rfl, ⟨[.int .i64 x.f4], [.int .i64 x.f5, .bool x.f6, .int .i64 x.f7, .int .u32 x.f8, .int .u32 x.f9], rfl, rfl, ⟨[.int .i64 x.f5], [.bool x.f6, .int .i64 x.f7, .int .u32 x.f8, .int .u32 x.f9], rfl, rfl, ⟨[.bool x.f6], [.int .i64 x.f7, .int .u32 x.f8, .int .u32 x.f9], rfl, rfl, ⟨[.int .i64 x.f7], [.int .u32 x.f8, .int .u32 x.f9], rfl, rfl, ⟨[.int .u32 x.f8], [.int .u32 x.f9], rfl, rfl, rfl⟩⟩⟩⟩⟩⟩⟩⟩⟩
theorem k39_mkF (W : World) (ok : Nat → Prop) (x : S39) : Kd.FK k39 W ok x [.int .i64 x.f0, .int .i64 x.f1, .int .i64 x.f2, .int .i64 x.f3, .int .i64 x.f4, .int .i64 x.f5, .bool x.f6, .int .i64 x.f7, .int .u32 x.f8, .int .u32 x.f9] := fun W2 _ => k39_mk W2 x
def rd_T39 (xs : List S39) (i : Int) : S39 := xs.getD i.toNat z39
theorem at_T39 {w : World} {A : Option Addr} {n : Nat} {xs : List S39} (h : Kd.C k39 w A n xs) (i : Int) (h0 : 0 ≤ i) (h1 : i < n) : ∃ ad , A = some ad ∧ w.cell? (ad.add (i.toNat * 10)) = some (.int .i64 (rd_T39 xs i).f0) ∧ w.cell? ⟨(ad.add (i.toNat * 10)).block, (ad.add (i.toNat * 10)).off + 1, none⟩ = some (.int .i64 (rd_T39 xs i).f1) ∧ w.cell? ⟨(ad.add (i.toNat * 10)).block, (ad.add (i.toNat * 10)).off + 2, none⟩ = some (.int .i64 (rd_T39 xs i).f2) ∧ w.cell? ⟨(ad.add (i.toNat * 10)).block, (ad.add (i.toNat * 10)).off + 3, none⟩ = some (.int .i64 (rd_T39 xs i).f3) ∧ w.cell? ⟨(ad.add (i.toNat * 10)).block, (ad.add (i.toNat * 10)).off + 4, none⟩ = some (.int .i64 (rd_T39 xs i).f4) ∧ w.cell? ⟨(ad.add (i.toNat * 10)).block, (ad.add (i.toNat * 10)).off + 5, none⟩ = some (.int .i64 (rd_T39 xs i).f5) ∧ w.cell? ⟨(ad.add (i.toNat * 10)).block, (ad.add (i.toNat * 10)).off + 6, none⟩ = some (.bool (rd_T39 xs i).f6) ∧ w.cell? ⟨(ad.add (i.toNat * 10)).block, (ad.add (i.toNat * 10)).off + 7, none⟩ = some (.int .i64 (rd_T39 xs i).f7) ∧ w.cell? ⟨(ad.add (i.toNat * 10)).block, (ad.add (i.toNat * 10)).off + 8, none⟩ = some (.int .u32 (rd_T39 xs i).f8) ∧ w.cell? ⟨(ad.add (i.toNat * 10)).block, (ad.add (i.toNat * 10)).off + 9, none⟩ = some (.int .u32 (rd_T39 xs i).f9) := by
  obtain ⟨ad, c, e, _, hK, hc0⟩ := Kd.C_get h z39 i h0 h1
  have hc : ∀ j u, c[j]? = some u → w.cell? (ad.add (i.toNat * 10 + j)) = some u := hc0
  obtain rfl := k39_open hK
  exact ⟨ad, e, hc 0 _ rfl, by rw [← add_field _ _ 1 (by omega)]; exact hc 1 _ rfl, by rw [← add_field _ _ 2 (by omega)]; exact hc 2 _ rfl, by rw [← add_field _ _ 3 (by omega)]; exact hc 3 _ rfl, by rw [← add_field _ _ 4 (by omega)]; exact hc 4 _ rfl, by rw [← add_field _ _ 5 (by omega)]; exact hc 5 _ rfl, by rw [← add_field _ _ 6 (by omega)]; exact hc 6 _ rfl, by rw [← add_field _ _ 7 (by omega)]; exact hc 7 _ rfl, by rw [← add_field _ _ 8 (by omega)]; exact hc 8 _ rfl, by rw [← add_field _ _ 9 (by omega)]; exact hc 9 _ rfl⟩

def rd_L5 (xs : List (List Int)) (i : Int) : (List Int) := xs.getD i.toNat ([] : List Int)
theorem at_L5 {w : World} {A : Option Addr} {n : Nat} {xs : List (List Int)} (h : Kd.C (Kd.slice 23 (Kd.int .u64)) w A n xs) (i : Int) (h0 : 0 ≤ i) (h1 : i < n) : ∃ ad A0 c0, A = some ad ∧ w.cell? (ad.add i.toNat) = some (.slice A0 (rd_L5 xs i).length c0) ∧ (rd_L5 xs i).length ≤ c0 ∧ (Kd.int .u64).C w A0 (rd_L5 xs i).length (rd_L5 xs i) := by
  obtain ⟨ad, c, e, _, hK, hc0⟩ := Kd.C_get h ([] : List Int) i h0 h1
  have hc : ∀ j u, c[j]? = some u → w.cell? (ad.add (i.toNat * 1 + j)) = some u := hc0
  obtain ⟨A0, c0, rfl, l0, g0⟩ := hK
  exact ⟨ad, A0, c0, e, by have hq := hc 0 _ rfl; rwa [Nat.mul_one, Nat.add_zero] at hq, l0, g0⟩

def rd_L6 (xs : List (List (List Int))) (i : Int) : (List (List Int)) := xs.getD i.toNat ([] : List (List Int))
theorem at_L6 {w : World} {A : Option Addr} {n : Nat} {xs : List (List (List Int))} (h : Kd.C (Kd.slice 40 (Kd.slice 23 (Kd.int .u64))) w A n xs) (i : Int) (h0 : 0 ≤ i) (h1 : i < n) : ∃ ad A0 c0, A = some ad ∧ w.cell? (ad.add i.toNat) = some (.slice A0 (rd_L6 xs i).length c0) ∧ (rd_L6 xs i).length ≤ c0 ∧ (Kd.slice 23 (Kd.int .u64)).C w A0 (rd_L6 xs i).length (rd_L6 xs i) := by
  obtain ⟨ad, c, e, _, hK, hc0⟩ := Kd.C_get h ([] : List (List Int)) i h0 h1
  have hc : ∀ j u, c[j]? = some u → w.cell? (ad.add (i.toNat * 1 + j)) = some u := hc0
  obtain ⟨A0, c0, rfl, l0, g0⟩ := hK
  exact ⟨ad, A0, c0, e, by have hq := hc 0 _ rfl; rwa [Nat.mul_one, Nat.add_zero] at hq, l0, g0⟩

/-! #### struct type 60 -/
structure S60 where
  f0 : Int
  f1 : Int
  f2 : Int
def z60 : S60 := ⟨(0 : Int), (0 : Int), (0 : Int)⟩
def k60 : Kd S60 := Kd.iso (Kd.pair (Kd.int .u64) (Kd.pair (Kd.int .i64) (Kd.int .i64))) (fun x : S60 => (x.f0, x.f1, x.f2))
theorem k60_open {w : World} {x : S60} {cs : List Value} (h : k60.K w x cs) : cs = [.int .u64 x.f0, .int .i64 x.f1, .int .i64 x.f2] := by
  obtain ⟨_, _, rfl, rfl, ⟨_, _, rfl, rfl, rfl⟩⟩ := h
  exact rfl
theorem k60_openM {w : World} {base : Nat} {ok : Nat → Prop} {x : S60} {cs : List Value} (h : k60.M w base ok x cs) : cs = [.int .u64 x.f0, .int .i64 x.f1, .int .i64 x.f2] := by
  obtain ⟨_, _, rfl, rfl, ⟨_, _, rfl, rfl, rfl⟩⟩ := h
  exact rfl
theorem k60_mk (w : World) (x : S60)  : k60.K w x [.int .u64 x.f0, .int .i64 x.f1, .int .i64 x.f2] := ⟨[.int .u64 x.f0], [.int .i64 x.f1, .int .i64 x.f2], rfl, rfl, ⟨[.int .i64 x.f1], [.int .i64 x.f2], rfl, rfl, rfl⟩⟩
theorem k60_mkM (w : World) (base : Nat) (ok : Nat → Prop) (x : S60)  : k60.M w base ok x [.int .u64 x.f0, .int .i64 x.f1, .int .i64 x.f2] := ⟨[.int .u64 x.f0], [.int .i64 x.f1, .int .i64 x.f2], rfl, rfl, ⟨[.int .i64 x.f1], [.int .i64 x.f2], rfl, rfl, rfl⟩⟩
theorem k60_mkF (W : World) (ok : Nat → Prop) (x : S60) : Kd.FK k60 W ok x [.int .u64 x.f0, .int .i64 x.f1, .int .i64 x.f2] := fun W2 _ => k60_mk W2 x
def rd_T60 (xs : List S60) (i : Int) : S60 := xs.getD i.toNat z60
theorem at_T60 {w : World} {A : Option Addr} {n : Nat} {xs : List S60} (h : Kd.C k60 w A n xs) (i : Int) (h0 : 0 ≤ i) (h1 : i < n) : ∃ ad , A = some ad ∧ w.cell? (ad.add (i.toNat * 3)) = some (.int .u64 (rd_T60 xs i).f0) ∧ w.cell? ⟨(ad.add (i.toNat * 3)).block, (ad.add (i.toNat * 3)).off + 1, none⟩ = some (.int .i64 (rd_T60 xs i).f1) ∧ w.cell? ⟨(ad.add (i.toNat * 3)).block, (ad.add (i.toNat * 3)).off + 2, none⟩ = some (.int .i64 (rd_T60 xs i).f2) := by
  obtain ⟨ad, c, e, _, hK, hc0⟩ := Kd.C_get h z60 i h0 h1
  have hc : ∀ j u, c[j]? = some u → w.cell? (ad.add (i.toNat * 3 + j)) = some u := hc0
  obtain rfl := k60_open hK
  exact ⟨ad, e, hc 0 _ rfl, by rw [← add_field _ _ 1 (by omega)]; exact hc 1 _ rfl, by rw [← add_field _ _ 2 (by omega)]; exact hc 2 _ rfl⟩

end Go.Proofs.YtcjhejopcghgnaaDoor.P

namespace Go.Proofs.YtcjhejopcghgnaaDoor.P
open Go.RowKit Go.Proofs.YtcjhejopcghgnaaDoorW.PrintWords Go.Proofs.YtcjhejopcghgnaaDoorW.PrintLast Go.Proofs.YtcjhejopcghgnaaDoorW.PrintMore
attribute [local go_sem] max2_int min2_int max_two min_two max_three min_three max_four min_four   -- for this text's walks alone
set_option linter.unusedVariables false
set_option linter.unusedSimpArgs false

variable {gb : Bool}
/-! ### word_mask: function 56 -/
def word_mask.f (a0 : Int) : Option (Int) := if 0 ≤ (IntKind.u64.wrap (wrap64 (64 - a0))) then (some (shr .u64 18446744073709551615 (IntKind.u64.wrap (wrap64 (64 - a0))))) else (none)
set_option maxHeartbeats 8000000 in
set_option maxRecDepth 100000 in
theorem word_mask.calls (a0 : Int) (r : Int) (w : World) (h : word_mask.f a0 = some r) :
    Calls Tryd.prog 56 #[.int .i64 a0] w fun e w' => e = .returned (.int .u64 r) ∧ Drawn0 w w' := by
  have H : (if 0 ≤ (IntKind.u64.wrap (wrap64 (64 - a0))) then (some (shr .u64 18446744073709551615 (IntKind.u64.wrap (wrap64 (64 - a0))))) else (none)) = some r := h
  clear h
  obtain ⟨ji2, hji2⟩ : ∃ j_ : Int, (IntKind.u64.wrap (wrap64 (64 - a0))) = j_ := ⟨_, rfl⟩
  replace H : (if 0 ≤ (ji2) then (some (shr .u64 18446744073709551615 (ji2))) else (none)) = some r := by first | (rw [hji2] at H; exact H) | (simp only [hji2] at H ⊢; exact H)
  by_cases c3 : 0 ≤ (ji2)
  · rw [if_pos c3] at H
    have c3b0 := eq_true c3
    have c3b1 : decide (0 ≤ (ji2)) = true := decide_eq_true c3
    clear c3
    obtain ⟨ji4, hji4⟩ : ∃ j_ : Int, (shr .u64 18446744073709551615 (ji2)) = j_ := ⟨_, rfl⟩
    replace H : (some ji4) = some r := by first | (rw [hji4] at H; exact H) | (simp only [hji4] at H ⊢; exact H)
    have hji4_ : (18446744073709551615 / 2 ^ min (ji2).toNat 64) = ji4 := hji4
    have hji4z : (ji2) ≤ 64 → (18446744073709551615 / 2 ^ (ji2).toNat) = ji4 := shr_small hji4
    obtain rfl := Option.some.inj H
    go_enter Tryd.func56, Tryd.ntmps56
    go_wp2
    go_ret
    exact ⟨by first | rfl | (simp; done) | (simp only [← hji2, ← hji4] <;> (first | rfl | simp)) | (simp [*]; done), by repeat (first | exact Drawn0.refl _ | apply Drawn0.step)⟩
  · rw [if_neg c3] at H
    exact absurd H (by simp)

end Go.Proofs.YtcjhejopcghgnaaDoor.P

namespace Go.Proofs.YtcjhejopcghgnaaDoor.P
open Go.RowKit Go.Proofs.YtcjhejopcghgnaaDoorW.PrintWords Go.Proofs.YtcjhejopcghgnaaDoorW.PrintLast Go.Proofs.YtcjhejopcghgnaaDoorW.PrintMore
attribute [local go_sem] max2_int min2_int max_two min_two max_three min_three max_four min_four   -- for this text's walks alone
set_option linter.unusedVariables false
set_option linter.unusedSimpArgs false

variable {gb : Bool}
/-! ### word_Field: function 47 -/
def word_Field.f (a0 : Int) (a1 : Int) (a2 : Int) : Option (Int) := if 0 ≤ (IntKind.u64.wrap (a1)) then ((word_mask.f a2).bind fun t101 => (some (Go.bits .and .u64 (shr .u64 a0 (IntKind.u64.wrap (a1))) t101))) else (none)
set_option maxHeartbeats 8000000 in
set_option maxRecDepth 100000 in
theorem word_Field.calls (a0 : Int) (a1 : Int) (a2 : Int) (r : Int) (w : World) (h : word_Field.f a0 a1 a2 = some r) :
    Calls Tryd.prog 47 #[.int .u64 a0, .int .i64 a1, .int .i64 a2] w fun e w' => e = .returned (.int .u64 r) ∧ Drawn0 w w' := by
  have H : (if 0 ≤ (IntKind.u64.wrap (a1)) then ((word_mask.f a2).bind fun t101 => (some (Go.bits .and .u64 (shr .u64 a0 (IntKind.u64.wrap (a1))) t101))) else (none)) = some r := h
  clear h
  obtain ⟨ji4, hji4⟩ : ∃ j_ : Int, (IntKind.u64.wrap (a1)) = j_ := ⟨_, rfl⟩
  replace H : (if 0 ≤ (ji4) then ((word_mask.f a2).bind fun t101 => (some (Go.bits .and .u64 (shr .u64 a0 (ji4)) t101))) else (none)) = some r := by first | (rw [hji4] at H; exact H) | (simp only [hji4] at H ⊢; exact H)
  by_cases c5 : 0 ≤ (ji4)
  · rw [if_pos c5] at H
    have c5b0 := eq_true c5
    have c5b1 : decide (0 ≤ (ji4)) = true := decide_eq_true c5
    clear c5
    obtain ⟨ji6, hji6⟩ : ∃ j_ : Int, (shr .u64 a0 (ji4)) = j_ := ⟨_, rfl⟩
    replace H : ((word_mask.f a2).bind fun t101 => (some (Go.bits .and .u64 (ji6) t101))) = some r := by first | (rw [hji6] at H; exact H) | (simp only [hji6] at H ⊢; exact H)
    have hji6_ : (a0 / 2 ^ min (ji4).toNat 64) = ji6 := hji6
    have hji6z : (ji4) ≤ 64 → (a0 / 2 ^ (ji4).toNat) = ji6 := shr_small hji6
    replace H := Option.bind_eq_some_iff.mp H
    obtain ⟨t101, A70, H⟩ := H
    replace H : (some (Go.bits .and .u64 (ji6) t101)) = some r := H
    have A7 := Aside0.mk A70
    clear A70
    obtain rfl := Option.some.inj H
    go_enter Tryd.func47, Tryd.ntmps47
    go_wp2_with (first | ((with_reducible refine gate_callee (f := 56) rfl ?_); refine goesL_ (some 12) rfl rfl Tryd.func56 (by kernel_rfl) rfl #[.int .i64 a2] rfl (by (try simp only [List.map_toArray, List.map_cons, List.map_nil]); first | done | rfl | (simp only [List.length_drop, List.length_take]; rfl)) ?_; (with_reducible refine (word_mask.calls a2 t101 _ A7.out).mono ?_); rintro e w' ⟨rfl, ⟨nd, rfl⟩⟩; refine ⟨_, rfl, ?_⟩))
    go_ret
    exact ⟨by first | rfl | (simp; done) | (simp only [← hji4, ← hji6] <;> (first | rfl | simp)) | (simp [*]; done), by repeat (first | exact Drawn0.refl _ | apply Drawn0.step)⟩
  · rw [if_neg c5] at H
    exact absurd H (by simp)

end Go.Proofs.YtcjhejopcghgnaaDoor.P

namespace Go.Proofs.YtcjhejopcghgnaaDoor.P
open Go.RowKit Go.Proofs.YtcjhejopcghgnaaDoorW.PrintWords Go.Proofs.YtcjhejopcghgnaaDoorW.PrintLast Go.Proofs.YtcjhejopcghgnaaDoorW.PrintMore
attribute [local go_sem] max2_int min2_int max_two min_two max_three min_three max_four min_four   -- for this text's walks alone
set_option linter.unusedVariables false
set_option linter.unusedSimpArgs false

variable {gb : Bool}
/-! ### word_Signed: function 76 -/
def word_Signed.f (a0 : Int) (a1 : Int) (a2 : Int) : Option (Int) := if 0 ≤ (IntKind.u64.wrap (wrap64 ((wrap64 (64 - a1)) - a2))) then (if 0 ≤ (IntKind.u64.wrap (wrap64 (64 - a2))) then (some (shr .i64 (wrap64 (shl .u64 a0 (IntKind.u64.wrap (wrap64 ((wrap64 (64 - a1)) - a2))))) (IntKind.u64.wrap (wrap64 (64 - a2))))) else (none)) else (none)
set_option maxHeartbeats 8000000 in
set_option maxRecDepth 100000 in
theorem word_Signed.calls (a0 : Int) (a1 : Int) (a2 : Int) (r : Int) (w : World) (h : word_Signed.f a0 a1 a2 = some r) :
    Calls Tryd.prog 76 #[.int .u64 a0, .int .i64 a1, .int .i64 a2] w fun e w' => e = .returned (.int .i64 r) ∧ Drawn0 w w' := by
  have H : (if 0 ≤ (IntKind.u64.wrap (wrap64 ((wrap64 (64 - a1)) - a2))) then (if 0 ≤ (IntKind.u64.wrap (wrap64 (64 - a2))) then (some (shr .i64 (wrap64 (shl .u64 a0 (IntKind.u64.wrap (wrap64 ((wrap64 (64 - a1)) - a2))))) (IntKind.u64.wrap (wrap64 (64 - a2))))) else (none)) else (none)) = some r := h
  clear h
  obtain ⟨ji4, hji4⟩ : ∃ j_ : Int, (IntKind.u64.wrap (wrap64 ((wrap64 (64 - a1)) - a2))) = j_ := ⟨_, rfl⟩
  replace H : (if 0 ≤ (ji4) then (if 0 ≤ (IntKind.u64.wrap (wrap64 (64 - a2))) then (some (shr .i64 (wrap64 (shl .u64 a0 (ji4))) (IntKind.u64.wrap (wrap64 (64 - a2))))) else (none)) else (none)) = some r := by first | (rw [hji4] at H; exact H) | (simp only [hji4] at H ⊢; exact H)
  by_cases c5 : 0 ≤ (ji4)
  · rw [if_pos c5] at H
    have c5b0 := eq_true c5
    have c5b1 : decide (0 ≤ (ji4)) = true := decide_eq_true c5
    clear c5
    obtain ⟨ji6, hji6⟩ : ∃ j_ : Int, (shl .u64 a0 (ji4)) = j_ := ⟨_, rfl⟩
    replace H : (if 0 ≤ (IntKind.u64.wrap (wrap64 (64 - a2))) then (some (shr .i64 (wrap64 (ji6)) (IntKind.u64.wrap (wrap64 (64 - a2))))) else (none)) = some r := by first | (rw [hji6] at H; exact H) | (simp only [hji6] at H ⊢; exact H)
    have hji6_ : (IntKind.u64.wrap (a0 * 2 ^ min (ji4).toNat 64)) = ji6 := hji6
    have hji6z : (ji4) ≤ 64 → (IntKind.u64.wrap (a0 * 2 ^ (ji4).toNat)) = ji6 := shl_small hji6
    obtain ⟨ji7, hji7⟩ : ∃ j_ : Int, (IntKind.u64.wrap (wrap64 (64 - a2))) = j_ := ⟨_, rfl⟩
    replace H : (if 0 ≤ (ji7) then (some (shr .i64 (wrap64 (ji6)) (ji7))) else (none)) = some r := by first | (rw [hji7] at H; exact H) | (simp only [hji7] at H ⊢; exact H)
    by_cases c8 : 0 ≤ (ji7)
    · rw [if_pos c8] at H
      have c8b0 := eq_true c8
      have c8b1 : decide (0 ≤ (ji7)) = true := decide_eq_true c8
      clear c8
      obtain ⟨ji9, hji9⟩ : ∃ j_ : Int, (shr .i64 (wrap64 (ji6)) (ji7)) = j_ := ⟨_, rfl⟩
      replace H : (some ji9) = some r := by first | (rw [hji9] at H; exact H) | (simp only [hji9] at H ⊢; exact H)
      have hji9_ : ((wrap64 (ji6)) / 2 ^ min (ji7).toNat 64) = ji9 := hji9
      have hji9z : (ji7) ≤ 64 → ((wrap64 (ji6)) / 2 ^ (ji7).toNat) = ji9 := shr_small hji9
      obtain rfl := Option.some.inj H
      go_enter Tryd.func76, Tryd.ntmps76
      go_wp2
      go_ret
      exact ⟨by first | rfl | (simp; done) | (simp only [← hji4, ← hji6, ← hji7, ← hji9] <;> (first | rfl | simp)) | (simp [*]; done), by repeat (first | exact Drawn0.refl _ | apply Drawn0.step)⟩
    · rw [if_neg c8] at H
      exact absurd H (by simp)
  · rw [if_neg c5] at H
    exact absurd H (by simp)

end Go.Proofs.YtcjhejopcghgnaaDoor.P

namespace Go.Proofs.YtcjhejopcghgnaaDoor.P
open Go.RowKit Go.Proofs.YtcjhejopcghgnaaDoorW.PrintWords Go.Proofs.YtcjhejopcghgnaaDoorW.PrintLast Go.Proofs.YtcjhejopcghgnaaDoorW.PrintMore
attribute [local go_sem] max2_int min2_int max_two min_two max_three min_three max_four min_four   -- for this text's walks alone
set_option linter.unusedVariables false
set_option linter.unusedSimpArgs false

variable {gb : Bool}
/-! ### pointer_decoders_1: function 75 -/
def pointer_decoders_1.f (a0 : Int) : Option (Int × Int × Int × Int × Int × Int × Bool × Int × Int × Int) := (word_Signed.f a0 2 30).bind fun t103 => ((word_Field.f a0 32 16).bind fun t104 => ((word_Field.f a0 48 16).bind fun t105 => (some (0, t103, wrap64 (t104), wrap64 (t105), 0, 0, false, 0, 0, 0))))
set_option maxHeartbeats 8000000 in
set_option maxRecDepth 100000 in
theorem pointer_decoders_1.calls (a0 : Int) (r1 : Int) (r2 : Int) (r3 : Int) (r4 : Int) (r5 : Int) (r6 : Int) (r7 : Bool) (r8 : Int) (r9 : Int) (r10 : Int) (w : World) (h : pointer_decoders_1.f a0 = some (r1, r2, r3, r4, r5, r6, r7, r8, r9, r10)) :
    Calls Tryd.prog 75 #[.int .u64 a0] w fun e w' => e = .returned (.agg #[.int .i64 r1, .int .i64 r2, .int .i64 r3, .int .i64 r4, .int .i64 r5, .int .i64 r6, .bool r7, .int .i64 r8, .int .u32 r9, .int .u32 r10]) ∧ Below w.heap.size w w' := by
  have hu39 := Tryd.underlying39
  have HB := Aside0.mk (Below.refl w.heap.size w)
  have H : ((word_Signed.f a0 2 30).bind fun t103 => ((word_Field.f a0 32 16).bind fun t104 => ((word_Field.f a0 48 16).bind fun t105 => (some (0, t103, wrap64 (t104), wrap64 (t105), 0, 0, false, 0, 0, 0))))) = some (r1, r2, r3, r4, r5, r6, r7, r8, r9, r10) := h
  clear h
  replace H := Option.bind_eq_some_iff.mp H
  obtain ⟨t103, A20, H⟩ := H
  replace H : ((word_Field.f a0 32 16).bind fun t104 => ((word_Field.f a0 48 16).bind fun t105 => (some (0, t103, wrap64 (t104), wrap64 (t105), 0, 0, false, 0, 0, 0)))) = some (r1, r2, r3, r4, r5, r6, r7, r8, r9, r10) := H
  have A2 := Aside0.mk A20
  clear A20
  replace H := Option.bind_eq_some_iff.mp H
  obtain ⟨t104, A30, H⟩ := H
  replace H : ((word_Field.f a0 48 16).bind fun t105 => (some (0, t103, wrap64 (t104), wrap64 (t105), 0, 0, false, 0, 0, 0))) = some (r1, r2, r3, r4, r5, r6, r7, r8, r9, r10) := H
  have A3 := Aside0.mk A30
  clear A30
  replace H := Option.bind_eq_some_iff.mp H
  obtain ⟨t105, A40, H⟩ := H
  replace H : (some (0, t103, wrap64 (t104), wrap64 (t105), 0, 0, false, 0, 0, 0)) = some (r1, r2, r3, r4, r5, r6, r7, r8, r9, r10) := H
  have A4 := Aside0.mk A40
  clear A40
  simp only [Option.some.injEq, Prod.mk.injEq] at H
  obtain ⟨rfl, rfl, rfl, rfl, rfl, rfl, rfl, rfl, rfl, rfl⟩ := H
  go_enter Tryd.func75, Tryd.ntmps75
  go_wp2_with (first | ((with_reducible refine gate_dst (N := 2) rfl ?_); refine box_event ?hg (N := 2) ?hd (cs := #[.int .i64 0, .int .i64 0, .int .i64 0, .int .i64 0, .int .i64 0, .int .i64 0, .bool false, .int .i64 0, .int .u32 0, .int .u32 0]) (t := 39) ?hr ?_; (case hd => rfl); (case hg => rfl); (case hr => first | (go_simp; done) | (go_simp; rfl)); intro gb102 hg w5 hbox hb; have n0_ := Aside0.mk (below_step (by repeat (first | (with_reducible first | exact HB.out | apply below_alloc | apply pw_below_drewN | apply below_drew1) | exact HB.out)) hb); have n1_ := Aside0.mk (hbox); have n2_ := Aside0.mk ((by rw [hg]; exact (below_size (by repeat (first | (with_reducible first | exact HB.out | apply below_alloc | apply pw_below_drewN | apply below_drew1) | exact HB.out))) : w.heap.size ≤ gb102)); have n3_ := Aside0.mk ((by rw [hg]; exact (below_size (by repeat (first | (with_reducible first | exact HB.out | apply below_alloc | apply pw_below_drewN | apply below_drew1) | exact HB.out))) : w.heap.size ≤ gb102)); clear HB; have HB := n0_; have BK102 := n1_; have GW102 := n2_; have GE102 := n3_; clear n0_ n1_ n2_ n3_; clear hb hbox hg) | ((with_reducible refine gate_callee (f := 76) rfl ?_); refine goesL_ (some 4) rfl rfl Tryd.func76 (by kernel_rfl) rfl #[.int .u64 a0, .int .i64 2, .int .i64 30] rfl (by (try simp only [List.map_toArray, List.map_cons, List.map_nil]); first | done | rfl | (simp only [List.length_drop, List.length_take]; rfl)) ?_; (with_reducible refine (word_Signed.calls a0 2 30 t103 _ A2.out).mono ?_); rintro e w' ⟨rfl, ⟨nd, rfl⟩⟩; refine ⟨_, rfl, ?_⟩; (try (rw [drewN_self w5]; generalize hq_ : World.drewN w5 _ = w5; have n0_ : Aside0 (w5.heap[gb102]? = some (.cells #[.int .i64 0, .int .i64 0, .int .i64 0, .int .i64 0, .int .i64 0, .int .i64 0, .bool false, .int .i64 0, .int .u32 0, .int .u32 0] 39 (0, 0))) := ⟨by rw [← hq_]; exact (by (with_reducible repeat (first | refine blk_drewN ?_ _ | refine blk_drew ?_ | refine blk_alloc ?_ _)); exact BK102.out)⟩; have n1_ : Aside0 (Below w.heap.size w w5) := ⟨by rw [← hq_]; exact (by repeat (first | (with_reducible first | exact HB.out | apply below_alloc | apply pw_below_drewN | apply below_drew1 | refine below_set ?_ GE102.out) | exact HB.out))⟩; clear BK102 HB hq_; have BK102 := n0_; have HB := n1_; clear n0_ n1_))) | ((with_reducible refine gate_callee (f := 47) rfl ?_); refine goesL_ (some 6) rfl rfl Tryd.func47 (by kernel_rfl) rfl #[.int .u64 a0, .int .i64 32, .int .i64 16] rfl (by (try simp only [List.map_toArray, List.map_cons, List.map_nil]); first | done | rfl | (simp only [List.length_drop, List.length_take]; rfl)) ?_; (with_reducible refine (word_Field.calls a0 32 16 t104 _ A3.out).mono ?_); rintro e w' ⟨rfl, ⟨nd, rfl⟩⟩; refine ⟨_, rfl, ?_⟩; (try (rw [drewN_self w5]; generalize hq_ : World.drewN w5 _ = w5; have n0_ : Aside0 (w5.heap[gb102]? = some (.cells #[.int .i64 0, .int .i64 0, .int .i64 0, .int .i64 0, .int .i64 0, .int .i64 0, .bool false, .int .i64 0, .int .u32 0, .int .u32 0] 39 (0, 0))) := ⟨by rw [← hq_]; exact (by (with_reducible repeat (first | refine blk_drewN ?_ _ | refine blk_drew ?_ | refine blk_alloc ?_ _)); exact BK102.out)⟩; have n1_ : Aside0 (Below w.heap.size w w5) := ⟨by rw [← hq_]; exact (by repeat (first | (with_reducible first | exact HB.out | apply below_alloc | apply pw_below_drewN | apply below_drew1 | refine below_set ?_ GE102.out) | exact HB.out))⟩; clear BK102 HB hq_; have BK102 := n0_; have HB := n1_; clear n0_ n1_))) | ((with_reducible refine gate_callee (f := 47) rfl ?_); refine goesL_ (some 9) rfl rfl Tryd.func47 (by kernel_rfl) rfl #[.int .u64 a0, .int .i64 48, .int .i64 16] rfl (by (try simp only [List.map_toArray, List.map_cons, List.map_nil]); first | done | rfl | (simp only [List.length_drop, List.length_take]; rfl)) ?_; (with_reducible refine (word_Field.calls a0 48 16 t105 _ A4.out).mono ?_); rintro e w' ⟨rfl, ⟨nd, rfl⟩⟩; refine ⟨_, rfl, ?_⟩; (try (rw [drewN_self w5]; generalize hq_ : World.drewN w5 _ = w5; have n0_ : Aside0 (w5.heap[gb102]? = some (.cells #[.int .i64 0, .int .i64 0, .int .i64 0, .int .i64 0, .int .i64 0, .int .i64 0, .bool false, .int .i64 0, .int .u32 0, .int .u32 0] 39 (0, 0))) := ⟨by rw [← hq_]; exact (by (with_reducible repeat (first | refine blk_drewN ?_ _ | refine blk_drew ?_ | refine blk_alloc ?_ _)); exact BK102.out)⟩; have n1_ : Aside0 (Below w.heap.size w w5) := ⟨by rw [← hq_]; exact (by repeat (first | (with_reducible first | exact HB.out | apply below_alloc | apply pw_below_drewN | apply below_drew1 | refine below_set ?_ GE102.out) | exact HB.out))⟩; clear BK102 HB hq_; have BK102 := n0_; have HB := n1_; clear n0_ n1_)); have hcz6_0 : w5.cell? ⟨gb102, 0, none⟩ = some (.int .i64 0) := (blk_cell BK102.out 0).trans rfl; have hcz6_1 : w5.cell? ⟨gb102, 1, none⟩ = some (.int .i64 0) := (blk_cell BK102.out 1).trans rfl; have hcz6_2 : w5.cell? ⟨gb102, 2, none⟩ = some (.int .i64 0) := (blk_cell BK102.out 2).trans rfl; have hcz6_3 : w5.cell? ⟨gb102, 3, none⟩ = some (.int .i64 0) := (blk_cell BK102.out 3).trans rfl; have hcz6_4 : w5.cell? ⟨gb102, 4, none⟩ = some (.int .i64 0) := (blk_cell BK102.out 4).trans rfl; have hcz6_5 : w5.cell? ⟨gb102, 5, none⟩ = some (.int .i64 0) := (blk_cell BK102.out 5).trans rfl; have hcz6_6 : w5.cell? ⟨gb102, 6, none⟩ = some (.bool false) := (blk_cell BK102.out 6).trans rfl; have hcz6_7 : w5.cell? ⟨gb102, 7, none⟩ = some (.int .i64 0) := (blk_cell BK102.out 7).trans rfl; have hcz6_8 : w5.cell? ⟨gb102, 8, none⟩ = some (.int .u32 0) := (blk_cell BK102.out 8).trans rfl; have hcz6_9 : w5.cell? ⟨gb102, 9, none⟩ = some (.int .u32 0) := (blk_cell BK102.out 9).trans rfl; have hfz6_0 := blk_frozen BK102.out 0; have hfz6_1 := blk_frozen BK102.out 1; have hfz6_2 := blk_frozen BK102.out 2; have hfz6_3 := blk_frozen BK102.out 3; have hfz6_4 := blk_frozen BK102.out 4; have hfz6_5 := blk_frozen BK102.out 5; have hfz6_6 := blk_frozen BK102.out 6; have hfz6_7 := blk_frozen BK102.out 7; have hfz6_8 := blk_frozen BK102.out 8; have hfz6_9 := blk_frozen BK102.out 9))
  refine bodyPost_ret (results_cell_row rfl _ _ gb102 39 #[.int .i64 0, .int .i64 t103, .int .i64 (wrap64 (t104)), .int .i64 (wrap64 (t105)), .int .i64 0, .int .i64 0, .bool false, .int .i64 0, .int .u32 0, .int .u32 0] (0, 0) _ rfl (by (with_reducible repeat (first | refine blk_drewN ?_ _ | refine blk_drew ?_ | refine blk_alloc ?_ _)); refine blk_put (cs := #[.int .i64 0, .int .i64 t103, .int .i64 (wrap64 (t104)), .int .i64 (wrap64 (t105)), .int .i64 0, .int .i64 0, .bool false, .int .i64 0, .int .u32 0, .int .u32 0]) ?_ 9 _ rfl; (with_reducible repeat (first | refine blk_drewN ?_ _ | refine blk_drew ?_ | refine blk_alloc ?_ _)); refine blk_put (cs := #[.int .i64 0, .int .i64 t103, .int .i64 (wrap64 (t104)), .int .i64 (wrap64 (t105)), .int .i64 0, .int .i64 0, .bool false, .int .i64 0, .int .u32 0, .int .u32 0]) ?_ 8 _ rfl; (with_reducible repeat (first | refine blk_drewN ?_ _ | refine blk_drew ?_ | refine blk_alloc ?_ _)); refine blk_put (cs := #[.int .i64 0, .int .i64 t103, .int .i64 (wrap64 (t104)), .int .i64 (wrap64 (t105)), .int .i64 0, .int .i64 0, .bool false, .int .i64 0, .int .u32 0, .int .u32 0]) ?_ 7 _ rfl; (with_reducible repeat (first | refine blk_drewN ?_ _ | refine blk_drew ?_ | refine blk_alloc ?_ _)); refine blk_put (cs := #[.int .i64 0, .int .i64 t103, .int .i64 (wrap64 (t104)), .int .i64 (wrap64 (t105)), .int .i64 0, .int .i64 0, .bool false, .int .i64 0, .int .u32 0, .int .u32 0]) ?_ 6 _ rfl; (with_reducible repeat (first | refine blk_drewN ?_ _ | refine blk_drew ?_ | refine blk_alloc ?_ _)); refine blk_put (cs := #[.int .i64 0, .int .i64 t103, .int .i64 (wrap64 (t104)), .int .i64 (wrap64 (t105)), .int .i64 0, .int .i64 0, .bool false, .int .i64 0, .int .u32 0, .int .u32 0]) ?_ 5 _ rfl; (with_reducible repeat (first | refine blk_drewN ?_ _ | refine blk_drew ?_ | refine blk_alloc ?_ _)); refine blk_put (cs := #[.int .i64 0, .int .i64 t103, .int .i64 (wrap64 (t104)), .int .i64 (wrap64 (t105)), .int .i64 0, .int .i64 0, .bool false, .int .i64 0, .int .u32 0, .int .u32 0]) ?_ 4 _ rfl; (with_reducible repeat (first | refine blk_drewN ?_ _ | refine blk_drew ?_ | refine blk_alloc ?_ _)); refine blk_put (cs := #[.int .i64 0, .int .i64 t103, .int .i64 (wrap64 (t104)), .int .i64 0, .int .i64 0, .int .i64 0, .bool false, .int .i64 0, .int .u32 0, .int .u32 0]) ?_ 3 _ rfl; (with_reducible repeat (first | refine blk_drewN ?_ _ | refine blk_drew ?_ | refine blk_alloc ?_ _)); refine blk_put (cs := #[.int .i64 0, .int .i64 t103, .int .i64 0, .int .i64 0, .int .i64 0, .int .i64 0, .bool false, .int .i64 0, .int .u32 0, .int .u32 0]) ?_ 2 _ rfl; (with_reducible repeat (first | refine blk_drewN ?_ _ | refine blk_drew ?_ | refine blk_alloc ?_ _)); refine blk_put (cs := #[.int .i64 0, .int .i64 0, .int .i64 0, .int .i64 0, .int .i64 0, .int .i64 0, .bool false, .int .i64 0, .int .u32 0, .int .u32 0]) ?_ 1 _ rfl; (with_reducible repeat (first | refine blk_drewN ?_ _ | refine blk_drew ?_ | refine blk_alloc ?_ _)); refine blk_put (cs := #[.int .i64 0, .int .i64 0, .int .i64 0, .int .i64 0, .int .i64 0, .int .i64 0, .bool false, .int .i64 0, .int .u32 0, .int .u32 0]) ?_ 0 _ rfl; (with_reducible repeat (first | refine blk_drewN ?_ _ | refine blk_drew ?_ | refine blk_alloc ?_ _)); exact BK102.out) Tryd.underlying39 rfl (by kernel_rfl)) rfl ?_
  exact ⟨by first | rfl | (simp [errW_none, errW_some] <;> rfl) | (simp [*, errW_none, errW_some] <;> rfl), by repeat (first | (with_reducible first | exact HB.out | apply below_alloc | apply pw_below_drewN | apply below_drew1 | refine below_set ?_ GE102.out) | exact HB.out)⟩

end Go.Proofs.YtcjhejopcghgnaaDoor.P

namespace Go.Proofs.YtcjhejopcghgnaaDoor.P
open Go.RowKit Go.Proofs.YtcjhejopcghgnaaDoorW.PrintWords Go.Proofs.YtcjhejopcghgnaaDoorW.PrintLast Go.Proofs.YtcjhejopcghgnaaDoorW.PrintMore
attribute [local go_sem] max2_int min2_int max_two min_two max_three min_three max_four min_four   -- for this text's walks alone
set_option linter.unusedVariables false
set_option linter.unusedSimpArgs false

variable {gb : Bool}
/-! ### pointer_decoders_2: function 77 -/
def pointer_decoders_2.f (a0 : Int) : Option (Int × Int × Int × Int × Int × Int × Bool × Int × Int × Int) := (word_Signed.f a0 2 30).bind fun t107 => ((word_Field.f a0 32 3).bind fun t108 => ((word_Field.f a0 35 29).bind fun t109 => (some (0, t107, 0, 0, wrap64 (t108), wrap64 (t109), false, 0, 0, 0))))
set_option maxHeartbeats 8000000 in
set_option maxRecDepth 100000 in
theorem pointer_decoders_2.calls (a0 : Int) (r1 : Int) (r2 : Int) (r3 : Int) (r4 : Int) (r5 : Int) (r6 : Int) (r7 : Bool) (r8 : Int) (r9 : Int) (r10 : Int) (w : World) (h : pointer_decoders_2.f a0 = some (r1, r2, r3, r4, r5, r6, r7, r8, r9, r10)) :
    Calls Tryd.prog 77 #[.int .u64 a0] w fun e w' => e = .returned (.agg #[.int .i64 r1, .int .i64 r2, .int .i64 r3, .int .i64 r4, .int .i64 r5, .int .i64 r6, .bool r7, .int .i64 r8, .int .u32 r9, .int .u32 r10]) ∧ Below w.heap.size w w' := by
  have hu39 := Tryd.underlying39
  have HB := Aside0.mk (Below.refl w.heap.size w)
  have H : ((word_Signed.f a0 2 30).bind fun t107 => ((word_Field.f a0 32 3).bind fun t108 => ((word_Field.f a0 35 29).bind fun t109 => (some (0, t107, 0, 0, wrap64 (t108), wrap64 (t109), false, 0, 0, 0))))) = some (r1, r2, r3, r4, r5, r6, r7, r8, r9, r10) := h
  clear h
  replace H := Option.bind_eq_some_iff.mp H
  obtain ⟨t107, A20, H⟩ := H
  replace H : ((word_Field.f a0 32 3).bind fun t108 => ((word_Field.f a0 35 29).bind fun t109 => (some (0, t107, 0, 0, wrap64 (t108), wrap64 (t109), false, 0, 0, 0)))) = some (r1, r2, r3, r4, r5, r6, r7, r8, r9, r10) := H
  have A2 := Aside0.mk A20
  clear A20
  replace H := Option.bind_eq_some_iff.mp H
  obtain ⟨t108, A30, H⟩ := H
  replace H : ((word_Field.f a0 35 29).bind fun t109 => (some (0, t107, 0, 0, wrap64 (t108), wrap64 (t109), false, 0, 0, 0))) = some (r1, r2, r3, r4, r5, r6, r7, r8, r9, r10) := H
  have A3 := Aside0.mk A30
  clear A30
  replace H := Option.bind_eq_some_iff.mp H
  obtain ⟨t109, A40, H⟩ := H
  replace H : (some (0, t107, 0, 0, wrap64 (t108), wrap64 (t109), false, 0, 0, 0)) = some (r1, r2, r3, r4, r5, r6, r7, r8, r9, r10) := H
  have A4 := Aside0.mk A40
  clear A40
  simp only [Option.some.injEq, Prod.mk.injEq] at H
  obtain ⟨rfl, rfl, rfl, rfl, rfl, rfl, rfl, rfl, rfl, rfl⟩ := H
  go_enter Tryd.func77, Tryd.ntmps77
  go_wp2_with (first | ((with_reducible refine gate_dst (N := 2) rfl ?_); refine box_event ?hg (N := 2) ?hd (cs := #[.int .i64 0, .int .i64 0, .int .i64 0, .int .i64 0, .int .i64 0, .int .i64 0, .bool false, .int .i64 0, .int .u32 0, .int .u32 0]) (t := 39) ?hr ?_; (case hd => rfl); (case hg => rfl); (case hr => first | (go_simp; done) | (go_simp; rfl)); intro gb106 hg w5 hbox hb; have n0_ := Aside0.mk (below_step (by repeat (first | (with_reducible first | exact HB.out | apply below_alloc | apply pw_below_drewN | apply below_drew1) | exact HB.out)) hb); have n1_ := Aside0.mk (hbox); have n2_ := Aside0.mk ((by rw [hg]; exact (below_size (by repeat (first | (with_reducible first | exact HB.out | apply below_alloc | apply pw_below_drewN | apply below_drew1) | exact HB.out))) : w.heap.size ≤ gb106)); have n3_ := Aside0.mk ((by rw [hg]; exact (below_size (by repeat (first | (with_reducible first | exact HB.out | apply below_alloc | apply pw_below_drewN | apply below_drew1) | exact HB.out))) : w.heap.size ≤ gb106)); clear HB; have HB := n0_; have BK106 := n1_; have GW106 := n2_; have GE106 := n3_; clear n0_ n1_ n2_ n3_; clear hb hbox hg) | ((with_reducible refine gate_callee (f := 76) rfl ?_); refine goesL_ (some 4) rfl rfl Tryd.func76 (by kernel_rfl) rfl #[.int .u64 a0, .int .i64 2, .int .i64 30] rfl (by (try simp only [List.map_toArray, List.map_cons, List.map_nil]); first | done | rfl | (simp only [List.length_drop, List.length_take]; rfl)) ?_; (with_reducible refine (word_Signed.calls a0 2 30 t107 _ A2.out).mono ?_); rintro e w' ⟨rfl, ⟨nd, rfl⟩⟩; refine ⟨_, rfl, ?_⟩; (try (rw [drewN_self w5]; generalize hq_ : World.drewN w5 _ = w5; have n0_ : Aside0 (w5.heap[gb106]? = some (.cells #[.int .i64 0, .int .i64 0, .int .i64 0, .int .i64 0, .int .i64 0, .int .i64 0, .bool false, .int .i64 0, .int .u32 0, .int .u32 0] 39 (0, 0))) := ⟨by rw [← hq_]; exact (by (with_reducible repeat (first | refine blk_drewN ?_ _ | refine blk_drew ?_ | refine blk_alloc ?_ _)); exact BK106.out)⟩; have n1_ : Aside0 (Below w.heap.size w w5) := ⟨by rw [← hq_]; exact (by repeat (first | (with_reducible first | exact HB.out | apply below_alloc | apply pw_below_drewN | apply below_drew1 | refine below_set ?_ GE106.out) | exact HB.out))⟩; clear BK106 HB hq_; have BK106 := n0_; have HB := n1_; clear n0_ n1_))) | ((with_reducible refine gate_callee (f := 47) rfl ?_); refine goesL_ (some 6) rfl rfl Tryd.func47 (by kernel_rfl) rfl #[.int .u64 a0, .int .i64 32, .int .i64 3] rfl (by (try simp only [List.map_toArray, List.map_cons, List.map_nil]); first | done | rfl | (simp only [List.length_drop, List.length_take]; rfl)) ?_; (with_reducible refine (word_Field.calls a0 32 3 t108 _ A3.out).mono ?_); rintro e w' ⟨rfl, ⟨nd, rfl⟩⟩; refine ⟨_, rfl, ?_⟩; (try (rw [drewN_self w5]; generalize hq_ : World.drewN w5 _ = w5; have n0_ : Aside0 (w5.heap[gb106]? = some (.cells #[.int .i64 0, .int .i64 0, .int .i64 0, .int .i64 0, .int .i64 0, .int .i64 0, .bool false, .int .i64 0, .int .u32 0, .int .u32 0] 39 (0, 0))) := ⟨by rw [← hq_]; exact (by (with_reducible repeat (first | refine blk_drewN ?_ _ | refine blk_drew ?_ | refine blk_alloc ?_ _)); exact BK106.out)⟩; have n1_ : Aside0 (Below w.heap.size w w5) := ⟨by rw [← hq_]; exact (by repeat (first | (with_reducible first | exact HB.out | apply below_alloc | apply pw_below_drewN | apply below_drew1 | refine below_set ?_ GE106.out) | exact HB.out))⟩; clear BK106 HB hq_; have BK106 := n0_; have HB := n1_; clear n0_ n1_))) | ((with_reducible refine gate_callee (f := 47) rfl ?_); refine goesL_ (some 9) rfl rfl Tryd.func47 (by kernel_rfl) rfl #[.int .u64 a0, .int .i64 35, .int .i64 29] rfl (by (try simp only [List.map_toArray, List.map_cons, List.map_nil]); first | done | rfl | (simp only [List.length_drop, List.length_take]; rfl)) ?_; (with_reducible refine (word_Field.calls a0 35 29 t109 _ A4.out).mono ?_); rintro e w' ⟨rfl, ⟨nd, rfl⟩⟩; refine ⟨_, rfl, ?_⟩; (try (rw [drewN_self w5]; generalize hq_ : World.drewN w5 _ = w5; have n0_ : Aside0 (w5.heap[gb106]? = some (.cells #[.int .i64 0, .int .i64 0, .int .i64 0, .int .i64 0, .int .i64 0, .int .i64 0, .bool false, .int .i64 0, .int .u32 0, .int .u32 0] 39 (0, 0))) := ⟨by rw [← hq_]; exact (by (with_reducible repeat (first | refine blk_drewN ?_ _ | refine blk_drew ?_ | refine blk_alloc ?_ _)); exact BK106.out)⟩; have n1_ : Aside0 (Below w.heap.size w w5) := ⟨by rw [← hq_]; exact (by repeat (first | (with_reducible first | exact HB.out | apply below_alloc | apply pw_below_drewN | apply below_drew1 | refine below_set ?_ GE106.out) | exact HB.out))⟩; clear BK106 HB hq_; have BK106 := n0_; have HB := n1_; clear n0_ n1_)); have hcz6_0 : w5.cell? ⟨gb106, 0, none⟩ = some (.int .i64 0) := (blk_cell BK106.out 0).trans rfl; have hcz6_1 : w5.cell? ⟨gb106, 1, none⟩ = some (.int .i64 0) := (blk_cell BK106.out 1).trans rfl; have hcz6_2 : w5.cell? ⟨gb106, 2, none⟩ = some (.int .i64 0) := (blk_cell BK106.out 2).trans rfl; have hcz6_3 : w5.cell? ⟨gb106, 3, none⟩ = some (.int .i64 0) := (blk_cell BK106.out 3).trans rfl; have hcz6_4 : w5.cell? ⟨gb106, 4, none⟩ = some (.int .i64 0) := (blk_cell BK106.out 4).trans rfl; have hcz6_5 : w5.cell? ⟨gb106, 5, none⟩ = some (.int .i64 0) := (blk_cell BK106.out 5).trans rfl; have hcz6_6 : w5.cell? ⟨gb106, 6, none⟩ = some (.bool false) := (blk_cell BK106.out 6).trans rfl; have hcz6_7 : w5.cell? ⟨gb106, 7, none⟩ = some (.int .i64 0) := (blk_cell BK106.out 7).trans rfl; have hcz6_8 : w5.cell? ⟨gb106, 8, none⟩ = some (.int .u32 0) := (blk_cell BK106.out 8).trans rfl; have hcz6_9 : w5.cell? ⟨gb106, 9, none⟩ = some (.int .u32 0) := (blk_cell BK106.out 9).trans rfl; have hfz6_0 := blk_frozen BK106.out 0; have hfz6_1 := blk_frozen BK106.out 1; have hfz6_2 := blk_frozen BK106.out 2; have hfz6_3 := blk_frozen BK106.out 3; have hfz6_4 := blk_frozen BK106.out 4; have hfz6_5 := blk_frozen BK106.out 5; have hfz6_6 := blk_frozen BK106.out 6; have hfz6_7 := blk_frozen BK106.out 7; have hfz6_8 := blk_frozen BK106.out 8; have hfz6_9 := blk_frozen BK106.out 9))
  refine bodyPost_ret (results_cell_row rfl _ _ gb106 39 #[.int .i64 0, .int .i64 t107, .int .i64 0, .int .i64 0, .int .i64 (wrap64 (t108)), .int .i64 (wrap64 (t109)), .bool false, .int .i64 0, .int .u32 0, .int .u32 0] (0, 0) _ rfl (by (with_reducible repeat (first | refine blk_drewN ?_ _ | refine blk_drew ?_ | refine blk_alloc ?_ _)); refine blk_put (cs := #[.int .i64 0, .int .i64 t107, .int .i64 0, .int .i64 0, .int .i64 (wrap64 (t108)), .int .i64 (wrap64 (t109)), .bool false, .int .i64 0, .int .u32 0, .int .u32 0]) ?_ 9 _ rfl; (with_reducible repeat (first | refine blk_drewN ?_ _ | refine blk_drew ?_ | refine blk_alloc ?_ _)); refine blk_put (cs := #[.int .i64 0, .int .i64 t107, .int .i64 0, .int .i64 0, .int .i64 (wrap64 (t108)), .int .i64 (wrap64 (t109)), .bool false, .int .i64 0, .int .u32 0, .int .u32 0]) ?_ 8 _ rfl; (with_reducible repeat (first | refine blk_drewN ?_ _ | refine blk_drew ?_ | refine blk_alloc ?_ _)); refine blk_put (cs := #[.int .i64 0, .int .i64 t107, .int .i64 0, .int .i64 0, .int .i64 (wrap64 (t108)), .int .i64 (wrap64 (t109)), .bool false, .int .i64 0, .int .u32 0, .int .u32 0]) ?_ 7 _ rfl; (with_reducible repeat (first | refine blk_drewN ?_ _ | refine blk_drew ?_ | refine blk_alloc ?_ _)); refine blk_put (cs := #[.int .i64 0, .int .i64 t107, .int .i64 0, .int .i64 0, .int .i64 (wrap64 (t108)), .int .i64 (wrap64 (t109)), .bool false, .int .i64 0, .int .u32 0, .int .u32 0]) ?_ 6 _ rfl; (with_reducible repeat (first | refine blk_drewN ?_ _ | refine blk_drew ?_ | refine blk_alloc ?_ _)); refine blk_put (cs := #[.int .i64 0, .int .i64 t107, .int .i64 0, .int .i64 0, .int .i64 (wrap64 (t108)), .int .i64 0, .bool false, .int .i64 0, .int .u32 0, .int .u32 0]) ?_ 5 _ rfl; (with_reducible repeat (first | refine blk_drewN ?_ _ | refine blk_drew ?_ | refine blk_alloc ?_ _)); refine blk_put (cs := #[.int .i64 0, .int .i64 t107, .int .i64 0, .int .i64 0, .int .i64 0, .int .i64 0, .bool false, .int .i64 0, .int .u32 0, .int .u32 0]) ?_ 4 _ rfl; (with_reducible repeat (first | refine blk_drewN ?_ _ | refine blk_drew ?_ | refine blk_alloc ?_ _)); refine blk_put (cs := #[.int .i64 0, .int .i64 t107, .int .i64 0, .int .i64 0, .int .i64 0, .int .i64 0, .bool false, .int .i64 0, .int .u32 0, .int .u32 0]) ?_ 3 _ rfl; (with_reducible repeat (first | refine blk_drewN ?_ _ | refine blk_drew ?_ | refine blk_alloc ?_ _)); refine blk_put (cs := #[.int .i64 0, .int .i64 t107, .int .i64 0, .int .i64 0, .int .i64 0, .int .i64 0, .bool false, .int .i64 0, .int .u32 0, .int .u32 0]) ?_ 2 _ rfl; (with_reducible repeat (first | refine blk_drewN ?_ _ | refine blk_drew ?_ | refine blk_alloc ?_ _)); refine blk_put (cs := #[.int .i64 0, .int .i64 0, .int .i64 0, .int .i64 0, .int .i64 0, .int .i64 0, .bool false, .int .i64 0, .int .u32 0, .int .u32 0]) ?_ 1 _ rfl; (with_reducible repeat (first | refine blk_drewN ?_ _ | refine blk_drew ?_ | refine blk_alloc ?_ _)); refine blk_put (cs := #[.int .i64 0, .int .i64 0, .int .i64 0, .int .i64 0, .int .i64 0, .int .i64 0, .bool false, .int .i64 0, .int .u32 0, .int .u32 0]) ?_ 0 _ rfl; (with_reducible repeat (first | refine blk_drewN ?_ _ | refine blk_drew ?_ | refine blk_alloc ?_ _)); exact BK106.out) Tryd.underlying39 rfl (by kernel_rfl)) rfl ?_
  exact ⟨by first | rfl | (simp [errW_none, errW_some] <;> rfl) | (simp [*, errW_none, errW_some] <;> rfl), by repeat (first | (with_reducible first | exact HB.out | apply below_alloc | apply pw_below_drewN | apply below_drew1 | refine below_set ?_ GE106.out) | exact HB.out)⟩

end Go.Proofs.YtcjhejopcghgnaaDoor.P

namespace Go.Proofs.YtcjhejopcghgnaaDoor.P
open Go.RowKit Go.Proofs.YtcjhejopcghgnaaDoorW.PrintWords Go.Proofs.YtcjhejopcghgnaaDoorW.PrintLast Go.Proofs.YtcjhejopcghgnaaDoorW.PrintMore
attribute [local go_sem] max2_int min2_int max_two min_two max_three min_three max_four min_four   -- for this text's walks alone
set_option linter.unusedVariables false
set_option linter.unusedSimpArgs false

variable {gb : Bool}
/-! ### pointer_decoders_3: function 78 -/
def pointer_decoders_3.f (a0 : Int) : Option (Int × Int × Int × Int × Int × Int × Bool × Int × Int × Int) := (word_Field.f a0 2 1).bind fun t111 => ((word_Field.f a0 3 29).bind fun t112 => ((word_Field.f a0 32 32).bind fun t113 => (some (0, 0, 0, 0, 0, 0, (t111 == 1), wrap64 (t112), (t113) % 4294967296, 0))))
set_option maxHeartbeats 8000000 in
set_option maxRecDepth 100000 in
theorem pointer_decoders_3.calls (a0 : Int) (r1 : Int) (r2 : Int) (r3 : Int) (r4 : Int) (r5 : Int) (r6 : Int) (r7 : Bool) (r8 : Int) (r9 : Int) (r10 : Int) (w : World) (h : pointer_decoders_3.f a0 = some (r1, r2, r3, r4, r5, r6, r7, r8, r9, r10)) :
    Calls Tryd.prog 78 #[.int .u64 a0] w fun e w' => e = .returned (.agg #[.int .i64 r1, .int .i64 r2, .int .i64 r3, .int .i64 r4, .int .i64 r5, .int .i64 r6, .bool r7, .int .i64 r8, .int .u32 r9, .int .u32 r10]) ∧ Below w.heap.size w w' := by
  have hu39 := Tryd.underlying39
  have HB := Aside0.mk (Below.refl w.heap.size w)
  have H : ((word_Field.f a0 2 1).bind fun t111 => ((word_Field.f a0 3 29).bind fun t112 => ((word_Field.f a0 32 32).bind fun t113 => (some (0, 0, 0, 0, 0, 0, (t111 == 1), wrap64 (t112), (t113) % 4294967296, 0))))) = some (r1, r2, r3, r4, r5, r6, r7, r8, r9, r10) := h
  clear h
  replace H := Option.bind_eq_some_iff.mp H
  obtain ⟨t111, A20, H⟩ := H
  replace H : ((word_Field.f a0 3 29).bind fun t112 => ((word_Field.f a0 32 32).bind fun t113 => (some (0, 0, 0, 0, 0, 0, (t111 == 1), wrap64 (t112), (t113) % 4294967296, 0)))) = some (r1, r2, r3, r4, r5, r6, r7, r8, r9, r10) := H
  have A2 := Aside0.mk A20
  clear A20
  replace H := Option.bind_eq_some_iff.mp H
  obtain ⟨t112, A30, H⟩ := H
  replace H : ((word_Field.f a0 32 32).bind fun t113 => (some (0, 0, 0, 0, 0, 0, (t111 == 1), wrap64 (t112), (t113) % 4294967296, 0))) = some (r1, r2, r3, r4, r5, r6, r7, r8, r9, r10) := H
  have A3 := Aside0.mk A30
  clear A30
  replace H := Option.bind_eq_some_iff.mp H
  obtain ⟨t113, A40, H⟩ := H
  replace H : (some (0, 0, 0, 0, 0, 0, (t111 == 1), wrap64 (t112), (t113) % 4294967296, 0)) = some (r1, r2, r3, r4, r5, r6, r7, r8, r9, r10) := H
  have A4 := Aside0.mk A40
  clear A40
  simp only [Option.some.injEq, Prod.mk.injEq] at H
  obtain ⟨rfl, rfl, rfl, rfl, rfl, rfl, rfl, rfl, rfl, rfl⟩ := H
  go_enter Tryd.func78, Tryd.ntmps78
  go_wp2_with (first | ((with_reducible refine gate_dst (N := 2) rfl ?_); refine box_event ?hg (N := 2) ?hd (cs := #[.int .i64 0, .int .i64 0, .int .i64 0, .int .i64 0, .int .i64 0, .int .i64 0, .bool false, .int .i64 0, .int .u32 0, .int .u32 0]) (t := 39) ?hr ?_; (case hd => rfl); (case hg => rfl); (case hr => first | (go_simp; done) | (go_simp; rfl)); intro gb110 hg w5 hbox hb; have n0_ := Aside0.mk (below_step (by repeat (first | (with_reducible first | exact HB.out | apply below_alloc | apply pw_below_drewN | apply below_drew1) | exact HB.out)) hb); have n1_ := Aside0.mk (hbox); have n2_ := Aside0.mk ((by rw [hg]; exact (below_size (by repeat (first | (with_reducible first | exact HB.out | apply below_alloc | apply pw_below_drewN | apply below_drew1) | exact HB.out))) : w.heap.size ≤ gb110)); have n3_ := Aside0.mk ((by rw [hg]; exact (below_size (by repeat (first | (with_reducible first | exact HB.out | apply below_alloc | apply pw_below_drewN | apply below_drew1) | exact HB.out))) : w.heap.size ≤ gb110)); clear HB; have HB := n0_; have BK110 := n1_; have GW110 := n2_; have GE110 := n3_; clear n0_ n1_ n2_ n3_; clear hb hbox hg) | ((with_reducible refine gate_callee (f := 47) rfl ?_); refine goesL_ (some 4) rfl rfl Tryd.func47 (by kernel_rfl) rfl #[.int .u64 a0, .int .i64 2, .int .i64 1] rfl (by (try simp only [List.map_toArray, List.map_cons, List.map_nil]); first | done | rfl | (simp only [List.length_drop, List.length_take]; rfl)) ?_; (with_reducible refine (word_Field.calls a0 2 1 t111 _ A2.out).mono ?_); rintro e w' ⟨rfl, ⟨nd, rfl⟩⟩; refine ⟨_, rfl, ?_⟩; (try (rw [drewN_self w5]; generalize hq_ : World.drewN w5 _ = w5; have n0_ : Aside0 (w5.heap[gb110]? = some (.cells #[.int .i64 0, .int .i64 0, .int .i64 0, .int .i64 0, .int .i64 0, .int .i64 0, .bool false, .int .i64 0, .int .u32 0, .int .u32 0] 39 (0, 0))) := ⟨by rw [← hq_]; exact (by (with_reducible repeat (first | refine blk_drewN ?_ _ | refine blk_drew ?_ | refine blk_alloc ?_ _)); exact BK110.out)⟩; have n1_ : Aside0 (Below w.heap.size w w5) := ⟨by rw [← hq_]; exact (by repeat (first | (with_reducible first | exact HB.out | apply below_alloc | apply pw_below_drewN | apply below_drew1 | refine below_set ?_ GE110.out) | exact HB.out))⟩; clear BK110 HB hq_; have BK110 := n0_; have HB := n1_; clear n0_ n1_))) | ((with_reducible refine gate_callee (f := 47) rfl ?_); refine goesL_ (some 7) rfl rfl Tryd.func47 (by kernel_rfl) rfl #[.int .u64 a0, .int .i64 3, .int .i64 29] rfl (by (try simp only [List.map_toArray, List.map_cons, List.map_nil]); first | done | rfl | (simp only [List.length_drop, List.length_take]; rfl)) ?_; (with_reducible refine (word_Field.calls a0 3 29 t112 _ A3.out).mono ?_); rintro e w' ⟨rfl, ⟨nd, rfl⟩⟩; refine ⟨_, rfl, ?_⟩; (try (rw [drewN_self w5]; generalize hq_ : World.drewN w5 _ = w5; have n0_ : Aside0 (w5.heap[gb110]? = some (.cells #[.int .i64 0, .int .i64 0, .int .i64 0, .int .i64 0, .int .i64 0, .int .i64 0, .bool false, .int .i64 0, .int .u32 0, .int .u32 0] 39 (0, 0))) := ⟨by rw [← hq_]; exact (by (with_reducible repeat (first | refine blk_drewN ?_ _ | refine blk_drew ?_ | refine blk_alloc ?_ _)); exact BK110.out)⟩; have n1_ : Aside0 (Below w.heap.size w w5) := ⟨by rw [← hq_]; exact (by repeat (first | (with_reducible first | exact HB.out | apply below_alloc | apply pw_below_drewN | apply below_drew1 | refine below_set ?_ GE110.out) | exact HB.out))⟩; clear BK110 HB hq_; have BK110 := n0_; have HB := n1_; clear n0_ n1_))) | ((with_reducible refine gate_callee (f := 47) rfl ?_); refine goesL_ (some 10) rfl rfl Tryd.func47 (by kernel_rfl) rfl #[.int .u64 a0, .int .i64 32, .int .i64 32] rfl (by (try simp only [List.map_toArray, List.map_cons, List.map_nil]); first | done | rfl | (simp only [List.length_drop, List.length_take]; rfl)) ?_; (with_reducible refine (word_Field.calls a0 32 32 t113 _ A4.out).mono ?_); rintro e w' ⟨rfl, ⟨nd, rfl⟩⟩; refine ⟨_, rfl, ?_⟩; (try (rw [drewN_self w5]; generalize hq_ : World.drewN w5 _ = w5; have n0_ : Aside0 (w5.heap[gb110]? = some (.cells #[.int .i64 0, .int .i64 0, .int .i64 0, .int .i64 0, .int .i64 0, .int .i64 0, .bool false, .int .i64 0, .int .u32 0, .int .u32 0] 39 (0, 0))) := ⟨by rw [← hq_]; exact (by (with_reducible repeat (first | refine blk_drewN ?_ _ | refine blk_drew ?_ | refine blk_alloc ?_ _)); exact BK110.out)⟩; have n1_ : Aside0 (Below w.heap.size w w5) := ⟨by rw [← hq_]; exact (by repeat (first | (with_reducible first | exact HB.out | apply below_alloc | apply pw_below_drewN | apply below_drew1 | refine below_set ?_ GE110.out) | exact HB.out))⟩; clear BK110 HB hq_; have BK110 := n0_; have HB := n1_; clear n0_ n1_)); have hcz6_0 : w5.cell? ⟨gb110, 0, none⟩ = some (.int .i64 0) := (blk_cell BK110.out 0).trans rfl; have hcz6_1 : w5.cell? ⟨gb110, 1, none⟩ = some (.int .i64 0) := (blk_cell BK110.out 1).trans rfl; have hcz6_2 : w5.cell? ⟨gb110, 2, none⟩ = some (.int .i64 0) := (blk_cell BK110.out 2).trans rfl; have hcz6_3 : w5.cell? ⟨gb110, 3, none⟩ = some (.int .i64 0) := (blk_cell BK110.out 3).trans rfl; have hcz6_4 : w5.cell? ⟨gb110, 4, none⟩ = some (.int .i64 0) := (blk_cell BK110.out 4).trans rfl; have hcz6_5 : w5.cell? ⟨gb110, 5, none⟩ = some (.int .i64 0) := (blk_cell BK110.out 5).trans rfl; have hcz6_6 : w5.cell? ⟨gb110, 6, none⟩ = some (.bool false) := (blk_cell BK110.out 6).trans rfl; have hcz6_7 : w5.cell? ⟨gb110, 7, none⟩ = some (.int .i64 0) := (blk_cell BK110.out 7).trans rfl; have hcz6_8 : w5.cell? ⟨gb110, 8, none⟩ = some (.int .u32 0) := (blk_cell BK110.out 8).trans rfl; have hcz6_9 : w5.cell? ⟨gb110, 9, none⟩ = some (.int .u32 0) := (blk_cell BK110.out 9).trans rfl; have hfz6_0 := blk_frozen BK110.out 0; have hfz6_1 := blk_frozen BK110.out 1; have hfz6_2 := blk_frozen BK110.out 2; have hfz6_3 := blk_frozen BK110.out 3; have hfz6_4 := blk_frozen BK110.out 4; have hfz6_5 := blk_frozen BK110.out 5; have hfz6_6 := blk_frozen BK110.out 6; have hfz6_7 := blk_frozen BK110.out 7; have hfz6_8 := blk_frozen BK110.out 8; have hfz6_9 := blk_frozen BK110.out 9))
  refine bodyPost_ret (results_cell_row rfl _ _ gb110 39 #[.int .i64 0, .int .i64 0, .int .i64 0, .int .i64 0, .int .i64 0, .int .i64 0, .bool (t111 == 1), .int .i64 (wrap64 (t112)), .int .u32 ((t113) % 4294967296), .int .u32 0] (0, 0) _ rfl (by (with_reducible repeat (first | refine blk_drewN ?_ _ | refine blk_drew ?_ | refine blk_alloc ?_ _)); refine blk_put (cs := #[.int .i64 0, .int .i64 0, .int .i64 0, .int .i64 0, .int .i64 0, .int .i64 0, .bool (t111 == 1), .int .i64 (wrap64 (t112)), .int .u32 ((t113) % 4294967296), .int .u32 0]) ?_ 9 _ rfl; (with_reducible repeat (first | refine blk_drewN ?_ _ | refine blk_drew ?_ | refine blk_alloc ?_ _)); refine blk_put (cs := #[.int .i64 0, .int .i64 0, .int .i64 0, .int .i64 0, .int .i64 0, .int .i64 0, .bool (t111 == 1), .int .i64 (wrap64 (t112)), .int .u32 0, .int .u32 0]) ?_ 8 _ rfl; (with_reducible repeat (first | refine blk_drewN ?_ _ | refine blk_drew ?_ | refine blk_alloc ?_ _)); refine blk_put (cs := #[.int .i64 0, .int .i64 0, .int .i64 0, .int .i64 0, .int .i64 0, .int .i64 0, .bool (t111 == 1), .int .i64 0, .int .u32 0, .int .u32 0]) ?_ 7 _ rfl; (with_reducible repeat (first | refine blk_drewN ?_ _ | refine blk_drew ?_ | refine blk_alloc ?_ _)); refine blk_put (cs := #[.int .i64 0, .int .i64 0, .int .i64 0, .int .i64 0, .int .i64 0, .int .i64 0, .bool false, .int .i64 0, .int .u32 0, .int .u32 0]) ?_ 6 _ rfl; (with_reducible repeat (first | refine blk_drewN ?_ _ | refine blk_drew ?_ | refine blk_alloc ?_ _)); refine blk_put (cs := #[.int .i64 0, .int .i64 0, .int .i64 0, .int .i64 0, .int .i64 0, .int .i64 0, .bool false, .int .i64 0, .int .u32 0, .int .u32 0]) ?_ 5 _ rfl; (with_reducible repeat (first | refine blk_drewN ?_ _ | refine blk_drew ?_ | refine blk_alloc ?_ _)); refine blk_put (cs := #[.int .i64 0, .int .i64 0, .int .i64 0, .int .i64 0, .int .i64 0, .int .i64 0, .bool false, .int .i64 0, .int .u32 0, .int .u32 0]) ?_ 4 _ rfl; (with_reducible repeat (first | refine blk_drewN ?_ _ | refine blk_drew ?_ | refine blk_alloc ?_ _)); refine blk_put (cs := #[.int .i64 0, .int .i64 0, .int .i64 0, .int .i64 0, .int .i64 0, .int .i64 0, .bool false, .int .i64 0, .int .u32 0, .int .u32 0]) ?_ 3 _ rfl; (with_reducible repeat (first | refine blk_drewN ?_ _ | refine blk_drew ?_ | refine blk_alloc ?_ _)); refine blk_put (cs := #[.int .i64 0, .int .i64 0, .int .i64 0, .int .i64 0, .int .i64 0, .int .i64 0, .bool false, .int .i64 0, .int .u32 0, .int .u32 0]) ?_ 2 _ rfl; (with_reducible repeat (first | refine blk_drewN ?_ _ | refine blk_drew ?_ | refine blk_alloc ?_ _)); refine blk_put (cs := #[.int .i64 0, .int .i64 0, .int .i64 0, .int .i64 0, .int .i64 0, .int .i64 0, .bool false, .int .i64 0, .int .u32 0, .int .u32 0]) ?_ 1 _ rfl; (with_reducible repeat (first | refine blk_drewN ?_ _ | refine blk_drew ?_ | refine blk_alloc ?_ _)); refine blk_put (cs := #[.int .i64 0, .int .i64 0, .int .i64 0, .int .i64 0, .int .i64 0, .int .i64 0, .bool false, .int .i64 0, .int .u32 0, .int .u32 0]) ?_ 0 _ rfl; (with_reducible repeat (first | refine blk_drewN ?_ _ | refine blk_drew ?_ | refine blk_alloc ?_ _)); exact BK110.out) Tryd.underlying39 rfl (by kernel_rfl)) rfl ?_
  exact ⟨by first | rfl | (simp [errW_none, errW_some] <;> rfl) | (simp [*, errW_none, errW_some] <;> rfl), by repeat (first | (with_reducible first | exact HB.out | apply below_alloc | apply pw_below_drewN | apply below_drew1 | refine below_set ?_ GE110.out) | exact HB.out)⟩

end Go.Proofs.YtcjhejopcghgnaaDoor.P

namespace Go.Proofs.YtcjhejopcghgnaaDoor.P
open Go.RowKit Go.Proofs.YtcjhejopcghgnaaDoorW.PrintWords Go.Proofs.YtcjhejopcghgnaaDoorW.PrintLast Go.Proofs.YtcjhejopcghgnaaDoorW.PrintMore
attribute [local go_sem] max2_int min2_int max_two min_two max_three min_three max_four min_four   -- for this text's walks alone
set_option linter.unusedVariables false
set_option linter.unusedSimpArgs false

variable {gb : Bool}
/-! ### pointer_decoders_4: function 79 -/
def pointer_decoders_4.f (a0 : Int) : Option (Int × Int × Int × Int × Int × Int × Bool × Int × Int × Int) := (word_Field.f a0 2 30).bind fun t115 => ((word_Field.f a0 32 32).bind fun t116 => (some (0, 0, 0, 0, 0, 0, false, 0, (t116) % 4294967296, (t115) % 4294967296)))
set_option maxHeartbeats 8000000 in
set_option maxRecDepth 100000 in
theorem pointer_decoders_4.calls (a0 : Int) (r1 : Int) (r2 : Int) (r3 : Int) (r4 : Int) (r5 : Int) (r6 : Int) (r7 : Bool) (r8 : Int) (r9 : Int) (r10 : Int) (w : World) (h : pointer_decoders_4.f a0 = some (r1, r2, r3, r4, r5, r6, r7, r8, r9, r10)) :
    Calls Tryd.prog 79 #[.int .u64 a0] w fun e w' => e = .returned (.agg #[.int .i64 r1, .int .i64 r2, .int .i64 r3, .int .i64 r4, .int .i64 r5, .int .i64 r6, .bool r7, .int .i64 r8, .int .u32 r9, .int .u32 r10]) ∧ Below w.heap.size w w' := by
  have hu39 := Tryd.underlying39
  have HB := Aside0.mk (Below.refl w.heap.size w)
  have H : ((word_Field.f a0 2 30).bind fun t115 => ((word_Field.f a0 32 32).bind fun t116 => (some (0, 0, 0, 0, 0, 0, false, 0, (t116) % 4294967296, (t115) % 4294967296)))) = some (r1, r2, r3, r4, r5, r6, r7, r8, r9, r10) := h
  clear h
  replace H := Option.bind_eq_some_iff.mp H
  obtain ⟨t115, A20, H⟩ := H
  replace H : ((word_Field.f a0 32 32).bind fun t116 => (some (0, 0, 0, 0, 0, 0, false, 0, (t116) % 4294967296, (t115) % 4294967296))) = some (r1, r2, r3, r4, r5, r6, r7, r8, r9, r10) := H
  have A2 := Aside0.mk A20
  clear A20
  replace H := Option.bind_eq_some_iff.mp H
  obtain ⟨t116, A30, H⟩ := H
  replace H : (some (0, 0, 0, 0, 0, 0, false, 0, (t116) % 4294967296, (t115) % 4294967296)) = some (r1, r2, r3, r4, r5, r6, r7, r8, r9, r10) := H
  have A3 := Aside0.mk A30
  clear A30
  simp only [Option.some.injEq, Prod.mk.injEq] at H
  obtain ⟨rfl, rfl, rfl, rfl, rfl, rfl, rfl, rfl, rfl, rfl⟩ := H
  go_enter Tryd.func79, Tryd.ntmps79
  go_wp2_with (first | ((with_reducible refine gate_dst (N := 2) rfl ?_); refine box_event ?hg (N := 2) ?hd (cs := #[.int .i64 0, .int .i64 0, .int .i64 0, .int .i64 0, .int .i64 0, .int .i64 0, .bool false, .int .i64 0, .int .u32 0, .int .u32 0]) (t := 39) ?hr ?_; (case hd => rfl); (case hg => rfl); (case hr => first | (go_simp; done) | (go_simp; rfl)); intro gb114 hg w4 hbox hb; have n0_ := Aside0.mk (below_step (by repeat (first | (with_reducible first | exact HB.out | apply below_alloc | apply pw_below_drewN | apply below_drew1) | exact HB.out)) hb); have n1_ := Aside0.mk (hbox); have n2_ := Aside0.mk ((by rw [hg]; exact (below_size (by repeat (first | (with_reducible first | exact HB.out | apply below_alloc | apply pw_below_drewN | apply below_drew1) | exact HB.out))) : w.heap.size ≤ gb114)); have n3_ := Aside0.mk ((by rw [hg]; exact (below_size (by repeat (first | (with_reducible first | exact HB.out | apply below_alloc | apply pw_below_drewN | apply below_drew1) | exact HB.out))) : w.heap.size ≤ gb114)); clear HB; have HB := n0_; have BK114 := n1_; have GW114 := n2_; have GE114 := n3_; clear n0_ n1_ n2_ n3_; clear hb hbox hg) | ((with_reducible refine gate_callee (f := 47) rfl ?_); refine goesL_ (some 4) rfl rfl Tryd.func47 (by kernel_rfl) rfl #[.int .u64 a0, .int .i64 2, .int .i64 30] rfl (by (try simp only [List.map_toArray, List.map_cons, List.map_nil]); first | done | rfl | (simp only [List.length_drop, List.length_take]; rfl)) ?_; (with_reducible refine (word_Field.calls a0 2 30 t115 _ A2.out).mono ?_); rintro e w' ⟨rfl, ⟨nd, rfl⟩⟩; refine ⟨_, rfl, ?_⟩; (try (rw [drewN_self w4]; generalize hq_ : World.drewN w4 _ = w4; have n0_ : Aside0 (w4.heap[gb114]? = some (.cells #[.int .i64 0, .int .i64 0, .int .i64 0, .int .i64 0, .int .i64 0, .int .i64 0, .bool false, .int .i64 0, .int .u32 0, .int .u32 0] 39 (0, 0))) := ⟨by rw [← hq_]; exact (by (with_reducible repeat (first | refine blk_drewN ?_ _ | refine blk_drew ?_ | refine blk_alloc ?_ _)); exact BK114.out)⟩; have n1_ : Aside0 (Below w.heap.size w w4) := ⟨by rw [← hq_]; exact (by repeat (first | (with_reducible first | exact HB.out | apply below_alloc | apply pw_below_drewN | apply below_drew1 | refine below_set ?_ GE114.out) | exact HB.out))⟩; clear BK114 HB hq_; have BK114 := n0_; have HB := n1_; clear n0_ n1_))) | ((with_reducible refine gate_callee (f := 47) rfl ?_); refine goesL_ (some 7) rfl rfl Tryd.func47 (by kernel_rfl) rfl #[.int .u64 a0, .int .i64 32, .int .i64 32] rfl (by (try simp only [List.map_toArray, List.map_cons, List.map_nil]); first | done | rfl | (simp only [List.length_drop, List.length_take]; rfl)) ?_; (with_reducible refine (word_Field.calls a0 32 32 t116 _ A3.out).mono ?_); rintro e w' ⟨rfl, ⟨nd, rfl⟩⟩; refine ⟨_, rfl, ?_⟩; (try (rw [drewN_self w4]; generalize hq_ : World.drewN w4 _ = w4; have n0_ : Aside0 (w4.heap[gb114]? = some (.cells #[.int .i64 0, .int .i64 0, .int .i64 0, .int .i64 0, .int .i64 0, .int .i64 0, .bool false, .int .i64 0, .int .u32 0, .int .u32 0] 39 (0, 0))) := ⟨by rw [← hq_]; exact (by (with_reducible repeat (first | refine blk_drewN ?_ _ | refine blk_drew ?_ | refine blk_alloc ?_ _)); exact BK114.out)⟩; have n1_ : Aside0 (Below w.heap.size w w4) := ⟨by rw [← hq_]; exact (by repeat (first | (with_reducible first | exact HB.out | apply below_alloc | apply pw_below_drewN | apply below_drew1 | refine below_set ?_ GE114.out) | exact HB.out))⟩; clear BK114 HB hq_; have BK114 := n0_; have HB := n1_; clear n0_ n1_)); have hcz5_0 : w4.cell? ⟨gb114, 0, none⟩ = some (.int .i64 0) := (blk_cell BK114.out 0).trans rfl; have hcz5_1 : w4.cell? ⟨gb114, 1, none⟩ = some (.int .i64 0) := (blk_cell BK114.out 1).trans rfl; have hcz5_2 : w4.cell? ⟨gb114, 2, none⟩ = some (.int .i64 0) := (blk_cell BK114.out 2).trans rfl; have hcz5_3 : w4.cell? ⟨gb114, 3, none⟩ = some (.int .i64 0) := (blk_cell BK114.out 3).trans rfl; have hcz5_4 : w4.cell? ⟨gb114, 4, none⟩ = some (.int .i64 0) := (blk_cell BK114.out 4).trans rfl; have hcz5_5 : w4.cell? ⟨gb114, 5, none⟩ = some (.int .i64 0) := (blk_cell BK114.out 5).trans rfl; have hcz5_6 : w4.cell? ⟨gb114, 6, none⟩ = some (.bool false) := (blk_cell BK114.out 6).trans rfl; have hcz5_7 : w4.cell? ⟨gb114, 7, none⟩ = some (.int .i64 0) := (blk_cell BK114.out 7).trans rfl; have hcz5_8 : w4.cell? ⟨gb114, 8, none⟩ = some (.int .u32 0) := (blk_cell BK114.out 8).trans rfl; have hcz5_9 : w4.cell? ⟨gb114, 9, none⟩ = some (.int .u32 0) := (blk_cell BK114.out 9).trans rfl; have hfz5_0 := blk_frozen BK114.out 0; have hfz5_1 := blk_frozen BK114.out 1; have hfz5_2 := blk_frozen BK114.out 2; have hfz5_3 := blk_frozen BK114.out 3; have hfz5_4 := blk_frozen BK114.out 4; have hfz5_5 := blk_frozen BK114.out 5; have hfz5_6 := blk_frozen BK114.out 6; have hfz5_7 := blk_frozen BK114.out 7; have hfz5_8 := blk_frozen BK114.out 8; have hfz5_9 := blk_frozen BK114.out 9))
  refine bodyPost_ret (results_cell_row rfl _ _ gb114 39 #[.int .i64 0, .int .i64 0, .int .i64 0, .int .i64 0, .int .i64 0, .int .i64 0, .bool false, .int .i64 0, .int .u32 ((t116) % 4294967296), .int .u32 ((t115) % 4294967296)] (0, 0) _ rfl (by (with_reducible repeat (first | refine blk_drewN ?_ _ | refine blk_drew ?_ | refine blk_alloc ?_ _)); refine blk_put (cs := #[.int .i64 0, .int .i64 0, .int .i64 0, .int .i64 0, .int .i64 0, .int .i64 0, .bool false, .int .i64 0, .int .u32 ((t116) % 4294967296), .int .u32 0]) ?_ 9 _ rfl; (with_reducible repeat (first | refine blk_drewN ?_ _ | refine blk_drew ?_ | refine blk_alloc ?_ _)); refine blk_put (cs := #[.int .i64 0, .int .i64 0, .int .i64 0, .int .i64 0, .int .i64 0, .int .i64 0, .bool false, .int .i64 0, .int .u32 0, .int .u32 0]) ?_ 8 _ rfl; (with_reducible repeat (first | refine blk_drewN ?_ _ | refine blk_drew ?_ | refine blk_alloc ?_ _)); refine blk_put (cs := #[.int .i64 0, .int .i64 0, .int .i64 0, .int .i64 0, .int .i64 0, .int .i64 0, .bool false, .int .i64 0, .int .u32 0, .int .u32 0]) ?_ 7 _ rfl; (with_reducible repeat (first | refine blk_drewN ?_ _ | refine blk_drew ?_ | refine blk_alloc ?_ _)); refine blk_put (cs := #[.int .i64 0, .int .i64 0, .int .i64 0, .int .i64 0, .int .i64 0, .int .i64 0, .bool false, .int .i64 0, .int .u32 0, .int .u32 0]) ?_ 6 _ rfl; (with_reducible repeat (first | refine blk_drewN ?_ _ | refine blk_drew ?_ | refine blk_alloc ?_ _)); refine blk_put (cs := #[.int .i64 0, .int .i64 0, .int .i64 0, .int .i64 0, .int .i64 0, .int .i64 0, .bool false, .int .i64 0, .int .u32 0, .int .u32 0]) ?_ 5 _ rfl; (with_reducible repeat (first | refine blk_drewN ?_ _ | refine blk_drew ?_ | refine blk_alloc ?_ _)); refine blk_put (cs := #[.int .i64 0, .int .i64 0, .int .i64 0, .int .i64 0, .int .i64 0, .int .i64 0, .bool false, .int .i64 0, .int .u32 0, .int .u32 0]) ?_ 4 _ rfl; (with_reducible repeat (first | refine blk_drewN ?_ _ | refine blk_drew ?_ | refine blk_alloc ?_ _)); refine blk_put (cs := #[.int .i64 0, .int .i64 0, .int .i64 0, .int .i64 0, .int .i64 0, .int .i64 0, .bool false, .int .i64 0, .int .u32 0, .int .u32 0]) ?_ 3 _ rfl; (with_reducible repeat (first | refine blk_drewN ?_ _ | refine blk_drew ?_ | refine blk_alloc ?_ _)); refine blk_put (cs := #[.int .i64 0, .int .i64 0, .int .i64 0, .int .i64 0, .int .i64 0, .int .i64 0, .bool false, .int .i64 0, .int .u32 0, .int .u32 0]) ?_ 2 _ rfl; (with_reducible repeat (first | refine blk_drewN ?_ _ | refine blk_drew ?_ | refine blk_alloc ?_ _)); refine blk_put (cs := #[.int .i64 0, .int .i64 0, .int .i64 0, .int .i64 0, .int .i64 0, .int .i64 0, .bool false, .int .i64 0, .int .u32 0, .int .u32 0]) ?_ 1 _ rfl; (with_reducible repeat (first | refine blk_drewN ?_ _ | refine blk_drew ?_ | refine blk_alloc ?_ _)); refine blk_put (cs := #[.int .i64 0, .int .i64 0, .int .i64 0, .int .i64 0, .int .i64 0, .int .i64 0, .bool false, .int .i64 0, .int .u32 0, .int .u32 0]) ?_ 0 _ rfl; (with_reducible repeat (first | refine blk_drewN ?_ _ | refine blk_drew ?_ | refine blk_alloc ?_ _)); exact BK114.out) Tryd.underlying39 rfl (by kernel_rfl)) rfl ?_
  exact ⟨by first | rfl | (simp [errW_none, errW_some] <;> rfl) | (simp [*, errW_none, errW_some] <;> rfl), by repeat (first | (with_reducible first | exact HB.out | apply below_alloc | apply pw_below_drewN | apply below_drew1 | refine below_set ?_ GE114.out) | exact HB.out)⟩

end Go.Proofs.YtcjhejopcghgnaaDoor.P

namespace Go.Proofs.YtcjhejopcghgnaaDoor.P
open Go.RowKit Go.Proofs.YtcjhejopcghgnaaDoorW.PrintWords Go.Proofs.YtcjhejopcghgnaaDoorW.PrintLast Go.Proofs.YtcjhejopcghgnaaDoorW.PrintMore
attribute [local go_sem] max2_int min2_int max_two min_two max_three min_three max_four min_four   -- for this text's walks alone
set_option linter.unusedVariables false
set_option linter.unusedSimpArgs false

variable {gb : Bool}
/-! ### pointer_Decode: function 34 -/
def pointer_Decode.f (a0 : Int) : Option (Int × Int × Int × Int × Int × Int × Bool × Int × Int × Int) := (word_Field.f a0 0 2).bind fun k => if k = 0 then ((pointer_decoders_1.f a0).bind fun r => some (0, r.2)) else (if k = 1 then ((pointer_decoders_2.f a0).bind fun r => some (1, r.2)) else (if k = 2 then ((pointer_decoders_3.f a0).bind fun r => some (2, r.2)) else (if k = 3 then ((pointer_decoders_4.f a0).bind fun r => some (3, r.2)) else none)))
theorem pointer_Decode.cases (a0 : Int) (r1 r2 r3 r4 r5 r6 : Int) (r7 : Bool) (r8 r9 r10 : Int) (h : pointer_Decode.f a0 = some (r1, r2, r3, r4, r5, r6, r7, r8, r9, r10)) :
    (∃ r, word_Field.f a0 0 2 = some 0 ∧ r1 = 0 ∧ pointer_decoders_1.f a0 = some (r, r2, r3, r4, r5, r6, r7, r8, r9, r10)) ∨ (∃ r, word_Field.f a0 0 2 = some 1 ∧ r1 = 1 ∧ pointer_decoders_2.f a0 = some (r, r2, r3, r4, r5, r6, r7, r8, r9, r10)) ∨
    (∃ r, word_Field.f a0 0 2 = some 2 ∧ r1 = 2 ∧ pointer_decoders_3.f a0 = some (r, r2, r3, r4, r5, r6, r7, r8, r9, r10)) ∨ (∃ r, word_Field.f a0 0 2 = some 3 ∧ r1 = 3 ∧ pointer_decoders_4.f a0 = some (r, r2, r3, r4, r5, r6, r7, r8, r9, r10)) := by
  unfold pointer_Decode.f at h
  obtain ⟨k, hk, h⟩ := Option.bind_eq_some_iff.mp h
  split at h
  · obtain ⟨⟨r, q⟩, hr, h⟩ := Option.bind_eq_some_iff.mp h
    simp only [Option.some.injEq, Prod.mk.injEq] at h
    obtain ⟨rfl, rfl⟩ := h
    exact .inl ⟨r, by simp_all, rfl, hr⟩
  split at h
  · obtain ⟨⟨r, q⟩, hr, h⟩ := Option.bind_eq_some_iff.mp h
    simp only [Option.some.injEq, Prod.mk.injEq] at h
    obtain ⟨rfl, rfl⟩ := h
    exact .inr (.inl ⟨r, by simp_all, rfl, hr⟩)
  split at h
  · obtain ⟨⟨r, q⟩, hr, h⟩ := Option.bind_eq_some_iff.mp h
    simp only [Option.some.injEq, Prod.mk.injEq] at h
    obtain ⟨rfl, rfl⟩ := h
    exact .inr (.inr (.inl ⟨r, by simp_all, rfl, hr⟩))
  split at h
  · obtain ⟨⟨r, q⟩, hr, h⟩ := Option.bind_eq_some_iff.mp h
    simp only [Option.some.injEq, Prod.mk.injEq] at h
    obtain ⟨rfl, rfl⟩ := h
    exact .inr (.inr (.inr ⟨r, by simp_all, rfl, hr⟩))
  · exact absurd h (by simp)
set_option maxHeartbeats 1600000 in
set_option maxRecDepth 100000 in
theorem pointer_Decode.calls (a0 : Int) (r1 : Int) (r2 : Int) (r3 : Int) (r4 : Int) (r5 : Int) (r6 : Int) (r7 : Bool) (r8 : Int) (r9 : Int) (r10 : Int) (w : World) (hG : Glob gb w) (h : pointer_Decode.f a0 = some (r1, r2, r3, r4, r5, r6, r7, r8, r9, r10)) :
    Calls Tryd.prog 34 #[.int .u64 a0] w fun e w' => e = .returned (.agg #[.int .i64 r1, .int .i64 r2, .int .i64 r3, .int .i64 r4, .int .i64 r5, .int .i64 r6, .bool r7, .int .i64 r8, .int .u32 r9, .int .u32 r10]) ∧ Below w.heap.size w w' := by
  obtain ⟨bm, es, clock, hc, hm, hl⟩ := hG.dec
  have Hl := Aside0.mk hl
  clear hl hG
  have hsz : 0 < w.heap.size := World.block_lt_of_cell? w _ hc
  rcases pointer_Decode.cases _ _ _ _ _ _ _ _ _ _ _ h with ⟨r, hk, hr1, hd⟩ | ⟨r, hk, hr1, hd⟩ | ⟨r, hk, hr1, hd⟩ | ⟨r, hk, hr1, hd⟩
  all_goals
    have Hk := Aside0.mk hk
    have H := Aside0.mk hd
    have Hr := Aside0.mk hr1
    clear h hk hd hr1
    go_enter Tryd.func34, Tryd.ntmps34
    go_wp2_with fail
    refine (word_Field.calls a0 0 2 _ _ Hk.out).mono ?_
    rintro e w1 ⟨rfl, hd⟩
    have hb1 := hd.below
    clear hd
    have hc1 := (hb1.cell (p := ⟨0, 0, none⟩) (by simp)).trans (World.cell?_alloc_past _ _ _ hsz |>.trans hc)
    have hm1 : w1.heap[bm]? = some (.map es clock) := blk_below (blk_alloc hm _) hb1
    obtain ⟨hl0, hl1, hl2, hl3⟩ := Hl.out w1 hm1
    have hx1 := blk_below (blk_new w _) hb1
    have HB1 := Aside0.mk (below_step (below_alloc (Below.refl w.heap.size w) _) hb1)
    clear hb1
    go_wp2_with fail
    first
    | (go_at_call 75; refine (pointer_decoders_1.calls a0 _ _ _ _ _ _ _ _ _ _ _ H.out).mono ?_)
    | (go_at_call 77; refine (pointer_decoders_2.calls a0 _ _ _ _ _ _ _ _ _ _ _ H.out).mono ?_)
    | (go_at_call 78; refine (pointer_decoders_3.calls a0 _ _ _ _ _ _ _ _ _ _ _ H.out).mono ?_)
    | (go_at_call 79; refine (pointer_decoders_4.calls a0 _ _ _ _ _ _ _ _ _ _ _ H.out).mono ?_)
    rintro e w2 ⟨rfl, hb2⟩
    have hx2 := blk_below hx1 hb2
    have HB2 := Aside0.mk (below_step HB1.out hb2)
    have hs2 : w.heap.size < w2.heap.size := lt_of_block hx2
    have hcs : ∀ i, w2.cell? ⟨w.heap.size, i, none⟩ = _ := fun i => blk_cell hx2 i
    have hfr : ∀ i, w2.frozen? ⟨w.heap.size, i, none⟩ = false := fun i => blk_frozen hx2 i
    clear hb2 hc1 hm1 hl0 hl1 hl2 hl3 hx1 hc hm HB1
    go_wp2
    refine bodyPost_ret (v := .agg #[.int .i64 r1, .int .i64 r2, .int .i64 r3, .int .i64 r4, .int .i64 r5, .int .i64 r6, .bool r7, .int .i64 r8, .int .u32 r9, .int .u32 r10]) (by rw [Hr.out]; simp [results, Tryd.results34, go_sem, hcs, hfr, hs2]) rfl ⟨rfl, ?_⟩
    repeat (with_reducible first | exact HB2.out | apply below_alloc | refine below_set ?_ (Nat.le_refl _))

end Go.Proofs.YtcjhejopcghgnaaDoor.P

namespace Go.Proofs.YtcjhejopcghgnaaDoor.P
open Go.RowKit Go.Proofs.YtcjhejopcghgnaaDoorW.PrintWords Go.Proofs.YtcjhejopcghgnaaDoorW.PrintLast Go.Proofs.YtcjhejopcghgnaaDoorW.PrintMore
attribute [local go_sem] max2_int min2_int max_two min_two max_three min_three max_four min_four   -- for this text's walks alone
set_option linter.unusedVariables false
set_option linter.unusedSimpArgs false

variable {gb : Bool}
/-! ### far_IsFar: function 16 -/
def far_IsFar.f (a0 : Int) : Option (Bool) := (pointer_Decode.f a0).bind fun p => some (p.1 == 2)
set_option maxHeartbeats 1600000 in
set_option maxRecDepth 100000 in
theorem far_IsFar.calls (a0 : Int) (r : Bool) (w : World) (hG : Glob gb w) (h : far_IsFar.f a0 = some r) :
    Calls Tryd.prog 16 #[.int .u64 a0] w fun e w' => e = .returned (.bool r) ∧ Below w.heap.size w w' := by
  unfold far_IsFar.f at h
  obtain ⟨⟨p1, p2, p3, p4, p5, p6, p7, p8, p9, p10⟩, hp, h⟩ := Option.bind_eq_some_iff.mp h
  obtain rfl := Option.some.inj h
  have hf : ∀ W : World, (Instr.field 39 (Value.agg #[.int .i64 p1, .int .i64 p2, .int .i64 p3, .int .i64 p4, .int .i64 p5, .int .i64 p6, .bool p7, .int .i64 p8, .int .u32 p9, .int .u32 p10]) 0).run Tryd.prog W = .ok (.int .i64 p1) W := fun W => by kernel_rfl
  have HP := Aside0.mk hp
  have HG := Aside0.mk hG
  clear hp hG h
  go_enter Tryd.func16, Tryd.ntmps16
  go_wp2_with fail
  refine (pointer_Decode.calls _ _ _ _ _ _ _ _ _ _ _ w HG.out HP.out).mono ?_
  rintro e w1 ⟨rfl, hb⟩
  have HB := Aside0.mk hb
  clear hb
  go_wp2
  go_ret
  exact ⟨by first | rfl | (simp; done), HB.out⟩

end Go.Proofs.YtcjhejopcghgnaaDoor.P

namespace Go.Proofs.YtcjhejopcghgnaaDoor.P
open Go.RowKit Go.Proofs.YtcjhejopcghgnaaDoorW.PrintWords Go.Proofs.YtcjhejopcghgnaaDoorW.PrintLast Go.Proofs.YtcjhejopcghgnaaDoorW.PrintMore
attribute [local go_sem] max2_int min2_int max_two min_two max_three min_three max_four min_four   -- for this text's walks alone
set_option linter.unusedVariables false
set_option linter.unusedSimpArgs false

variable {gb : Bool}
theorem eqA60 (d : Nat) (w : World) (x0 y0 : Int) (x1 y1 : Int) (x2 y2 : Int) :
    (Op.equalIn (d + 2) 60 (.agg #[.int .u64 x0, .int .i64 x1, .int .i64 x2]) (.agg #[.int .u64 y0, .int .i64 y1, .int .i64 y2])).run Tryd.prog w = .ok (x0 == y0 && (x1 == y1 && (x2 == y2))) w := by
  refine eqA_of Tryd.underlying60 (by kernel_rfl) ?_
  refine eqf_cons (by rfl) (by go_simp; rfl) (by go_simp; rfl) (by go_simp) ?_
  refine eqf_cons (by rfl) (by go_simp; rfl) (by go_simp; rfl) (by go_simp) ?_
  exact eqf_last (by rfl) (by go_simp; rfl) (by go_simp; rfl) (by go_simp)
end Go.Proofs.YtcjhejopcghgnaaDoor.P

namespace Go.Proofs.YtcjhejopcghgnaaDoor.P
open Go.RowKit Go.Proofs.YtcjhejopcghgnaaDoorW.PrintWords Go.Proofs.YtcjhejopcghgnaaDoorW.PrintLast Go.Proofs.YtcjhejopcghgnaaDoorW.PrintMore
attribute [local go_sem] max2_int min2_int max_two min_two max_three min_three max_four min_four   -- for this text's walks alone
set_option linter.unusedVariables false
set_option linter.unusedSimpArgs false

variable {gb : Bool}
/-! ### arena_InBounds: function 46 -/
def arena_InBounds.f (l0 : List (List Int)) (a1 : Int) (a2 : Int) (a3 : Int) : Option (Bool) := if a1 ≥ 0 then (if a1 < (l0.length : Int) then (if a2 ≥ 0 then (if a3 ≥ 0 then (if 0 ≤ a1 then (if a2 ≤ ((rd_L5 l0 a1).length : Int) then (some (decide (a3 ≤ (wrap64 (((rd_L5 l0 a1).length : Int) - a2))))) else (some false)) else (none)) else (some false)) else (some false)) else (some false)) else (some false)
set_option maxHeartbeats 8000000 in
set_option maxRecDepth 100000 in
theorem arena_InBounds.calls (A0 : Option Addr) (c0 : Nat) (l0 : List (List Int)) (a1 : Int) (a2 : Int) (a3 : Int) (r : Bool) (w : World) (hr0 : Kd.C (Kd.slice 23 (Kd.int .u64)) w A0 l0.length l0) (hc0 : l0.length ≤ c0) (h : arena_InBounds.f l0 a1 a2 a3 = some r) :
    Calls Tryd.prog 46 #[.slice A0 l0.length c0, .int .i64 a1, .int .i64 a2, .int .i64 a3] w fun e w' => e = .returned (.bool r) ∧ Drawn0 w w' := by
  have HR0 := Aside0.mk hr0
  have HC0 := Aside0.mk hc0
  clear hr0 hc0
  have H : (if a1 ≥ 0 then (if a1 < (l0.length : Int) then (if a2 ≥ 0 then (if a3 ≥ 0 then (if 0 ≤ a1 then (if a2 ≤ ((rd_L5 l0 a1).length : Int) then (some (decide (a3 ≤ (wrap64 (((rd_L5 l0 a1).length : Int) - a2))))) else (some false)) else (none)) else (some false)) else (some false)) else (some false)) else (some false)) = some r := h
  clear h
  by_cases c5 : a1 ≥ 0
  · rw [if_pos c5] at H
    have c5b0 : decide (0 ≤ a1) = true := decide_eq_true c5
    clear c5
    by_cases c6 : a1 < (l0.length : Int)
    · rw [if_pos c6] at H
      have c6b0 : decide (a1 < (l0.length : Int)) = true := decide_eq_true c6
      clear c6
      by_cases c7 : a2 ≥ 0
      · rw [if_pos c7] at H
        have c7b0 : decide (0 ≤ a2) = true := decide_eq_true c7
        clear c7
        by_cases c8 : a3 ≥ 0
        · rw [if_pos c8] at H
          have c8b0 : decide (0 ≤ a3) = true := decide_eq_true c8
          clear c8
          by_cases c9 : 0 ≤ a1
          · rw [if_pos c9] at H
            have c9b0 : decide (0 ≤ a1) = true := decide_eq_true c9
            clear c9
            by_cases c10 : a2 ≤ ((rd_L5 l0 a1).length : Int)
            · rw [if_pos c10] at H
              have c10b0 : decide (a2 ≤ ((rd_L5 l0 a1).length : Int)) = true := decide_eq_true c10
              clear c10
              obtain rfl := Option.some.inj H
              have p117 : 0 ≤ (a1 : Int) := of_decide_eq_true (by first | (with_reducible assumption) | assumption)
              have q117 : a1 < (l0.length : Int) := of_decide_eq_true (by first | (with_reducible assumption) | assumption)
              obtain ⟨ad117, A117_0, c117_0, e117, hx117_0, hl117_0, hi117_0⟩ := at_L5 HR0.out a1 p117 q117
              cases e117
              have HR117_0 := Aside0.mk hi117_0
              have HC117_0 := Aside0.mk hl117_0
              clear hi117_0 hl117_0
              replace p117 := eq_true p117
              replace q117 := eq_true q117
              have p118 : 0 ≤ (a1 : Int) := of_decide_eq_true (by first | (with_reducible assumption) | assumption)
              have q118 : a1 < (l0.length : Int) := of_decide_eq_true (by first | (with_reducible assumption) | assumption)
              obtain ⟨ad118, A118_0, c118_0, e118, hx118_0, hl118_0, hi118_0⟩ := at_L5 HR0.out a1 p118 q118
              obtain rfl : ad117 = ad118 := (by injection e118)
              have HR118_0 := Aside0.mk hi118_0
              have HC118_0 := Aside0.mk hl118_0
              clear hi118_0 hl118_0
              replace p118 := eq_true p118
              replace q118 := eq_true q118
              have ea_ := Option.some.inj (hx117_0.symm.trans hx118_0)
              injection ea_ with ea_ en_ ec_
              subst ea_
              subst ec_
              clear en_
              go_enter Tryd.func46, Tryd.ntmps46
              go_wp2
              go_ret
              exact ⟨by first | rfl | (simp; done) | (simp [*]; done), by repeat (first | exact Drawn0.refl _ | apply Drawn0.step)⟩
            · rw [if_neg c10] at H
              have c10b0 : decide (a2 ≤ ((rd_L5 l0 a1).length : Int)) = false := decide_eq_false c10
              clear c10
              obtain rfl := Option.some.inj H
              have p117 : 0 ≤ (a1 : Int) := of_decide_eq_true (by first | (with_reducible assumption) | assumption)
              have q117 : a1 < (l0.length : Int) := of_decide_eq_true (by first | (with_reducible assumption) | assumption)
              obtain ⟨ad117, A117_0, c117_0, e117, hx117_0, hl117_0, hi117_0⟩ := at_L5 HR0.out a1 p117 q117
              cases e117
              have HR117_0 := Aside0.mk hi117_0
              have HC117_0 := Aside0.mk hl117_0
              clear hi117_0 hl117_0
              replace p117 := eq_true p117
              replace q117 := eq_true q117
              go_enter Tryd.func46, Tryd.ntmps46
              go_wp2
              go_ret
              exact ⟨by first | rfl | (simp; done) | (simp [*]; done), by repeat (first | exact Drawn0.refl _ | apply Drawn0.step)⟩
          · rw [if_neg c9] at H
            exact absurd H (by simp)
        · rw [if_neg c8] at H
          have c8b0 : decide (0 ≤ a3) = false := decide_eq_false c8
          clear c8
          obtain rfl := Option.some.inj H
          go_enter Tryd.func46, Tryd.ntmps46
          go_wp2
          go_ret
          exact ⟨by first | rfl | (simp; done) | (simp [*]; done), by repeat (first | exact Drawn0.refl _ | apply Drawn0.step)⟩
      · rw [if_neg c7] at H
        have c7b0 : decide (0 ≤ a2) = false := decide_eq_false c7
        clear c7
        obtain rfl := Option.some.inj H
        go_enter Tryd.func46, Tryd.ntmps46
        go_wp2
        go_ret
        exact ⟨by first | rfl | (simp; done) | (simp [*]; done), by repeat (first | exact Drawn0.refl _ | apply Drawn0.step)⟩
    · rw [if_neg c6] at H
      have c6b0 : decide (a1 < (l0.length : Int)) = false := decide_eq_false c6
      clear c6
      obtain rfl := Option.some.inj H
      go_enter Tryd.func46, Tryd.ntmps46
      go_wp2
      go_ret
      exact ⟨by first | rfl | (simp; done) | (simp [*]; done), by repeat (first | exact Drawn0.refl _ | apply Drawn0.step)⟩
  · rw [if_neg c5] at H
    have c5b0 : decide (0 ≤ a1) = false := decide_eq_false c5
    clear c5
    obtain rfl := Option.some.inj H
    go_enter Tryd.func46, Tryd.ntmps46
    go_wp2
    go_ret
    exact ⟨by first | rfl | (simp; done) | (simp [*]; done), by repeat (first | exact Drawn0.refl _ | apply Drawn0.step)⟩

end Go.Proofs.YtcjhejopcghgnaaDoor.P

namespace Go.Proofs.YtcjhejopcghgnaaDoor.P
open Go.RowKit Go.Proofs.YtcjhejopcghgnaaDoorW.PrintWords Go.Proofs.YtcjhejopcghgnaaDoorW.PrintLast Go.Proofs.YtcjhejopcghgnaaDoorW.PrintMore
attribute [local go_sem] max2_int min2_int max_two min_two max_three min_three max_four min_four   -- for this text's walks alone
set_option linter.unusedVariables false
set_option linter.unusedSimpArgs false

variable {gb : Bool}
/-! ### arena_Word: function 32 -/
def arena_Word.f (l0 : List (List Int)) (a1 : Int) (a2 : Int) : Option (Int × Bool) := (arena_InBounds.f l0 a1 a2 1).bind fun t119 => (if t119 = true then (if 0 ≤ a1 then (if a1 < (l0.length : Int) then (if 0 ≤ a2 then (if a2 < ((rd_L5 l0 a1).length : Int) then (some (rd (rd_L5 l0 a1) a2, true)) else (none)) else (none)) else (none)) else (none)) else (some (0, false)))
set_option maxHeartbeats 8000000 in
set_option maxRecDepth 100000 in
theorem arena_Word.calls (A0 : Option Addr) (c0 : Nat) (l0 : List (List Int)) (a1 : Int) (a2 : Int) (r1 : Int) (r2 : Bool) (w : World) (hr0 : Kd.C (Kd.slice 23 (Kd.int .u64)) w A0 l0.length l0) (hc0 : l0.length ≤ c0) (h : arena_Word.f l0 a1 a2 = some (r1, r2)) :
    Calls Tryd.prog 32 #[.slice A0 l0.length c0, .int .i64 a1, .int .i64 a2] w fun e w' => e = .returned (.tuple #[.int .u64 r1, .bool r2]) ∧ Drawn0 w w' := by
  have HR0 := Aside0.mk hr0
  have HC0 := Aside0.mk hc0
  clear hr0 hc0
  have H : ((arena_InBounds.f l0 a1 a2 1).bind fun t119 => (if t119 = true then (if 0 ≤ a1 then (if a1 < (l0.length : Int) then (if 0 ≤ a2 then (if a2 < ((rd_L5 l0 a1).length : Int) then (some (rd (rd_L5 l0 a1) a2, true)) else (none)) else (none)) else (none)) else (none)) else (some (0, false)))) = some (r1, r2) := h
  clear h
  replace H := Option.bind_eq_some_iff.mp H
  obtain ⟨t119, A40, H⟩ := H
  replace H : (if t119 = true then (if 0 ≤ a1 then (if a1 < (l0.length : Int) then (if 0 ≤ a2 then (if a2 < ((rd_L5 l0 a1).length : Int) then (some (rd (rd_L5 l0 a1) a2, true)) else (none)) else (none)) else (none)) else (none)) else (some (0, false))) = some (r1, r2) := H
  have A4 := Aside0.mk A40
  clear A40
  by_cases c5 : t119 = true
  · subst c5
    have H1 : (if 0 ≤ a1 then (if a1 < (l0.length : Int) then (if 0 ≤ a2 then (if a2 < ((rd_L5 l0 a1).length : Int) then (some (rd (rd_L5 l0 a1) a2, true)) else (none)) else (none)) else (none)) else (none)) = some (r1, r2) := by rw [if_pos rfl] at H; exact H
    clear H
    have H := H1
    clear H1
    by_cases c6 : 0 ≤ a1
    · rw [if_pos c6] at H
      have c6b0 : decide (0 ≤ a1) = true := decide_eq_true c6
      clear c6
      by_cases c7 : a1 < (l0.length : Int)
      · rw [if_pos c7] at H
        have c7b0 : decide (a1 < (l0.length : Int)) = true := decide_eq_true c7
        clear c7
        by_cases c8 : 0 ≤ a2
        · rw [if_pos c8] at H
          have c8b0 : decide (0 ≤ a2) = true := decide_eq_true c8
          clear c8
          by_cases c9 : a2 < ((rd_L5 l0 a1).length : Int)
          · rw [if_pos c9] at H
            have c9b0 : decide (a2 < ((rd_L5 l0 a1).length : Int)) = true := decide_eq_true c9
            clear c9
            simp only [Option.some.injEq, Prod.mk.injEq] at H
            obtain ⟨rfl, rfl⟩ := H
            go_enter Tryd.func32, Tryd.ntmps32
            go_wp2_with (first | ((with_reducible refine gate_callee (f := 46) rfl ?_); refine goesL_ (some 11) rfl rfl Tryd.func46 (by kernel_rfl) rfl #[.slice A0 l0.length c0, .int .i64 a1, .int .i64 a2, .int .i64 1] rfl (by (try simp only [List.map_toArray, List.map_cons, List.map_nil]); first | done | rfl | (simp only [List.length_drop, List.length_take]; rfl)) ?_; (with_reducible refine (arena_InBounds.calls _ _ l0 a1 a2 1 true _ ?side1 ?side2 A4.out).mono ?_); (case side1 => repeat (first | exact HR0.out | (with_reducible refine Kd.C_alloc ?_ _) | (with_reducible refine Kd.C_drewN ?_ _) | (with_reducible refine Kd.C_drew ?_))); (case side2 => exact HC0.out); rintro e w' ⟨rfl, ⟨nd, rfl⟩⟩; refine ⟨_, rfl, ?_⟩; have p120 : 0 ≤ (a1 : Int) := of_decide_eq_true (by first | (with_reducible assumption) | assumption); have q120 : a1 < (l0.length : Int) := of_decide_eq_true (by first | (with_reducible assumption) | assumption); obtain ⟨ad120, A120_0, c120_0, e120, hx120_0, hl120_0, hi120_0⟩ := at_L5 HR0.out a1 p120 q120; cases e120; have HR120_0 := Aside0.mk hi120_0; have HC120_0 := Aside0.mk hl120_0; clear hi120_0 hl120_0; replace p120 := eq_true p120; replace q120 := eq_true q120; have p121 : 0 ≤ (a2 : Int) := of_decide_eq_true (by first | (with_reducible assumption) | assumption); have q121 : a2 < ((rd_L5 l0 a1).length : Int) := of_decide_eq_true (by first | (with_reducible assumption) | assumption); obtain ⟨ad121, e121, hx121_0⟩ := Kd.at_int HR120_0.out a2 p121 q121; cases e121; replace p121 := eq_true p121; replace q121 := eq_true q121))
            go_ret2
            exact ⟨by first | rfl | (simp; done) | (simp [*]; done), by repeat (first | exact Drawn0.refl _ | apply Drawn0.step)⟩
          · rw [if_neg c9] at H
            exact absurd H (by simp)
        · rw [if_neg c8] at H
          exact absurd H (by simp)
      · rw [if_neg c7] at H
        exact absurd H (by simp)
    · rw [if_neg c6] at H
      exact absurd H (by simp)
  · replace c5 := Bool.eq_false_iff.mpr c5
    subst c5
    have H1 : (some (0, false)) = some (r1, r2) := by rw [if_neg (show ¬ (false = true) by decide)] at H; exact H
    clear H
    have H := H1
    clear H1
    simp only [Option.some.injEq, Prod.mk.injEq] at H
    obtain ⟨rfl, rfl⟩ := H
    go_enter Tryd.func32, Tryd.ntmps32
    go_wp2_with (first | ((with_reducible refine gate_callee (f := 46) rfl ?_); refine goesL_ (some 11) rfl rfl Tryd.func46 (by kernel_rfl) rfl #[.slice A0 l0.length c0, .int .i64 a1, .int .i64 a2, .int .i64 1] rfl (by (try simp only [List.map_toArray, List.map_cons, List.map_nil]); first | done | rfl | (simp only [List.length_drop, List.length_take]; rfl)) ?_; (with_reducible refine (arena_InBounds.calls _ _ l0 a1 a2 1 false _ ?side1 ?side2 A4.out).mono ?_); (case side1 => repeat (first | exact HR0.out | (with_reducible refine Kd.C_alloc ?_ _) | (with_reducible refine Kd.C_drewN ?_ _) | (with_reducible refine Kd.C_drew ?_))); (case side2 => exact HC0.out); rintro e w' ⟨rfl, ⟨nd, rfl⟩⟩; refine ⟨_, rfl, ?_⟩))
    go_ret2
    exact ⟨by first | rfl | (simp; done) | (simp [*]; done), by repeat (first | exact Drawn0.refl _ | apply Drawn0.step)⟩

end Go.Proofs.YtcjhejopcghgnaaDoor.P

namespace Go.Proofs.YtcjhejopcghgnaaDoor.P
open Go.RowKit Go.Proofs.YtcjhejopcghgnaaDoorW.PrintWords Go.Proofs.YtcjhejopcghgnaaDoorW.PrintLast Go.Proofs.YtcjhejopcghgnaaDoorW.PrintMore
attribute [local go_sem] max2_int min2_int max_two min_two max_three min_three max_four min_four   -- for this text's walks alone
set_option linter.unusedVariables false
set_option linter.unusedSimpArgs false

variable {gb : Bool}
/-! ### far_Landing: function 18 -/
def far_Landing.f (a0 : Int) : Option (Int × Int) := (pointer_Decode.f a0).bind fun bt122 => (some (wrap64 (bt122.2.2.2.2.2.2.2.2.1), bt122.2.2.2.2.2.2.2.1))
set_option maxHeartbeats 8000000 in
set_option maxRecDepth 100000 in
theorem far_Landing.calls (a0 : Int) (r1 : Int) (r2 : Int) (w : World) (hG : Glob gb w) (h : far_Landing.f a0 = some (r1, r2)) :
    Calls Tryd.prog 18 #[.int .u64 a0] w fun e w' => e = .returned (.tuple #[.int .i64 r1, .int .i64 r2]) ∧ Below w.heap.size w w' := by
  have hu39 := Tryd.underlying39
  have HG := Aside0.mk hG
  clear hG
  have HB := Aside0.mk (Below.refl w.heap.size w)
  have H : ((pointer_Decode.f a0).bind fun bt122 => (some (wrap64 (bt122.2.2.2.2.2.2.2.2.1), bt122.2.2.2.2.2.2.2.1))) = some (r1, r2) := h
  clear h
  replace H := Option.bind_eq_some_iff.mp H
  obtain ⟨⟨t122, t123, t124, t125, t126, t127, t128, t129, t130, t131⟩, A20, H⟩ := H
  replace H : (some (wrap64 (t130), t129)) = some (r1, r2) := H
  have A2 := Aside0.mk A20
  clear A20
  simp only [Option.some.injEq, Prod.mk.injEq] at H
  obtain ⟨rfl, rfl⟩ := H
  go_enter Tryd.func18, Tryd.ntmps18
  go_wp2_with (first | (go_at_call 34; (with_reducible refine (pointer_Decode.calls (gb := gb) a0 t122 t123 t124 t125 t126 t127 t128 t129 t130 t131 _ ?side1 A2.out).mono ?_); (case side1 => exact Glob.below HG.out (by repeat (first | (with_reducible first | exact HB.out | apply below_alloc | apply pw_below_drewN | apply below_drew1) | exact HB.out))); rintro e w3 ⟨rfl, hb⟩; have n0_ := Aside0.mk (below_step (by repeat (first | (with_reducible first | exact HB.out | apply below_alloc | apply pw_below_drewN | apply below_drew1) | exact HB.out)) hb); clear HB; have HB := n0_; clear n0_; (try clear hb); (try clear hb2); (try clear hk); (try clear hi)) | ((with_reducible refine gate_dst (N := 4) rfl ?_); refine box_event ?hg (N := 4) ?hd (cs := #[.int .i64 0, .int .i64 0, .int .i64 0, .int .i64 0, .int .i64 0, .int .i64 0, .bool false, .int .i64 0, .int .u32 0, .int .u32 0]) (t := 39) ?hr ?_; (case hd => rfl); (case hg => rfl); (case hr => first | (go_simp; done) | (go_simp; rfl)); intro gb132 hg w4 hbox hb; have n0_ := Aside0.mk (below_step (by repeat (first | (with_reducible first | exact HB.out | apply below_alloc | apply pw_below_drewN | apply below_drew1) | exact HB.out)) hb); have n1_ := Aside0.mk (hbox); have n2_ := Aside0.mk ((by rw [hg]; exact (below_size (by repeat (first | (with_reducible first | exact HB.out | apply below_alloc | apply pw_below_drewN | apply below_drew1) | exact HB.out))) : w.heap.size ≤ gb132)); have n3_ := Aside0.mk ((by rw [hg]; exact (below_size (by repeat (first | (with_reducible first | exact HB.out | apply below_alloc | apply pw_below_drewN | apply below_drew1) | exact HB.out))) : w.heap.size ≤ gb132)); clear HB; have HB := n0_; have BK132 := n1_; have GW132 := n2_; have GE132 := n3_; clear n0_ n1_ n2_ n3_; clear hb hbox hg; have hcz5_0 : w4.cell? ⟨gb132, 0, none⟩ = some (.int .i64 0) := (blk_cell BK132.out 0).trans rfl; have hcz5_1 : w4.cell? ⟨gb132, 1, none⟩ = some (.int .i64 0) := (blk_cell BK132.out 1).trans rfl; have hcz5_2 : w4.cell? ⟨gb132, 2, none⟩ = some (.int .i64 0) := (blk_cell BK132.out 2).trans rfl; have hcz5_3 : w4.cell? ⟨gb132, 3, none⟩ = some (.int .i64 0) := (blk_cell BK132.out 3).trans rfl; have hcz5_4 : w4.cell? ⟨gb132, 4, none⟩ = some (.int .i64 0) := (blk_cell BK132.out 4).trans rfl; have hcz5_5 : w4.cell? ⟨gb132, 5, none⟩ = some (.int .i64 0) := (blk_cell BK132.out 5).trans rfl; have hcz5_6 : w4.cell? ⟨gb132, 6, none⟩ = some (.bool false) := (blk_cell BK132.out 6).trans rfl; have hcz5_7 : w4.cell? ⟨gb132, 7, none⟩ = some (.int .i64 0) := (blk_cell BK132.out 7).trans rfl; have hcz5_8 : w4.cell? ⟨gb132, 8, none⟩ = some (.int .u32 0) := (blk_cell BK132.out 8).trans rfl; have hcz5_9 : w4.cell? ⟨gb132, 9, none⟩ = some (.int .u32 0) := (blk_cell BK132.out 9).trans rfl; have hfz5_0 := blk_frozen BK132.out 0; have hfz5_1 := blk_frozen BK132.out 1; have hfz5_2 := blk_frozen BK132.out 2; have hfz5_3 := blk_frozen BK132.out 3; have hfz5_4 := blk_frozen BK132.out 4; have hfz5_5 := blk_frozen BK132.out 5; have hfz5_6 := blk_frozen BK132.out 6; have hfz5_7 := blk_frozen BK132.out 7; have hfz5_8 := blk_frozen BK132.out 8; have hfz5_9 := blk_frozen BK132.out 9))
  repeat (go_quiet (first | (go_at_call 34; (with_reducible refine (pointer_Decode.calls (gb := gb) a0 t122 t123 t124 t125 t126 t127 t128 t129 t130 t131 _ ?side1 A2.out).mono ?_); (case side1 => exact Glob.below HG.out (by repeat (first | (with_reducible first | exact HB.out | apply below_alloc | apply pw_below_drewN | apply below_drew1) | exact HB.out))); rintro e w3 ⟨rfl, hb⟩; have n0_ := Aside0.mk (below_step (by repeat (first | (with_reducible first | exact HB.out | apply below_alloc | apply pw_below_drewN | apply below_drew1) | exact HB.out)) hb); clear HB; have HB := n0_; clear n0_; (try clear hb); (try clear hb2); (try clear hk); (try clear hi)) | ((with_reducible refine gate_dst (N := 4) rfl ?_); refine box_event ?hg (N := 4) ?hd (cs := #[.int .i64 0, .int .i64 0, .int .i64 0, .int .i64 0, .int .i64 0, .int .i64 0, .bool false, .int .i64 0, .int .u32 0, .int .u32 0]) (t := 39) ?hr ?_; (case hd => rfl); (case hg => rfl); (case hr => first | (go_simp; done) | (go_simp; rfl)); intro gb132 hg w4 hbox hb; have n0_ := Aside0.mk (below_step (by repeat (first | (with_reducible first | exact HB.out | apply below_alloc | apply pw_below_drewN | apply below_drew1) | exact HB.out)) hb); have n1_ := Aside0.mk (hbox); have n2_ := Aside0.mk ((by rw [hg]; exact (below_size (by repeat (first | (with_reducible first | exact HB.out | apply below_alloc | apply pw_below_drewN | apply below_drew1) | exact HB.out))) : w.heap.size ≤ gb132)); have n3_ := Aside0.mk ((by rw [hg]; exact (below_size (by repeat (first | (with_reducible first | exact HB.out | apply below_alloc | apply pw_below_drewN | apply below_drew1) | exact HB.out))) : w.heap.size ≤ gb132)); clear HB; have HB := n0_; have BK132 := n1_; have GW132 := n2_; have GE132 := n3_; clear n0_ n1_ n2_ n3_; clear hb hbox hg; have hcz5_0 : w4.cell? ⟨gb132, 0, none⟩ = some (.int .i64 0) := (blk_cell BK132.out 0).trans rfl; have hcz5_1 : w4.cell? ⟨gb132, 1, none⟩ = some (.int .i64 0) := (blk_cell BK132.out 1).trans rfl; have hcz5_2 : w4.cell? ⟨gb132, 2, none⟩ = some (.int .i64 0) := (blk_cell BK132.out 2).trans rfl; have hcz5_3 : w4.cell? ⟨gb132, 3, none⟩ = some (.int .i64 0) := (blk_cell BK132.out 3).trans rfl; have hcz5_4 : w4.cell? ⟨gb132, 4, none⟩ = some (.int .i64 0) := (blk_cell BK132.out 4).trans rfl; have hcz5_5 : w4.cell? ⟨gb132, 5, none⟩ = some (.int .i64 0) := (blk_cell BK132.out 5).trans rfl; have hcz5_6 : w4.cell? ⟨gb132, 6, none⟩ = some (.bool false) := (blk_cell BK132.out 6).trans rfl; have hcz5_7 : w4.cell? ⟨gb132, 7, none⟩ = some (.int .i64 0) := (blk_cell BK132.out 7).trans rfl; have hcz5_8 : w4.cell? ⟨gb132, 8, none⟩ = some (.int .u32 0) := (blk_cell BK132.out 8).trans rfl; have hcz5_9 : w4.cell? ⟨gb132, 9, none⟩ = some (.int .u32 0) := (blk_cell BK132.out 9).trans rfl; have hfz5_0 := blk_frozen BK132.out 0; have hfz5_1 := blk_frozen BK132.out 1; have hfz5_2 := blk_frozen BK132.out 2; have hfz5_3 := blk_frozen BK132.out 3; have hfz5_4 := blk_frozen BK132.out 4; have hfz5_5 := blk_frozen BK132.out 5; have hfz5_6 := blk_frozen BK132.out 6; have hfz5_7 := blk_frozen BK132.out 7; have hfz5_8 := blk_frozen BK132.out 8; have hfz5_9 := blk_frozen BK132.out 9)); try go_wp2_with (first | (go_at_call 34; (with_reducible refine (pointer_Decode.calls (gb := gb) a0 t122 t123 t124 t125 t126 t127 t128 t129 t130 t131 _ ?side1 A2.out).mono ?_); (case side1 => exact Glob.below HG.out (by repeat (first | (with_reducible first | exact HB.out | apply below_alloc | apply pw_below_drewN | apply below_drew1) | exact HB.out))); rintro e w3 ⟨rfl, hb⟩; have n0_ := Aside0.mk (below_step (by repeat (first | (with_reducible first | exact HB.out | apply below_alloc | apply pw_below_drewN | apply below_drew1) | exact HB.out)) hb); clear HB; have HB := n0_; clear n0_; (try clear hb); (try clear hb2); (try clear hk); (try clear hi)) | ((with_reducible refine gate_dst (N := 4) rfl ?_); refine box_event ?hg (N := 4) ?hd (cs := #[.int .i64 0, .int .i64 0, .int .i64 0, .int .i64 0, .int .i64 0, .int .i64 0, .bool false, .int .i64 0, .int .u32 0, .int .u32 0]) (t := 39) ?hr ?_; (case hd => rfl); (case hg => rfl); (case hr => first | (go_simp; done) | (go_simp; rfl)); intro gb132 hg w4 hbox hb; have n0_ := Aside0.mk (below_step (by repeat (first | (with_reducible first | exact HB.out | apply below_alloc | apply pw_below_drewN | apply below_drew1) | exact HB.out)) hb); have n1_ := Aside0.mk (hbox); have n2_ := Aside0.mk ((by rw [hg]; exact (below_size (by repeat (first | (with_reducible first | exact HB.out | apply below_alloc | apply pw_below_drewN | apply below_drew1) | exact HB.out))) : w.heap.size ≤ gb132)); have n3_ := Aside0.mk ((by rw [hg]; exact (below_size (by repeat (first | (with_reducible first | exact HB.out | apply below_alloc | apply pw_below_drewN | apply below_drew1) | exact HB.out))) : w.heap.size ≤ gb132)); clear HB; have HB := n0_; have BK132 := n1_; have GW132 := n2_; have GE132 := n3_; clear n0_ n1_ n2_ n3_; clear hb hbox hg; have hcz5_0 : w4.cell? ⟨gb132, 0, none⟩ = some (.int .i64 0) := (blk_cell BK132.out 0).trans rfl; have hcz5_1 : w4.cell? ⟨gb132, 1, none⟩ = some (.int .i64 0) := (blk_cell BK132.out 1).trans rfl; have hcz5_2 : w4.cell? ⟨gb132, 2, none⟩ = some (.int .i64 0) := (blk_cell BK132.out 2).trans rfl; have hcz5_3 : w4.cell? ⟨gb132, 3, none⟩ = some (.int .i64 0) := (blk_cell BK132.out 3).trans rfl; have hcz5_4 : w4.cell? ⟨gb132, 4, none⟩ = some (.int .i64 0) := (blk_cell BK132.out 4).trans rfl; have hcz5_5 : w4.cell? ⟨gb132, 5, none⟩ = some (.int .i64 0) := (blk_cell BK132.out 5).trans rfl; have hcz5_6 : w4.cell? ⟨gb132, 6, none⟩ = some (.bool false) := (blk_cell BK132.out 6).trans rfl; have hcz5_7 : w4.cell? ⟨gb132, 7, none⟩ = some (.int .i64 0) := (blk_cell BK132.out 7).trans rfl; have hcz5_8 : w4.cell? ⟨gb132, 8, none⟩ = some (.int .u32 0) := (blk_cell BK132.out 8).trans rfl; have hcz5_9 : w4.cell? ⟨gb132, 9, none⟩ = some (.int .u32 0) := (blk_cell BK132.out 9).trans rfl; have hfz5_0 := blk_frozen BK132.out 0; have hfz5_1 := blk_frozen BK132.out 1; have hfz5_2 := blk_frozen BK132.out 2; have hfz5_3 := blk_frozen BK132.out 3; have hfz5_4 := blk_frozen BK132.out 4; have hfz5_5 := blk_frozen BK132.out 5; have hfz5_6 := blk_frozen BK132.out 6; have hfz5_7 := blk_frozen BK132.out 7; have hfz5_8 := blk_frozen BK132.out 8; have hfz5_9 := blk_frozen BK132.out 9)))
  go_ret2
  exact ⟨by first | rfl | (simp [errW_none, errW_some] <;> rfl) | (simp [*, errW_none, errW_some] <;> rfl), by repeat (first | (with_reducible first | exact HB.out | apply below_alloc | apply pw_below_drewN | apply below_drew1 | refine below_set ?_ GE132.out) | exact HB.out)⟩

end Go.Proofs.YtcjhejopcghgnaaDoor.P

namespace Go.Proofs.YtcjhejopcghgnaaDoor.P
open Go.RowKit Go.Proofs.YtcjhejopcghgnaaDoorW.PrintWords Go.Proofs.YtcjhejopcghgnaaDoorW.PrintLast Go.Proofs.YtcjhejopcghgnaaDoorW.PrintMore
attribute [local go_sem] max2_int min2_int max_two min_two max_three min_three max_four min_four   -- for this text's walks alone
set_option linter.unusedVariables false
set_option linter.unusedSimpArgs false

variable {gb : Bool}
/-! ### far_single: function 33 -/
def far_single.f (l0 : List (List Int)) (a1 : Int) : Option (Int × Int × Int × Int) := (far_Landing.f a1).bind fun bt134 => ((arena_Word.f l0 bt134.1 bt134.2).bind fun bt136 => (if bt136.2 = true then ((far_IsFar.f bt136.1).bind fun t138 => (if t138 = true then (some (0, 0, 0, 3)) else (some (bt136.1, bt134.1, wrap64 (bt134.2 + 1), 0)))) else (some (0, 0, 0, 2))))
set_option maxHeartbeats 8000000 in
set_option maxRecDepth 100000 in
theorem far_single.calls (A0 : Option Addr) (c0 : Nat) (l0 : List (List Int)) (a1 : Int) (r1 : Int) (r2 : Int) (r3 : Int) (r4 : Int) (w : World) (hG : Glob gb w) (hr0 : Kd.C (Kd.slice 23 (Kd.int .u64)) w A0 l0.length l0) (hc0 : l0.length ≤ c0) (h : far_single.f l0 a1 = some (r1, r2, r3, r4)) :
    Calls Tryd.prog 33 #[.slice A0 l0.length c0, .int .u64 a1] w fun e w' => e = .returned (.tuple #[.agg #[.int .u64 r1, .int .i64 r2, .int .i64 r3], .int .i64 r4]) ∧ Below w.heap.size w w' := by
  have hu60 := Tryd.underlying60
  have HG := Aside0.mk hG
  clear hG
  have HR0 := Aside0.mk hr0
  have HC0 := Aside0.mk hc0
  clear hr0 hc0
  have HB := Aside0.mk (Below.refl w.heap.size w)
  have H : ((far_Landing.f a1).bind fun bt134 => ((arena_Word.f l0 bt134.1 bt134.2).bind fun bt136 => (if bt136.2 = true then ((far_IsFar.f bt136.1).bind fun t138 => (if t138 = true then (some (0, 0, 0, 3)) else (some (bt136.1, bt134.1, wrap64 (bt134.2 + 1), 0)))) else (some (0, 0, 0, 2))))) = some (r1, r2, r3, r4) := h
  clear h
  replace H := Option.bind_eq_some_iff.mp H
  obtain ⟨⟨t134, t135⟩, A30, H⟩ := H
  replace H : ((arena_Word.f l0 t134 t135).bind fun bt136 => (if bt136.2 = true then ((far_IsFar.f bt136.1).bind fun t138 => (if t138 = true then (some (0, 0, 0, 3)) else (some (bt136.1, t134, wrap64 (t135 + 1), 0)))) else (some (0, 0, 0, 2)))) = some (r1, r2, r3, r4) := H
  have A3 := Aside0.mk A30
  clear A30
  replace H := Option.bind_eq_some_iff.mp H
  obtain ⟨⟨t136, t137⟩, A40, H⟩ := H
  replace H : (if t137 = true then ((far_IsFar.f t136).bind fun t138 => (if t138 = true then (some (0, 0, 0, 3)) else (some (t136, t134, wrap64 (t135 + 1), 0)))) else (some (0, 0, 0, 2))) = some (r1, r2, r3, r4) := H
  have A4 := Aside0.mk A40
  clear A40
  by_cases c5 : t137 = true
  · subst c5
    have H1 : ((far_IsFar.f t136).bind fun t138 => (if t138 = true then (some (0, 0, 0, 3)) else (some (t136, t134, wrap64 (t135 + 1), 0)))) = some (r1, r2, r3, r4) := by rw [if_pos rfl] at H; exact H
    clear H
    have H := H1
    clear H1
    replace H := Option.bind_eq_some_iff.mp H
    obtain ⟨t138, A60, H⟩ := H
    replace H : (if t138 = true then (some (0, 0, 0, 3)) else (some (t136, t134, wrap64 (t135 + 1), 0))) = some (r1, r2, r3, r4) := H
    have A6 := Aside0.mk A60
    clear A60
    by_cases c7 : t138 = true
    · subst c7
      have H1 : (some (0, 0, 0, 3)) = some (r1, r2, r3, r4) := by rw [if_pos rfl] at H; exact H
      clear H
      have H := H1
      clear H1
      simp only [Option.some.injEq, Prod.mk.injEq] at H
      obtain ⟨rfl, rfl, rfl, rfl⟩ := H
      go_enter Tryd.func33, Tryd.ntmps33
      go_wp2_with (first | ((with_reducible refine gate_dst (N := 4) rfl ?_); refine box_event ?hg (N := 4) ?hd (cs := #[.int .u64 0, .int .i64 0, .int .i64 0]) (t := 60) ?hr ?_; (case hd => rfl); (case hg => rfl); (case hr => first | (go_simp; done) | (go_simp; rfl)); intro gb133 hg w8 hbox hb; have n0_ := Aside0.mk (below_step (by repeat (first | (with_reducible first | exact HB.out | apply below_alloc | apply pw_below_drewN | apply below_drew1) | exact HB.out)) hb); have n1_ := Aside0.mk (hbox); have n2_ := Aside0.mk ((by rw [hg]; exact (below_size (by repeat (first | (with_reducible first | exact HB.out | apply below_alloc | apply pw_below_drewN | apply below_drew1) | exact HB.out))) : w.heap.size ≤ gb133)); have n3_ := Aside0.mk ((by rw [hg]; exact (below_size (by repeat (first | (with_reducible first | exact HB.out | apply below_alloc | apply pw_below_drewN | apply below_drew1) | exact HB.out))) : w.heap.size ≤ gb133)); clear HB; have HB := n0_; have BK133 := n1_; have GW133 := n2_; have GE133 := n3_; clear n0_ n1_ n2_ n3_; clear hb hbox hg) | ((with_reducible refine gate_callee (f := 18) rfl ?_); refine goesL_ (some 12) rfl rfl Tryd.func18 (by kernel_rfl) rfl #[.int .u64 a1] rfl (by (try simp only [List.map_toArray, List.map_cons, List.map_nil]); first | done | rfl | (simp only [List.length_drop, List.length_take]; rfl)) ?_; (with_reducible refine (far_Landing.calls (gb := gb) a1 t134 t135 _ ?side1 A3.out).mono ?_); (case side1 => exact Glob.below HG.out (by repeat (first | (with_reducible first | exact HB.out | apply below_alloc | apply pw_below_drewN | apply below_drew1 | refine below_set ?_ GE133.out) | exact HB.out))); rintro e w9 ⟨rfl, hb⟩; refine ⟨_, rfl, ?_⟩; have n0_ := Aside0.mk (blk_below (g := gb133) (o := .cells #[.int .u64 0, .int .i64 0, .int .i64 0] 60 (0, 0)) (by (with_reducible repeat (first | refine blk_drewN ?_ _ | refine blk_drew ?_ | refine blk_alloc ?_ _)); exact BK133.out) hb); have n1_ := Aside0.mk (below_step (by repeat (first | (with_reducible first | exact HB.out | apply below_alloc | apply pw_below_drewN | apply below_drew1 | refine below_set ?_ GE133.out) | exact HB.out)) hb); clear BK133; clear HB; have BK133 := n0_; have HB := n1_; clear n0_ n1_; (try clear hb); (try clear hb2); (try clear hk); (try clear hi)) | ((with_reducible refine gate_callee (f := 32) rfl ?_); refine goesL_ (some 19) rfl rfl Tryd.func32 (by kernel_rfl) rfl #[.slice A0 l0.length c0, .int .i64 t134, .int .i64 t135] rfl (by (try simp only [List.map_toArray, List.map_cons, List.map_nil]); first | done | rfl | (simp only [List.length_drop, List.length_take]; rfl)) ?_; (with_reducible refine (arena_Word.calls _ _ l0 t134 t135 t136 true _ ?side1 ?side2 A4.out).mono ?_); (case side1 => repeat (first | exact (Kd.C_below HR0.out HB.out) | (with_reducible refine Kd.C_alloc ?_ _) | (with_reducible refine Kd.C_drewN ?_ _) | (with_reducible refine Kd.C_drew ?_))); (case side2 => exact HC0.out); rintro e w' ⟨rfl, ⟨nd, rfl⟩⟩; refine ⟨_, rfl, ?_⟩; (try (rw [drewN_self w9]; generalize hq_ : World.drewN w9 _ = w9; have n0_ : Aside0 (w9.heap[gb133]? = some (.cells #[.int .u64 0, .int .i64 0, .int .i64 0] 60 (0, 0))) := ⟨by rw [← hq_]; exact (by (with_reducible repeat (first | refine blk_drewN ?_ _ | refine blk_drew ?_ | refine blk_alloc ?_ _)); exact BK133.out)⟩; have n1_ : Aside0 (Below w.heap.size w w9) := ⟨by rw [← hq_]; exact (by repeat (first | (with_reducible first | exact HB.out | apply below_alloc | apply pw_below_drewN | apply below_drew1 | refine below_set ?_ GE133.out) | exact HB.out))⟩; clear BK133 HB hq_; have BK133 := n0_; have HB := n1_; clear n0_ n1_))) | ((with_reducible refine gate_callee (f := 16) rfl ?_); refine goesL_ (some 28) rfl rfl Tryd.func16 (by kernel_rfl) rfl #[.int .u64 t136] rfl (by (try simp only [List.map_toArray, List.map_cons, List.map_nil]); first | done | rfl | (simp only [List.length_drop, List.length_take]; rfl)) ?_; (with_reducible refine (far_IsFar.calls (gb := gb) t136 true _ ?side1 A6.out).mono ?_); (case side1 => exact Glob.below HG.out (by repeat (first | (with_reducible first | exact HB.out | apply below_alloc | apply pw_below_drewN | apply below_drew1 | refine below_set ?_ GE133.out) | exact HB.out))); rintro e w10 ⟨rfl, hb⟩; refine ⟨_, rfl, ?_⟩; have n0_ := Aside0.mk (blk_below (g := gb133) (o := .cells #[.int .u64 0, .int .i64 0, .int .i64 0] 60 (0, 0)) (by (with_reducible repeat (first | refine blk_drewN ?_ _ | refine blk_drew ?_ | refine blk_alloc ?_ _)); exact BK133.out) hb); have n1_ := Aside0.mk (below_step (by repeat (first | (with_reducible first | exact HB.out | apply below_alloc | apply pw_below_drewN | apply below_drew1 | refine below_set ?_ GE133.out) | exact HB.out)) hb); clear BK133; clear HB; have BK133 := n0_; have HB := n1_; clear n0_ n1_; (try clear hb); (try clear hb2); (try clear hk); (try clear hi); have hcz11_0 : w10.cell? ⟨gb133, 0, none⟩ = some (.int .u64 0) := (blk_cell BK133.out 0).trans rfl; have hcz11_1 : w10.cell? ⟨gb133, 1, none⟩ = some (.int .i64 0) := (blk_cell BK133.out 1).trans rfl; have hcz11_2 : w10.cell? ⟨gb133, 2, none⟩ = some (.int .i64 0) := (blk_cell BK133.out 2).trans rfl; have hfz11_0 := blk_frozen BK133.out 0; have hfz11_1 := blk_frozen BK133.out 1; have hfz11_2 := blk_frozen BK133.out 2))
      refine bodyPost_ret (results_ct rfl _ _ gb133 60 #[.int .u64 0, .int .i64 0, .int .i64 0] (0, 0) _ rfl (by (with_reducible repeat (first | refine blk_drewN ?_ _ | refine blk_drew ?_ | refine blk_alloc ?_ _)); refine blk_put (cs := #[.int .u64 0, .int .i64 0, .int .i64 0]) ?_ 2 _ rfl; (with_reducible repeat (first | refine blk_drewN ?_ _ | refine blk_drew ?_ | refine blk_alloc ?_ _)); refine blk_put (cs := #[.int .u64 0, .int .i64 0, .int .i64 0]) ?_ 1 _ rfl; (with_reducible repeat (first | refine blk_drewN ?_ _ | refine blk_drew ?_ | refine blk_alloc ?_ _)); refine blk_put (cs := #[.int .u64 0, .int .i64 0, .int .i64 0]) ?_ 0 _ rfl; (with_reducible repeat (first | refine blk_drewN ?_ _ | refine blk_drew ?_ | refine blk_alloc ?_ _)); exact BK133.out) Tryd.underlying60 rfl (by kernel_rfl)) rfl ?_
      exact ⟨by first | rfl | (simp [errW_none, errW_some] <;> rfl) | (simp [*, errW_none, errW_some] <;> rfl), by repeat (first | (with_reducible first | exact HB.out | apply below_alloc | apply pw_below_drewN | apply below_drew1 | refine below_set ?_ GE133.out) | exact HB.out)⟩
    · replace c7 := Bool.eq_false_iff.mpr c7
      subst c7
      have H1 : (some (t136, t134, wrap64 (t135 + 1), 0)) = some (r1, r2, r3, r4) := by rw [if_neg (show ¬ (false = true) by decide)] at H; exact H
      clear H
      have H := H1
      clear H1
      simp only [Option.some.injEq, Prod.mk.injEq] at H
      obtain ⟨rfl, rfl, rfl, rfl⟩ := H
      go_enter Tryd.func33, Tryd.ntmps33
      go_wp2_with (first | ((with_reducible refine gate_dst (N := 4) rfl ?_); refine box_event ?hg (N := 4) ?hd (cs := #[.int .u64 0, .int .i64 0, .int .i64 0]) (t := 60) ?hr ?_; (case hd => rfl); (case hg => rfl); (case hr => first | (go_simp; done) | (go_simp; rfl)); intro gb133 hg w12 hbox hb; have n0_ := Aside0.mk (below_step (by repeat (first | (with_reducible first | exact HB.out | apply below_alloc | apply pw_below_drewN | apply below_drew1) | exact HB.out)) hb); have n1_ := Aside0.mk (hbox); have n2_ := Aside0.mk ((by rw [hg]; exact (below_size (by repeat (first | (with_reducible first | exact HB.out | apply below_alloc | apply pw_below_drewN | apply below_drew1) | exact HB.out))) : w.heap.size ≤ gb133)); have n3_ := Aside0.mk ((by rw [hg]; exact (below_size (by repeat (first | (with_reducible first | exact HB.out | apply below_alloc | apply pw_below_drewN | apply below_drew1) | exact HB.out))) : w.heap.size ≤ gb133)); clear HB; have HB := n0_; have BK133 := n1_; have GW133 := n2_; have GE133 := n3_; clear n0_ n1_ n2_ n3_; clear hb hbox hg) | ((with_reducible refine gate_callee (f := 18) rfl ?_); refine goesL_ (some 12) rfl rfl Tryd.func18 (by kernel_rfl) rfl #[.int .u64 a1] rfl (by (try simp only [List.map_toArray, List.map_cons, List.map_nil]); first | done | rfl | (simp only [List.length_drop, List.length_take]; rfl)) ?_; (with_reducible refine (far_Landing.calls (gb := gb) a1 t134 t135 _ ?side1 A3.out).mono ?_); (case side1 => exact Glob.below HG.out (by repeat (first | (with_reducible first | exact HB.out | apply below_alloc | apply pw_below_drewN | apply below_drew1 | refine below_set ?_ GE133.out) | exact HB.out))); rintro e w13 ⟨rfl, hb⟩; refine ⟨_, rfl, ?_⟩; have n0_ := Aside0.mk (blk_below (g := gb133) (o := .cells #[.int .u64 0, .int .i64 0, .int .i64 0] 60 (0, 0)) (by (with_reducible repeat (first | refine blk_drewN ?_ _ | refine blk_drew ?_ | refine blk_alloc ?_ _)); exact BK133.out) hb); have n1_ := Aside0.mk (below_step (by repeat (first | (with_reducible first | exact HB.out | apply below_alloc | apply pw_below_drewN | apply below_drew1 | refine below_set ?_ GE133.out) | exact HB.out)) hb); clear BK133; clear HB; have BK133 := n0_; have HB := n1_; clear n0_ n1_; (try clear hb); (try clear hb2); (try clear hk); (try clear hi)) | ((with_reducible refine gate_callee (f := 32) rfl ?_); refine goesL_ (some 19) rfl rfl Tryd.func32 (by kernel_rfl) rfl #[.slice A0 l0.length c0, .int .i64 t134, .int .i64 t135] rfl (by (try simp only [List.map_toArray, List.map_cons, List.map_nil]); first | done | rfl | (simp only [List.length_drop, List.length_take]; rfl)) ?_; (with_reducible refine (arena_Word.calls _ _ l0 t134 t135 t136 true _ ?side1 ?side2 A4.out).mono ?_); (case side1 => repeat (first | exact (Kd.C_below HR0.out HB.out) | (with_reducible refine Kd.C_alloc ?_ _) | (with_reducible refine Kd.C_drewN ?_ _) | (with_reducible refine Kd.C_drew ?_))); (case side2 => exact HC0.out); rintro e w' ⟨rfl, ⟨nd, rfl⟩⟩; refine ⟨_, rfl, ?_⟩; (try (rw [drewN_self w13]; generalize hq_ : World.drewN w13 _ = w13; have n0_ : Aside0 (w13.heap[gb133]? = some (.cells #[.int .u64 0, .int .i64 0, .int .i64 0] 60 (0, 0))) := ⟨by rw [← hq_]; exact (by (with_reducible repeat (first | refine blk_drewN ?_ _ | refine blk_drew ?_ | refine blk_alloc ?_ _)); exact BK133.out)⟩; have n1_ : Aside0 (Below w.heap.size w w13) := ⟨by rw [← hq_]; exact (by repeat (first | (with_reducible first | exact HB.out | apply below_alloc | apply pw_below_drewN | apply below_drew1 | refine below_set ?_ GE133.out) | exact HB.out))⟩; clear BK133 HB hq_; have BK133 := n0_; have HB := n1_; clear n0_ n1_))) | ((with_reducible refine gate_callee (f := 16) rfl ?_); refine goesL_ (some 28) rfl rfl Tryd.func16 (by kernel_rfl) rfl #[.int .u64 t136] rfl (by (try simp only [List.map_toArray, List.map_cons, List.map_nil]); first | done | rfl | (simp only [List.length_drop, List.length_take]; rfl)) ?_; (with_reducible refine (far_IsFar.calls (gb := gb) t136 false _ ?side1 A6.out).mono ?_); (case side1 => exact Glob.below HG.out (by repeat (first | (with_reducible first | exact HB.out | apply below_alloc | apply pw_below_drewN | apply below_drew1 | refine below_set ?_ GE133.out) | exact HB.out))); rintro e w14 ⟨rfl, hb⟩; refine ⟨_, rfl, ?_⟩; have n0_ := Aside0.mk (blk_below (g := gb133) (o := .cells #[.int .u64 0, .int .i64 0, .int .i64 0] 60 (0, 0)) (by (with_reducible repeat (first | refine blk_drewN ?_ _ | refine blk_drew ?_ | refine blk_alloc ?_ _)); exact BK133.out) hb); have n1_ := Aside0.mk (below_step (by repeat (first | (with_reducible first | exact HB.out | apply below_alloc | apply pw_below_drewN | apply below_drew1 | refine below_set ?_ GE133.out) | exact HB.out)) hb); clear BK133; clear HB; have BK133 := n0_; have HB := n1_; clear n0_ n1_; (try clear hb); (try clear hb2); (try clear hk); (try clear hi); have hcz15_0 : w14.cell? ⟨gb133, 0, none⟩ = some (.int .u64 0) := (blk_cell BK133.out 0).trans rfl; have hcz15_1 : w14.cell? ⟨gb133, 1, none⟩ = some (.int .i64 0) := (blk_cell BK133.out 1).trans rfl; have hcz15_2 : w14.cell? ⟨gb133, 2, none⟩ = some (.int .i64 0) := (blk_cell BK133.out 2).trans rfl; have hfz15_0 := blk_frozen BK133.out 0; have hfz15_1 := blk_frozen BK133.out 1; have hfz15_2 := blk_frozen BK133.out 2))
      refine bodyPost_ret (results_ct rfl _ _ gb133 60 #[.int .u64 t136, .int .i64 t134, .int .i64 (wrap64 (t135 + 1))] (0, 0) _ rfl (by (with_reducible repeat (first | refine blk_drewN ?_ _ | refine blk_drew ?_ | refine blk_alloc ?_ _)); refine blk_put (cs := #[.int .u64 t136, .int .i64 t134, .int .i64 0]) ?_ 2 _ rfl; (with_reducible repeat (first | refine blk_drewN ?_ _ | refine blk_drew ?_ | refine blk_alloc ?_ _)); refine blk_put (cs := #[.int .u64 t136, .int .i64 0, .int .i64 0]) ?_ 1 _ rfl; (with_reducible repeat (first | refine blk_drewN ?_ _ | refine blk_drew ?_ | refine blk_alloc ?_ _)); refine blk_put (cs := #[.int .u64 0, .int .i64 0, .int .i64 0]) ?_ 0 _ rfl; (with_reducible repeat (first | refine blk_drewN ?_ _ | refine blk_drew ?_ | refine blk_alloc ?_ _)); exact BK133.out) Tryd.underlying60 rfl (by kernel_rfl)) rfl ?_
      exact ⟨by first | rfl | (simp [errW_none, errW_some] <;> rfl) | (simp [*, errW_none, errW_some] <;> rfl), by repeat (first | (with_reducible first | exact HB.out | apply below_alloc | apply pw_below_drewN | apply below_drew1 | refine below_set ?_ GE133.out) | exact HB.out)⟩
  · replace c5 := Bool.eq_false_iff.mpr c5
    subst c5
    have H1 : (some (0, 0, 0, 2)) = some (r1, r2, r3, r4) := by rw [if_neg (show ¬ (false = true) by decide)] at H; exact H
    clear H
    have H := H1
    clear H1
    simp only [Option.some.injEq, Prod.mk.injEq] at H
    obtain ⟨rfl, rfl, rfl, rfl⟩ := H
    go_enter Tryd.func33, Tryd.ntmps33
    go_wp2_with (first | ((with_reducible refine gate_dst (N := 4) rfl ?_); refine box_event ?hg (N := 4) ?hd (cs := #[.int .u64 0, .int .i64 0, .int .i64 0]) (t := 60) ?hr ?_; (case hd => rfl); (case hg => rfl); (case hr => first | (go_simp; done) | (go_simp; rfl)); intro gb133 hg w16 hbox hb; have n0_ := Aside0.mk (below_step (by repeat (first | (with_reducible first | exact HB.out | apply below_alloc | apply pw_below_drewN | apply below_drew1) | exact HB.out)) hb); have n1_ := Aside0.mk (hbox); have n2_ := Aside0.mk ((by rw [hg]; exact (below_size (by repeat (first | (with_reducible first | exact HB.out | apply below_alloc | apply pw_below_drewN | apply below_drew1) | exact HB.out))) : w.heap.size ≤ gb133)); have n3_ := Aside0.mk ((by rw [hg]; exact (below_size (by repeat (first | (with_reducible first | exact HB.out | apply below_alloc | apply pw_below_drewN | apply below_drew1) | exact HB.out))) : w.heap.size ≤ gb133)); clear HB; have HB := n0_; have BK133 := n1_; have GW133 := n2_; have GE133 := n3_; clear n0_ n1_ n2_ n3_; clear hb hbox hg) | ((with_reducible refine gate_callee (f := 18) rfl ?_); refine goesL_ (some 12) rfl rfl Tryd.func18 (by kernel_rfl) rfl #[.int .u64 a1] rfl (by (try simp only [List.map_toArray, List.map_cons, List.map_nil]); first | done | rfl | (simp only [List.length_drop, List.length_take]; rfl)) ?_; (with_reducible refine (far_Landing.calls (gb := gb) a1 t134 t135 _ ?side1 A3.out).mono ?_); (case side1 => exact Glob.below HG.out (by repeat (first | (with_reducible first | exact HB.out | apply below_alloc | apply pw_below_drewN | apply below_drew1 | refine below_set ?_ GE133.out) | exact HB.out))); rintro e w17 ⟨rfl, hb⟩; refine ⟨_, rfl, ?_⟩; have n0_ := Aside0.mk (blk_below (g := gb133) (o := .cells #[.int .u64 0, .int .i64 0, .int .i64 0] 60 (0, 0)) (by (with_reducible repeat (first | refine blk_drewN ?_ _ | refine blk_drew ?_ | refine blk_alloc ?_ _)); exact BK133.out) hb); have n1_ := Aside0.mk (below_step (by repeat (first | (with_reducible first | exact HB.out | apply below_alloc | apply pw_below_drewN | apply below_drew1 | refine below_set ?_ GE133.out) | exact HB.out)) hb); clear BK133; clear HB; have BK133 := n0_; have HB := n1_; clear n0_ n1_; (try clear hb); (try clear hb2); (try clear hk); (try clear hi)) | ((with_reducible refine gate_callee (f := 32) rfl ?_); refine goesL_ (some 19) rfl rfl Tryd.func32 (by kernel_rfl) rfl #[.slice A0 l0.length c0, .int .i64 t134, .int .i64 t135] rfl (by (try simp only [List.map_toArray, List.map_cons, List.map_nil]); first | done | rfl | (simp only [List.length_drop, List.length_take]; rfl)) ?_; (with_reducible refine (arena_Word.calls _ _ l0 t134 t135 t136 false _ ?side1 ?side2 A4.out).mono ?_); (case side1 => repeat (first | exact (Kd.C_below HR0.out HB.out) | (with_reducible refine Kd.C_alloc ?_ _) | (with_reducible refine Kd.C_drewN ?_ _) | (with_reducible refine Kd.C_drew ?_))); (case side2 => exact HC0.out); rintro e w' ⟨rfl, ⟨nd, rfl⟩⟩; refine ⟨_, rfl, ?_⟩; (try (rw [drewN_self w17]; generalize hq_ : World.drewN w17 _ = w17; have n0_ : Aside0 (w17.heap[gb133]? = some (.cells #[.int .u64 0, .int .i64 0, .int .i64 0] 60 (0, 0))) := ⟨by rw [← hq_]; exact (by (with_reducible repeat (first | refine blk_drewN ?_ _ | refine blk_drew ?_ | refine blk_alloc ?_ _)); exact BK133.out)⟩; have n1_ : Aside0 (Below w.heap.size w w17) := ⟨by rw [← hq_]; exact (by repeat (first | (with_reducible first | exact HB.out | apply below_alloc | apply pw_below_drewN | apply below_drew1 | refine below_set ?_ GE133.out) | exact HB.out))⟩; clear BK133 HB hq_; have BK133 := n0_; have HB := n1_; clear n0_ n1_)); have hcz18_0 : w17.cell? ⟨gb133, 0, none⟩ = some (.int .u64 0) := (blk_cell BK133.out 0).trans rfl; have hcz18_1 : w17.cell? ⟨gb133, 1, none⟩ = some (.int .i64 0) := (blk_cell BK133.out 1).trans rfl; have hcz18_2 : w17.cell? ⟨gb133, 2, none⟩ = some (.int .i64 0) := (blk_cell BK133.out 2).trans rfl; have hfz18_0 := blk_frozen BK133.out 0; have hfz18_1 := blk_frozen BK133.out 1; have hfz18_2 := blk_frozen BK133.out 2))
    refine bodyPost_ret (results_ct rfl _ _ gb133 60 #[.int .u64 0, .int .i64 0, .int .i64 0] (0, 0) _ rfl (by (with_reducible repeat (first | refine blk_drewN ?_ _ | refine blk_drew ?_ | refine blk_alloc ?_ _)); refine blk_put (cs := #[.int .u64 0, .int .i64 0, .int .i64 0]) ?_ 2 _ rfl; (with_reducible repeat (first | refine blk_drewN ?_ _ | refine blk_drew ?_ | refine blk_alloc ?_ _)); refine blk_put (cs := #[.int .u64 0, .int .i64 0, .int .i64 0]) ?_ 1 _ rfl; (with_reducible repeat (first | refine blk_drewN ?_ _ | refine blk_drew ?_ | refine blk_alloc ?_ _)); refine blk_put (cs := #[.int .u64 0, .int .i64 0, .int .i64 0]) ?_ 0 _ rfl; (with_reducible repeat (first | refine blk_drewN ?_ _ | refine blk_drew ?_ | refine blk_alloc ?_ _)); exact BK133.out) Tryd.underlying60 rfl (by kernel_rfl)) rfl ?_
    exact ⟨by first | rfl | (simp [errW_none, errW_some] <;> rfl) | (simp [*, errW_none, errW_some] <;> rfl), by repeat (first | (with_reducible first | exact HB.out | apply below_alloc | apply pw_below_drewN | apply below_drew1 | refine below_set ?_ GE133.out) | exact HB.out)⟩

end Go.Proofs.YtcjhejopcghgnaaDoor.P

namespace Go.Proofs.YtcjhejopcghgnaaDoor.P
open Go.RowKit Go.Proofs.YtcjhejopcghgnaaDoorW.PrintWords Go.Proofs.YtcjhejopcghgnaaDoorW.PrintLast Go.Proofs.YtcjhejopcghgnaaDoorW.PrintMore
attribute [local go_sem] max2_int min2_int max_two min_two max_three min_three max_four min_four   -- for this text's walks alone
set_option linter.unusedVariables false
set_option linter.unusedSimpArgs false

variable {gb : Bool}
/-! ### arena_Slice: function 48 -/
def arena_Slice.f (l0 : List (List Int)) (a1 : Int) (a2 : Int) (a3 : Int) : Option (List Int × Bool) := (arena_InBounds.f l0 a1 a2 a3).bind fun t => if t = true then (if 0 ≤ a1 ∧ a1 < (l0.length : Int) ∧ 0 ≤ a2 ∧ 0 ≤ a3 ∧ a2 + a3 ≤ ((rd_L5 l0 a1).length : Int) ∧ a3 < 17592186044416 then some (((rd_L5 l0 a1).drop a2.toNat).take a3.toNat, true) else none) else some ([], false)
set_option maxHeartbeats 1600000 in
set_option maxRecDepth 100000 in
theorem arena_Slice.calls (A0 : Option Addr) (c0 : Nat) (l0 : List (List Int)) (a1 : Int) (a2 : Int) (a3 : Int) (r1 : List Int) (r2 : Bool) (w : World) (hr0 : Kd.C (Kd.slice 23 (Kd.int .u64)) w A0 l0.length l0) (hc0 : l0.length ≤ c0) (h : arena_Slice.f l0 a1 a2 a3 = some (r1, r2)) :
    Calls Tryd.prog 48 #[.slice A0 l0.length c0, .int .i64 a1, .int .i64 a2, .int .i64 a3] w fun e w' => ∃ v0_ : Value, e = .returned (.tuple #[v0_, .bool r2]) ∧ Kd.R (Kd.int .u64) 23 w' w.heap.size (fun _ => True) v0_ r1 ∧ Below w.heap.size w w' := by
  have HR0 := Aside0.mk hr0
  have HC0 := Aside0.mk hc0
  clear hr0 hc0
  unfold arena_Slice.f at h
  obtain ⟨t, ht, h⟩ := Option.bind_eq_some_iff.mp h
  have Ht := Aside0.mk ht
  clear ht
  cases t
  · simp only [Bool.false_eq_true, if_false, Option.some.injEq, Prod.mk.injEq] at h
    obtain ⟨rfl, rfl⟩ := h
    go_enter Tryd.func48, Tryd.ntmps48
    go_wp2_with fail
    refine (arena_InBounds.calls _ _ _ _ _ _ _ _ HR0.out HC0.out Ht.out).mono ?_
    rintro e w1 ⟨rfl, hd⟩
    have HB := Aside0.mk hd.below
    clear hd
    go_wp2
    go_ret2
    exact ⟨_, by first | rfl | (simp; done), Kd.R_nil _ _ _ _ _, HB.out⟩
  · rw [if_pos rfl] at h
    split at h
    · rename_i hc
      obtain ⟨h1, h2, h3, h4, h5, h6⟩ := hc
      simp only [Option.some.injEq, Prod.mk.injEq] at h
      obtain ⟨rfl, rfl⟩ := h
      obtain ⟨m, rfl⟩ := Int.eq_ofNat_of_zero_le h4
      obtain ⟨i, rfl⟩ := Int.eq_ofNat_of_zero_le h1
      obtain ⟨b, rfl⟩ := Int.eq_ofNat_of_zero_le h3
      obtain ⟨ad, A1, c1, rfl, hcell, hle, hC⟩ := at_L5 HR0.out i h1 h2
      have HC := Aside0.mk hC
      clear hC
      obtain ⟨io, hio, _, hsz, _⟩ := info_parts info23
      have hcut := cut_from (P := Tryd.prog) 40 23 .i64 Tryd.underlying40 hio 1 hsz A1 (rd_L5 l0 i).length c1 b (by omega) (by omega)
      have hD := Kd.C_drop (c := c1) HC.out (show b ≤ (rd_L5 l0 i).length by omega) hle
      have hm : m ≤ ((rd_L5 l0 i).drop b).length := by rw [List.length_drop]; omega
      rw [show ((b : Int).toNat * 1) = b * (Kd.int .u64).sz from rfl, Int.toNat_natCast] at hcut
      generalize hA2 : (if c1 = b then A1 else Option.map (fun x => x.add (b * (Kd.int IntKind.u64).sz)) A1) = A2 at hcut hD
      have hl : (rd_L5 l0 i).length - b = ((rd_L5 l0 i).drop b).length := List.length_drop.symm
      rw [hl] at hcut
      generalize hy : (rd_L5 l0 i).drop b = ys at hcut hD hm
      generalize hn : ys.length = n2 at hcut hD hm
      have HD := Aside0.mk hD
      have HM := Aside0.mk (show m < 17592186044416 ∧ m ≤ n2 by omega)
      have HY := Aside0.mk hy
      have HN := Aside0.mk hn
      clear hl hD hA2 hy hn hm
      clear h5 h6 h1 h3 h4 h
      go_enter Tryd.func48, Tryd.ntmps48
      go_wp2_with fail
      refine (arena_InBounds.calls _ _ _ _ _ _ _ _ HR0.out HC0.out Ht.out).mono ?_
      rintro e w1 ⟨rfl, hd⟩
      have HB := Aside0.mk hd.below
      have hs1 := HB.out.size
      clear hd
      go_wp2_with ((with_reducible refine gate_dst (N := 18) rfl ?_); refine Kd.R_make (Kd.int .u64) w.heap.size 23 rfl (N := 18) rfl 40 _ _ rfl m rfl rfl Tryd.underlying40 (.int .u64 0) 8 info23 rfl (by decide) (by omega) 0 (ok := fun _ => True) (okp := fun _ => False) rfl (fun _ hk => hk.elim) trivial (by omega) (by have := HM.out.1; omega) HB.out hs1 ?_)
      intro v1 w2 hR hB2 hg2 hb2 _ _
      have hs2 := hB2.size
      have hc2 := (hB2.cell (p := ad.add i) (by have := World.block_lt_of_cell? _ _ hcell; simpa using this)).trans hcell
      go_wp2_with ((with_reducible refine gate_dst (N := 26) rfl ?_); refine Kd.R_copy (P := Tryd.prog) (h1 := fun _ => rfl) 0 w.heap.size rfl (.tmp 19) (.tmp 25) 40 40 23 rfl Tryd.underlying40 (by kernel_rfl) _ _ _ _ _ _ (fun _ => True) rfl rfl hR (Kd.C_below HD.out hB2) hB2 hs2 ?_)
      intro w3 hR3 hB3 _
      have HR3 := Aside0.mk hR3
      have HB3 := Aside0.mk hB3
      clear hR3 hB3 hR hB2 hg2
      go_wp2
      go_ret2
      refine ⟨_, by first | rfl | (simp; done), ?_, HB3.out⟩
      have hr := HR3.out
      rw [show min n2 m = m by have := HM.out; omega, Nat.sub_self, List.replicate_zero, List.append_nil] at hr
      rw [show ((b : Nat) : Int).toNat = b from rfl, show ((m : Nat) : Int).toNat = m from rfl, HY.out]
      exact hr
    · exact absurd h (by simp)

end Go.Proofs.YtcjhejopcghgnaaDoor.P

namespace Go.Proofs.YtcjhejopcghgnaaDoor.P
open Go.RowKit Go.Proofs.YtcjhejopcghgnaaDoorW.PrintWords Go.Proofs.YtcjhejopcghgnaaDoorW.PrintLast Go.Proofs.YtcjhejopcghgnaaDoorW.PrintMore
attribute [local go_sem] max2_int min2_int max_two min_two max_three min_three max_four min_four   -- for this text's walks alone
set_option linter.unusedVariables false
set_option linter.unusedSimpArgs false

variable {gb : Bool}
/-! ### far_double: function 35 -/
def far_double.f (l0 : List (List Int)) (a1 : Int) : Option (Int × Int × Int × Int) := (far_Landing.f a1).bind fun bt140 => ((arena_Slice.f l0 bt140.1 bt140.2 2).bind fun bt142 => (if bt142.2 = true then (if 0 < (bt142.1.length : Int) then ((pointer_Decode.f (rd bt142.1 0)).bind fun bt147 => (if 1 < (bt142.1.length : Int) then ((pointer_Decode.f (rd bt142.1 1)).bind fun bt158 => (if bt147.1 = 2 then (if bt147.2.2.2.2.2.2.1 = true then (some (0, 0, 0, 3)) else (if bt158.1 > 1 then (some (0, 0, 0, 3)) else (if bt158.2.1 = 0 then (some (rd bt142.1 1, wrap64 (bt147.2.2.2.2.2.2.2.2.1), bt147.2.2.2.2.2.2.2.1, 0)) else (some (0, 0, 0, 3))))) else (some (0, 0, 0, 3)))) else (none))) else (none)) else (some (0, 0, 0, 2))))
def far_double.T5 : Bool × List (List Nat × List Nat) := (true, [([], []), ([0], [0]), ([1], [1]), ([2], [2]), ([], []), ([4], [4]), ([5], [5]), ([6, 3], [6]), ([], []), ([], []), ([8, 3, 7, 0, 1, 2, 3, 8, 9], [3, 8]), ([9, 7, 10, 0, 1, 2, 3, 4, 5, 6, 7, 8, 9, 10], [7, 9])])
def far_double.B5 : List Nat := [0, 1, 3, 7, 0, 16, 48, 127, 0, 0, 1023, 2047]
theorem far_double.tab5 : rtab .any (opsOf Tryd.f35 5) = far_double.T5 := by kernel_rfl
theorem far_double.bits5 : waitsOk far_double.T5.2 far_double.B5 = true := by kernel_rfl
def far_double.T8 : Bool × List (List Nat × List Nat) := (true, [([], []), ([0], [0]), ([1], [1]), ([], []), ([3], [3]), ([4], [4]), ([], []), ([6], [6]), ([2, 5, 7], [2, 5, 7]), ([8, 0, 1, 2, 3, 4, 5, 6, 7, 8], [8]), ([9, 0, 1, 2, 3, 4, 5, 6, 7, 8, 9], [])])
def far_double.B8 : List Nat := [0, 1, 3, 0, 8, 24, 0, 64, 255, 511, 1023]
theorem far_double.tab8 : rtab .any (opsOf Tryd.f35 8) = far_double.T8 := by kernel_rfl
theorem far_double.bits8 : waitsOk far_double.T8.2 far_double.B8 = true := by kernel_rfl
set_option maxHeartbeats 8000000 in
set_option maxRecDepth 100000 in
theorem far_double.calls (A0 : Option Addr) (c0 : Nat) (l0 : List (List Int)) (a1 : Int) (r1 : Int) (r2 : Int) (r3 : Int) (r4 : Int) (w : World) (hG : Glob gb w) (hr0 : Kd.C (Kd.slice 23 (Kd.int .u64)) w A0 l0.length l0) (hc0 : l0.length ≤ c0) (h : far_double.f l0 a1 = some (r1, r2, r3, r4)) :
    Calls Tryd.prog 35 #[.slice A0 l0.length c0, .int .u64 a1] w fun e w' => e = .returned (.tuple #[.agg #[.int .u64 r1, .int .i64 r2, .int .i64 r3], .int .i64 r4]) ∧ Below w.heap.size w w' := by
  have hu60 := Tryd.underlying60
  have hu39 := Tryd.underlying39
  have HG := Aside0.mk hG
  clear hG
  have HR0 := Aside0.mk hr0
  have HC0 := Aside0.mk hc0
  clear hr0 hc0
  have HB := Aside0.mk (Below.refl w.heap.size w)
  have H : ((far_Landing.f a1).bind fun bt140 => ((arena_Slice.f l0 bt140.1 bt140.2 2).bind fun bt142 => (if bt142.2 = true then (if 0 < (bt142.1.length : Int) then ((pointer_Decode.f (rd bt142.1 0)).bind fun bt147 => (if 1 < (bt142.1.length : Int) then ((pointer_Decode.f (rd bt142.1 1)).bind fun bt158 => (if bt147.1 = 2 then (if bt147.2.2.2.2.2.2.1 = true then (some (0, 0, 0, 3)) else (if bt158.1 > 1 then (some (0, 0, 0, 3)) else (if bt158.2.1 = 0 then (some (rd bt142.1 1, wrap64 (bt147.2.2.2.2.2.2.2.2.1), bt147.2.2.2.2.2.2.2.1, 0)) else (some (0, 0, 0, 3))))) else (some (0, 0, 0, 3)))) else (none))) else (none)) else (some (0, 0, 0, 2))))) = some (r1, r2, r3, r4) := h
  clear h
  replace H := Option.bind_eq_some_iff.mp H
  obtain ⟨⟨t140, t141⟩, A30, H⟩ := H
  replace H : ((arena_Slice.f l0 t140 t141 2).bind fun bt142 => (if bt142.2 = true then (if 0 < (bt142.1.length : Int) then ((pointer_Decode.f (rd bt142.1 0)).bind fun bt147 => (if 1 < (bt142.1.length : Int) then ((pointer_Decode.f (rd bt142.1 1)).bind fun bt158 => (if bt147.1 = 2 then (if bt147.2.2.2.2.2.2.1 = true then (some (0, 0, 0, 3)) else (if bt158.1 > 1 then (some (0, 0, 0, 3)) else (if bt158.2.1 = 0 then (some (rd bt142.1 1, wrap64 (bt147.2.2.2.2.2.2.2.2.1), bt147.2.2.2.2.2.2.2.1, 0)) else (some (0, 0, 0, 3))))) else (some (0, 0, 0, 3)))) else (none))) else (none)) else (some (0, 0, 0, 2)))) = some (r1, r2, r3, r4) := H
  have A3 := Aside0.mk A30
  clear A30
  replace H := Option.bind_eq_some_iff.mp H
  obtain ⟨⟨t142, t143⟩, A40, H⟩ := H
  replace H : (if t143 = true then (if 0 < (t142.length : Int) then ((pointer_Decode.f (rd t142 0)).bind fun bt147 => (if 1 < (t142.length : Int) then ((pointer_Decode.f (rd t142 1)).bind fun bt158 => (if bt147.1 = 2 then (if bt147.2.2.2.2.2.2.1 = true then (some (0, 0, 0, 3)) else (if bt158.1 > 1 then (some (0, 0, 0, 3)) else (if bt158.2.1 = 0 then (some (rd t142 1, wrap64 (bt147.2.2.2.2.2.2.2.2.1), bt147.2.2.2.2.2.2.2.1, 0)) else (some (0, 0, 0, 3))))) else (some (0, 0, 0, 3)))) else (none))) else (none)) else (some (0, 0, 0, 2))) = some (r1, r2, r3, r4) := H
  have A4 := Aside0.mk A40
  clear A40
  by_cases c5 : t143 = true
  · subst c5
    have H1 : (if 0 < (t142.length : Int) then ((pointer_Decode.f (rd t142 0)).bind fun bt147 => (if 1 < (t142.length : Int) then ((pointer_Decode.f (rd t142 1)).bind fun bt158 => (if bt147.1 = 2 then (if bt147.2.2.2.2.2.2.1 = true then (some (0, 0, 0, 3)) else (if bt158.1 > 1 then (some (0, 0, 0, 3)) else (if bt158.2.1 = 0 then (some (rd t142 1, wrap64 (bt147.2.2.2.2.2.2.2.2.1), bt147.2.2.2.2.2.2.2.1, 0)) else (some (0, 0, 0, 3))))) else (some (0, 0, 0, 3)))) else (none))) else (none)) = some (r1, r2, r3, r4) := by rw [if_pos rfl] at H; exact H
    clear H
    have H := H1
    clear H1
    by_cases c6 : 0 < (t142.length : Int)
    · rw [if_pos c6] at H
      have c6b0 : decide (0 < (t142.length : Int)) = true := decide_eq_true c6
      have c6b1 : decide (0 < t142.length) = true := decide_eq_true (by omega)
      clear c6
      replace H := Option.bind_eq_some_iff.mp H
      obtain ⟨⟨t147, t148, t149, t150, t151, t152, t153, t154, t155, t156⟩, A70, H⟩ := H
      replace H : (if 1 < (t142.length : Int) then ((pointer_Decode.f (rd t142 1)).bind fun bt158 => (if t147 = 2 then (if t153 = true then (some (0, 0, 0, 3)) else (if bt158.1 > 1 then (some (0, 0, 0, 3)) else (if bt158.2.1 = 0 then (some (rd t142 1, wrap64 (t155), t154, 0)) else (some (0, 0, 0, 3))))) else (some (0, 0, 0, 3)))) else (none)) = some (r1, r2, r3, r4) := H
      have A7 := Aside0.mk A70
      clear A70
      by_cases c8 : 1 < (t142.length : Int)
      · rw [if_pos c8] at H
        have c8b0 : decide (1 < (t142.length : Int)) = true := decide_eq_true c8
        have c8b1 : decide (1 < t142.length) = true := decide_eq_true (by omega)
        clear c8
        replace H := Option.bind_eq_some_iff.mp H
        obtain ⟨⟨t158, t159, t160, t161, t162, t163, t164, t165, t166, t167⟩, A90, H⟩ := H
        replace H : (if t147 = 2 then (if t153 = true then (some (0, 0, 0, 3)) else (if t158 > 1 then (some (0, 0, 0, 3)) else (if t159 = 0 then (some (rd t142 1, wrap64 (t155), t154, 0)) else (some (0, 0, 0, 3))))) else (some (0, 0, 0, 3))) = some (r1, r2, r3, r4) := H
        have A9 := Aside0.mk A90
        clear A90
        have HAH := Aside0.mk H
        clear H
        go_enter Tryd.func35, Tryd.ntmps35
        try go_wp2_with (first | ((with_reducible refine gate_dst (N := 4) rfl ?_); refine box_event ?hg (N := 4) ?hd (cs := #[.int .u64 0, .int .i64 0, .int .i64 0]) (t := 60) ?hr ?_; (case hd => rfl); (case hg => rfl); (case hr => first | (go_simp; done) | (go_simp; rfl)); intro gb139 hg w160 hbox hb; have n0_ := Aside0.mk (below_step (by repeat (first | (with_reducible first | exact HB.out | apply below_alloc | apply pw_below_drewN | apply below_drew1) | exact HB.out)) hb); have n1_ := Aside0.mk (hbox); have n2_ := Aside0.mk ((by rw [hg]; exact (below_size (by repeat (first | (with_reducible first | exact HB.out | apply below_alloc | apply pw_below_drewN | apply below_drew1) | exact HB.out))) : w.heap.size ≤ gb139)); have n3_ := Aside0.mk ((by rw [hg]; exact (below_size (by repeat (first | (with_reducible first | exact HB.out | apply below_alloc | apply pw_below_drewN | apply below_drew1) | exact HB.out))) : w.heap.size ≤ gb139)); clear HB; have HB := n0_; have BK139 := n1_; have GW139 := n2_; have GE139 := n3_; clear n0_ n1_ n2_ n3_; clear hb hbox hg) | ((with_reducible refine gate_callee (f := 18) rfl ?_); refine goesL_ (some 14) rfl rfl Tryd.func18 (by kernel_rfl) rfl #[.int .u64 a1] rfl (by (try simp only [List.map_toArray, List.map_cons, List.map_nil]); first | done | rfl | (simp only [List.length_drop, List.length_take]; rfl)) ?_; (with_reducible refine (far_Landing.calls (gb := gb) a1 t140 t141 _ ?side1 A3.out).mono ?_); (case side1 => exact Glob.below HG.out (by repeat (first | (with_reducible first | exact HB.out | apply below_alloc | apply pw_below_drewN | apply below_drew1 | refine below_set ?_ GE139.out) | exact HB.out))); rintro e w161 ⟨rfl, hb⟩; refine ⟨_, rfl, ?_⟩; have n0_ := Aside0.mk (blk_below (g := gb139) (o := .cells #[.int .u64 0, .int .i64 0, .int .i64 0] 60 (0, 0)) (by (with_reducible repeat (first | refine blk_drewN ?_ _ | refine blk_drew ?_ | refine blk_alloc ?_ _)); exact BK139.out) hb); have n1_ := Aside0.mk (below_step (by repeat (first | (with_reducible first | exact HB.out | apply below_alloc | apply pw_below_drewN | apply below_drew1 | refine below_set ?_ GE139.out) | exact HB.out)) hb); clear BK139; clear HB; have BK139 := n0_; have HB := n1_; clear n0_ n1_; (try clear hb); (try clear hb2); (try clear hk); (try clear hi)) | ((with_reducible refine gate_callee (f := 48) rfl ?_); refine goesL_ (some 21) rfl rfl Tryd.func48 (by kernel_rfl) rfl #[.slice A0 l0.length c0, .int .i64 t140, .int .i64 t141, .int .i64 2] rfl (by (try simp only [List.map_toArray, List.map_cons, List.map_nil]); first | done | rfl | (simp only [List.length_drop, List.length_take]; rfl)) ?_; (with_reducible refine (arena_Slice.calls _ _ l0 t140 t141 2 t142 true _ ?side1 ?side2 A4.out).mono ?_); (case side1 => repeat (first | exact (Kd.C_below HR0.out HB.out) | (with_reducible refine Kd.C_alloc ?_ _) | (with_reducible refine Kd.C_drewN ?_ _) | (with_reducible refine Kd.C_drew ?_))); (case side2 => exact HC0.out); rintro e w162 ⟨v144, rfl, ho0, hb⟩; refine ⟨_, rfl, ?_⟩; have n0_ := Aside0.mk (Kd.R_lower ho0 (below_size (by repeat (first | (with_reducible first | exact HB.out | apply below_alloc | apply pw_below_drewN | apply below_drew1 | refine below_set ?_ GE139.out) | exact HB.out)))); have n1_ := Aside0.mk (blk_below (g := gb139) (o := .cells #[.int .u64 0, .int .i64 0, .int .i64 0] 60 (0, 0)) (by (with_reducible repeat (first | refine blk_drewN ?_ _ | refine blk_drew ?_ | refine blk_alloc ?_ _)); exact BK139.out) hb); have n2_ := Aside0.mk (below_step (by repeat (first | (with_reducible first | exact HB.out | apply below_alloc | apply pw_below_drewN | apply below_drew1 | refine below_set ?_ GE139.out) | exact HB.out)) hb); clear BK139; clear HB; have HO145 := n0_; have BK139 := n1_; have HB := n2_; clear n0_ n1_ n2_; (try clear hb); (try clear hb2); (try clear hk); (try clear hi); (try clear ho0)))
        have n0_ := Aside0.mk (Kd.R_drew HO145.out)
        have n1_ := Aside0.mk (blk_drew BK139.out)
        have n2_ := Aside0.mk (below_drew1 HB.out)
        clear HO145
        clear BK139
        clear HB
        have HO145 := n0_
        have BK139 := n1_
        have HB := n2_
        clear n0_ n1_ n2_
        obtain ⟨Ao164, co164, eo164⟩ := Kd.R_slice HO145.out
        (first | subst eo164 | (injection eo164 with f1_ f2_ f3_; have f4_ := f1_.symm; have f5_ := f3_.symm; clear f1_ f2_ f3_; subst f4_; subst f5_))
        have p146 : 0 ≤ (0 : Int) := (by omega)
        have q146 : 0 < (t142.length : Int) := of_decide_eq_true (by first | (with_reducible assumption) | assumption)
        obtain ⟨ad146, e146, hx146_0⟩ := Kd.at_int (Kd.R_reads' HO145.out).2.2 0 p146 q146
        cases e146
        have qi146 : (0 < t142.length) = True := eq_true (by omega)
        (try rw [show ((0 : Int)).toNat = 0 from rfl] at hx146_0)
        (try rw [Addr.add_zero'] at hx146_0)
        replace p146 := eq_true p146
        replace q146 := eq_true q146
        have p157 : 0 ≤ (1 : Int) := (by omega)
        have q157 : 1 < (t142.length : Int) := of_decide_eq_true (by first | (with_reducible assumption) | assumption)
        obtain ⟨ad157, e157, hx157_0⟩ := Kd.at_int (Kd.R_reads' HO145.out).2.2 1 p157 q157
        obtain rfl : ad146 = ad157 := (by injection e157)
        (try simp only [show (1 : Int).toNat = 1 from rfl, Nat.reduceMul, Nat.reduceEqDiff, Go.Addr.add, ↓reduceIte] at hx157_0)
        have qi157 : (1 < t142.length) = True := eq_true (by omega)
        (try rw [show ((1 : Int)).toNat = 1 from rfl] at hx157_0)
        replace p157 := eq_true p157
        replace q157 := eq_true q157
        refine start_ (n := 12) (S := fun w' => True) (ds := []) #[false, false, false, false, false, false, false, false, false, false, false, false] (by kernel_rfl) rfl rfl trivial (fun hHeld => ?_); refine with_tabW far_double.tab5 far_double.bits5 (fun HT_ HW_ => ?_)
        generalize w162.drew = w163 at HO145 BK139 HB hx146_0 hx157_0 hHeld ⊢
        refine pure_ (i := 0) (N := some 27) (v := ?_) (a' := ?_) #[true, false, false, false, false, false, false, false, false, false, false, false] rfl rfl (any_of HT_.out (by kernel_rfl)) (fun _ _ _ h => h) (Or.inl ⟨by rfl, ?_⟩) ?_ ?_
        rotate_left
        · intro w'
          go_simp
          with_reducible rfl
        rotate_left
        · simp only [Act.put, List.setIfInBounds_toArray, List.set_cons_zero, List.set_cons_succ, i64_w, i32_w]
          rfl
        refine pure_ (i := 4) (N := some 31) (v := ?_) (a' := ?_) #[true, false, false, false, true, false, false, false, false, false, false, false] rfl rfl (any_of HT_.out (by kernel_rfl)) (fun _ _ _ h => h) (Or.inl ⟨by rfl, ?_⟩) ?_ ?_
        rotate_left
        · intro w'
          go_simp
          with_reducible rfl
        rotate_left
        · simp only [Act.put, List.setIfInBounds_toArray, List.set_cons_zero, List.set_cons_succ, i64_w, i32_w]
          rfl
        refine inv_at [1, 2, 3, 5, 6, 7, 8, 9, 10, 11] (fun a0_ b a w' => ∃ (gb168 : Nat) (gb169 : Nat) (m8_ : Value) (m9_ : Value), a = putSel a0_ b [(1, 28, .pointer (some ad146)), (2, 29, .int .u64 (rd t142 0)), (3, 30, .agg #[.int .i64 t147, .int .i64 t148, .int .i64 t149, .int .i64 t150, .int .i64 t151, .int .i64 t152, .bool t153, .int .i64 t154, .int .u32 t155, .int .u32 t156]), (5, 32, .pointer (some (ad146.add 1))), (6, 33, .int .u64 (rd t142 1)), (7, 34, .agg #[.int .i64 t158, .int .i64 t159, .int .i64 t160, .int .i64 t161, .int .i64 t162, .int .i64 t163, .bool t164, .int .i64 t165, .int .u32 t166, .int .u32 t167]), (8, 10, m8_), (9, 11, m9_)] ∧ (Kd.R (Kd.int .u64) 23 w' w.heap.size (fun _ => True) (.slice (some ad146) t142.length co164) t142) ∧ (w'.heap[gb139]? = some (.cells #[.int .u64 0, .int .i64 0, .int .i64 0] 60 (0, 0))) ∧ (Below w.heap.size w w') ∧ (b 8 = true → b 9 = true → gb169 ≠ gb168) ∧ (b 8 = true → b 9 = true → gb168 ≠ gb169) ∧ (b 8 = true → b 10 = false → w'.heap[gb168]? = some (.cells #[.int .i64 0, .int .i64 0, .int .i64 0, .int .i64 0, .int .i64 0, .int .i64 0, .bool false, .int .i64 0, .int .u32 0, .int .u32 0] 39 (0, 0))) ∧ (b 8 = true → w.heap.size ≤ gb168) ∧ (b 8 = true → w.heap.size ≤ gb168) ∧ (b 8 = true → gb139 ≠ gb168) ∧ (b 8 = true → gb168 ≠ gb139) ∧ (b 9 = true → b 11 = false → w'.heap[gb169]? = some (.cells #[.int .i64 0, .int .i64 0, .int .i64 0, .int .i64 0, .int .i64 0, .int .i64 0, .bool false, .int .i64 0, .int .u32 0, .int .u32 0] 39 (0, 0))) ∧ (b 9 = true → w.heap.size ≤ gb169) ∧ (b 9 = true → w.heap.size ≤ gb169) ∧ (b 9 = true → gb139 ≠ gb169) ∧ (b 9 = true → gb169 ≠ gb139) ∧ (b 10 = true → w'.heap[gb168]? = some (.cells #[.int .i64 t147, .int .i64 t148, .int .i64 t149, .int .i64 t150, .int .i64 t151, .int .i64 t152, .bool t153, .int .i64 t154, .int .u32 t155, .int .u32 t156] 39 (0, 0))) ∧ (b 11 = true → w'.heap[gb169]? = some (.cells #[.int .i64 t158, .int .i64 t159, .int .i64 t160, .int .i64 t161, .int .i64 t162, .int .i64 t163, .bool t164, .int .i64 t165, .int .u32 t166, .int .u32 t167] 39 (0, 0))) ∧ (b 8 = true → (m8_ : Value) = .pointer (some ⟨gb168, 0, none⟩)) ∧ (b 9 = true → (m9_ : Value) = .pointer (some ⟨gb169, 0, none⟩))) HT_.out HW_.out (by kernel_rfl) (by kernel_rfl) ?_ ?_ ?_
        · exact ⟨0, 0, .bool false, .bool false, by simp only [putSel, Bool.false_eq_true, if_false], HO145.out, BK139.out, HB.out, fun h_ => absurd h_ (by decide), fun h_ => absurd h_ (by decide), fun h_ => absurd h_ (by decide), fun h_ => absurd h_ (by decide), fun h_ => absurd h_ (by decide), fun h_ => absurd h_ (by decide), fun h_ => absurd h_ (by decide), fun h_ => absurd h_ (by decide), fun h_ => absurd h_ (by decide), fun h_ => absurd h_ (by decide), fun h_ => absurd h_ (by decide), fun h_ => absurd h_ (by decide), fun h_ => absurd h_ (by decide), fun h_ => absurd h_ (by decide), fun h_ => absurd h_ (by decide), fun h_ => absurd h_ (by decide)⟩
        · skip
          clear BK139 HB HO145
          refine steps_cons ?_ ?_
          · rintro b a w' ⟨gb168, gb169, m8_, m9_, ha, Q_HO145, Q_BK139, Q_HB, Q_NB169_168, Q_NB168_169, Q_BK168, Q_GW168, Q_GE168, Q_NB139_168, Q_NB168_139, Q_BK169, Q_GW169, Q_GE169, Q_NB139_169, Q_NB169_139, Q_BK168_e10, Q_BK169_e11, Q_X8_, Q_X9_⟩ hb_ hon hoff
            refine ⟨_, rfl, fun K hK => ?_⟩
            have e27 : a.tmps[27]? = some (.slice (some ad146) t142.length co164) := by rw [ha]; exact (putSel_off rfl).trans rfl
            replace ha := Aside0.mk ha
            have HO145 := Aside0.mk Q_HO145
            have BK139 := Aside0.mk Q_BK139
            have HB := Aside0.mk Q_HB
            refine value_ (w1 := w') (v := .pointer (some ad146)) (by rfl) rfl ?_ ?_
            · go_simp
              (try simp only [i64_w])
              try rfl
            refine hK.out _ _ ⟨gb168, gb169, m8_, m9_, (by rw [ha.out]; exact putSel_upk 0 hb_ rfl rfl rfl), Q_HO145, Q_BK139, Q_HB, Q_NB169_168, Q_NB168_169, Q_BK168, Q_GW168, Q_GE168, Q_NB139_168, Q_NB168_139, Q_BK169, Q_GW169, Q_GE169, Q_NB139_169, Q_NB169_139, fun h0_ => absurd ((hoff 10 (by kernel_rfl)).symm.trans h0_) (by decide), fun h0_ => absurd ((hoff 11 (by kernel_rfl)).symm.trans h0_) (by decide), Q_X8_, Q_X9_⟩
          refine steps_cons ?_ ?_
          · rintro b a w' ⟨gb168, gb169, m8_, m9_, ha, Q_HO145, Q_BK139, Q_HB, Q_NB169_168, Q_NB168_169, Q_BK168, Q_GW168, Q_GE168, Q_NB139_168, Q_NB168_139, Q_BK169, Q_GW169, Q_GE169, Q_NB139_169, Q_NB169_139, Q_BK168_e10, Q_BK169_e11, Q_X8_, Q_X9_⟩ hb_ hon hoff
            refine ⟨_, rfl, fun K hK => ?_⟩
            have e28 : a.tmps[28]? = some (.pointer (some ad146)) := by rw [ha]; exact putSel_on (e := (1, 28, .pointer (some ad146))) 0 rfl rfl (hon 1 (by kernel_rfl)) rfl
            replace ha := Aside0.mk ha
            have HO145 := Aside0.mk Q_HO145
            have BK139 := Aside0.mk Q_BK139
            have HB := Aside0.mk Q_HB
            obtain ⟨ad146_z, e146_z, hx146_0_z⟩ := Kd.at_int (Kd.R_reads' HO145.out).2.2 0 (of_eq_true p146) (of_eq_true q146)
            cases e146_z
            have hs0_ : w'.cell? ad146 = some (.int .u64 (rd t142 0)) := (by first | exact hx146_0_z | (have h_ := hx146_0_z; (try simp only [Int.reduceToNat, Nat.zero_mul, Nat.reduceMul, Nat.reduceEqDiff, Go.Addr.add, ↓reduceIte, Addr.add_zero'] at h_); exact h_))
            refine value_ (w1 := w') (v := .int .u64 (rd t142 0)) (by rfl) rfl ?_ ?_
            · go_simp
              (try simp only [i64_w])
              try rfl
            refine hK.out _ _ ⟨gb168, gb169, m8_, m9_, (by rw [ha.out]; exact putSel_upk 1 hb_ rfl rfl rfl), Q_HO145, Q_BK139, Q_HB, Q_NB169_168, Q_NB168_169, Q_BK168, Q_GW168, Q_GE168, Q_NB139_168, Q_NB168_139, Q_BK169, Q_GW169, Q_GE169, Q_NB139_169, Q_NB169_139, fun h0_ => absurd ((hoff 10 (by kernel_rfl)).symm.trans h0_) (by decide), fun h0_ => absurd ((hoff 11 (by kernel_rfl)).symm.trans h0_) (by decide), Q_X8_, Q_X9_⟩
          refine steps_cons ?_ ?_
          · rintro b a w' ⟨gb168, gb169, m8_, m9_, ha, Q_HO145, Q_BK139, Q_HB, Q_NB169_168, Q_NB168_169, Q_BK168, Q_GW168, Q_GE168, Q_NB139_168, Q_NB168_139, Q_BK169, Q_GW169, Q_GE169, Q_NB139_169, Q_NB169_139, Q_BK168_e10, Q_BK169_e11, Q_X8_, Q_X9_⟩ hb_ hon hoff
            refine ⟨_, rfl, fun K hK => ?_⟩
            have e29 : a.tmps[29]? = some (.int .u64 (rd t142 0)) := by rw [ha]; exact putSel_on (e := (2, 29, .int .u64 (rd t142 0))) 1 rfl rfl (hon 2 (by kernel_rfl)) rfl
            replace ha := Aside0.mk ha
            have HO145 := Aside0.mk Q_HO145
            have BK139 := Aside0.mk Q_BK139
            have HB := Aside0.mk Q_HB
            refine goes_ Tryd.func34 (by kernel_rfl) rfl #[.int .u64 (rd t142 0)] (by rfl) rfl rfl (by first | (simp only [List.map_toArray, List.map_cons, List.map_nil, Act.eval, Array.getD_eq_getD_getElem?, Option.getD_some, e29]; done) | (simp only [List.map_toArray, List.map_cons, List.map_nil, Act.eval, Array.getD_eq_getD_getElem?, Option.getD_some, e29]; rfl)) ?_
            with_reducible refine (pointer_Decode.calls (gb := gb) (rd t142 0) t147 t148 t149 t150 t151 t152 t153 t154 t155 t156 _ ?side1 A7.out).mono ?_
            (case side1 => exact Glob.below HG.out (by repeat (first | (with_reducible first | exact HB.out | apply below_alloc | apply pw_below_drewN | apply below_drew1 | refine below_set ?_ GE139.out) | exact HB.out)))
            rintro e w165 ⟨rfl, hb⟩
            refine ⟨_, rfl, ?_⟩
            have n0_ := Aside0.mk (Kd.R_below (by (with_reducible repeat (first | apply Kd.R_alloc | apply Kd.R_drewN | apply Kd.R_drew)); exact HO145.out) hb)
            have n1_ := Aside0.mk (blk_below (g := gb139) (o := .cells #[.int .u64 0, .int .i64 0, .int .i64 0] 60 (0, 0)) (by (with_reducible repeat (first | refine blk_drewN ?_ _ | refine blk_drew ?_ | refine blk_alloc ?_ _)); exact BK139.out) hb)
            have n2_ := Aside0.mk (below_step (by repeat (first | (with_reducible first | exact HB.out | apply below_alloc | apply pw_below_drewN | apply below_drew1 | refine below_set ?_ GE139.out) | exact HB.out)) hb)
            have z_BK168 := fun (h0_ : b 8 = true) (h1_ : b 10 = false) => (show w165.heap[gb168]? = some (.cells #[.int .i64 0, .int .i64 0, .int .i64 0, .int .i64 0, .int .i64 0, .int .i64 0, .bool false, .int .i64 0, .int .u32 0, .int .u32 0] 39 (0, 0)) from by first | exact (blk_below (g := gb168) (o := .cells #[.int .i64 0, .int .i64 0, .int .i64 0, .int .i64 0, .int .i64 0, .int .i64 0, .bool false, .int .i64 0, .int .u32 0, .int .u32 0] 39 (0, 0)) (by (with_reducible repeat (first | refine blk_drewN ?_ _ | refine blk_drew ?_ | refine blk_alloc ?_ _)); exact (Q_BK168 h0_ h1_)) hb))
            have z_BK169 := fun (h0_ : b 9 = true) (h1_ : b 11 = false) => (show w165.heap[gb169]? = some (.cells #[.int .i64 0, .int .i64 0, .int .i64 0, .int .i64 0, .int .i64 0, .int .i64 0, .bool false, .int .i64 0, .int .u32 0, .int .u32 0] 39 (0, 0)) from by first | exact (blk_below (g := gb169) (o := .cells #[.int .i64 0, .int .i64 0, .int .i64 0, .int .i64 0, .int .i64 0, .int .i64 0, .bool false, .int .i64 0, .int .u32 0, .int .u32 0] 39 (0, 0)) (by (with_reducible repeat (first | refine blk_drewN ?_ _ | refine blk_drew ?_ | refine blk_alloc ?_ _)); exact (Q_BK169 h0_ h1_)) hb))
            clear HO145
            clear BK139
            clear HB
            have HO145 := n0_
            have BK139 := n1_
            have HB := n2_
            clear n0_ n1_ n2_
            (try clear hb)
            (try clear hb2)
            (try clear hk)
            (try clear hi)
            refine hK.out _ _ ⟨gb168, gb169, m8_, m9_, (by rw [ha.out]; exact putSel_upk 2 hb_ rfl rfl rfl), (by (with_reducible repeat (first | apply Kd.R_alloc | apply Kd.R_drewN | apply Kd.R_drew)); exact HO145.out), (by (with_reducible repeat (first | refine blk_drewN ?_ _ | refine blk_drew ?_ | refine blk_alloc ?_ _)); exact BK139.out), (by repeat (first | (with_reducible first | exact HB.out | apply below_alloc | apply pw_below_drewN | apply below_drew1 | refine below_set ?_ GE139.out) | exact HB.out)), Q_NB169_168, Q_NB168_169, z_BK168, Q_GW168, Q_GE168, Q_NB139_168, Q_NB168_139, z_BK169, Q_GW169, Q_GE169, Q_NB139_169, Q_NB169_139, fun h0_ => absurd ((hoff 10 (by kernel_rfl)).symm.trans h0_) (by decide), fun h0_ => absurd ((hoff 11 (by kernel_rfl)).symm.trans h0_) (by decide), Q_X8_, Q_X9_⟩
          refine steps_cons ?_ ?_
          · rintro b a w' ⟨gb168, gb169, m8_, m9_, ha, Q_HO145, Q_BK139, Q_HB, Q_NB169_168, Q_NB168_169, Q_BK168, Q_GW168, Q_GE168, Q_NB139_168, Q_NB168_139, Q_BK169, Q_GW169, Q_GE169, Q_NB139_169, Q_NB169_139, Q_BK168_e10, Q_BK169_e11, Q_X8_, Q_X9_⟩ hb_ hon hoff
            refine ⟨_, rfl, fun K hK => ?_⟩
            have e31 : a.tmps[31]? = some (.slice (some ad146) t142.length co164) := by rw [ha]; exact (putSel_off rfl).trans rfl
            replace ha := Aside0.mk ha
            have HO145 := Aside0.mk Q_HO145
            have BK139 := Aside0.mk Q_BK139
            have HB := Aside0.mk Q_HB
            refine value_ (w1 := w') (v := .pointer (some (ad146.add 1))) (by rfl) rfl ?_ ?_
            · go_simp
              (try simp only [i64_w])
              try rfl
            refine hK.out _ _ ⟨gb168, gb169, m8_, m9_, (by rw [ha.out]; exact putSel_upk 3 hb_ rfl rfl rfl), Q_HO145, Q_BK139, Q_HB, Q_NB169_168, Q_NB168_169, Q_BK168, Q_GW168, Q_GE168, Q_NB139_168, Q_NB168_139, Q_BK169, Q_GW169, Q_GE169, Q_NB139_169, Q_NB169_139, fun h0_ => absurd ((hoff 10 (by kernel_rfl)).symm.trans h0_) (by decide), fun h0_ => absurd ((hoff 11 (by kernel_rfl)).symm.trans h0_) (by decide), Q_X8_, Q_X9_⟩
          refine steps_cons ?_ ?_
          · rintro b a w' ⟨gb168, gb169, m8_, m9_, ha, Q_HO145, Q_BK139, Q_HB, Q_NB169_168, Q_NB168_169, Q_BK168, Q_GW168, Q_GE168, Q_NB139_168, Q_NB168_139, Q_BK169, Q_GW169, Q_GE169, Q_NB139_169, Q_NB169_139, Q_BK168_e10, Q_BK169_e11, Q_X8_, Q_X9_⟩ hb_ hon hoff
            refine ⟨_, rfl, fun K hK => ?_⟩
            have e32 : a.tmps[32]? = some (.pointer (some (ad146.add 1))) := by rw [ha]; exact putSel_on (e := (5, 32, .pointer (some (ad146.add 1)))) 3 rfl rfl (hon 5 (by kernel_rfl)) rfl
            replace ha := Aside0.mk ha
            have HO145 := Aside0.mk Q_HO145
            have BK139 := Aside0.mk Q_BK139
            have HB := Aside0.mk Q_HB
            obtain ⟨ad157_z, e157_z, hx157_0_z⟩ := Kd.at_int (Kd.R_reads' HO145.out).2.2 1 (of_eq_true p157) (of_eq_true q157)
            cases e157_z
            have hs1_ : w'.cell? ⟨ad146.block, ad146.off + 1, none⟩ = some (.int .u64 (rd t142 1)) := (by first | exact hx157_0_z | (have h_ := hx157_0_z; (try simp only [Int.reduceToNat, Nat.zero_mul, Nat.reduceMul, Nat.reduceEqDiff, Go.Addr.add, ↓reduceIte, Addr.add_zero'] at h_); exact h_))
            refine value_ (w1 := w') (v := .int .u64 (rd t142 1)) (by rfl) rfl ?_ ?_
            · go_simp
              (try simp only [i64_w])
              try rfl
            refine hK.out _ _ ⟨gb168, gb169, m8_, m9_, (by rw [ha.out]; exact putSel_upk 4 hb_ rfl rfl rfl), Q_HO145, Q_BK139, Q_HB, Q_NB169_168, Q_NB168_169, Q_BK168, Q_GW168, Q_GE168, Q_NB139_168, Q_NB168_139, Q_BK169, Q_GW169, Q_GE169, Q_NB139_169, Q_NB169_139, fun h0_ => absurd ((hoff 10 (by kernel_rfl)).symm.trans h0_) (by decide), fun h0_ => absurd ((hoff 11 (by kernel_rfl)).symm.trans h0_) (by decide), Q_X8_, Q_X9_⟩
          refine steps_cons ?_ ?_
          · rintro b a w' ⟨gb168, gb169, m8_, m9_, ha, Q_HO145, Q_BK139, Q_HB, Q_NB169_168, Q_NB168_169, Q_BK168, Q_GW168, Q_GE168, Q_NB139_168, Q_NB168_139, Q_BK169, Q_GW169, Q_GE169, Q_NB139_169, Q_NB169_139, Q_BK168_e10, Q_BK169_e11, Q_X8_, Q_X9_⟩ hb_ hon hoff
            refine ⟨_, rfl, fun K hK => ?_⟩
            have e33 : a.tmps[33]? = some (.int .u64 (rd t142 1)) := by rw [ha]; exact putSel_on (e := (6, 33, .int .u64 (rd t142 1))) 4 rfl rfl (hon 6 (by kernel_rfl)) rfl
            replace ha := Aside0.mk ha
            have HO145 := Aside0.mk Q_HO145
            have BK139 := Aside0.mk Q_BK139
            have HB := Aside0.mk Q_HB
            refine goes_ Tryd.func34 (by kernel_rfl) rfl #[.int .u64 (rd t142 1)] (by rfl) rfl rfl (by first | (simp only [List.map_toArray, List.map_cons, List.map_nil, Act.eval, Array.getD_eq_getD_getElem?, Option.getD_some, e33]; done) | (simp only [List.map_toArray, List.map_cons, List.map_nil, Act.eval, Array.getD_eq_getD_getElem?, Option.getD_some, e33]; rfl)) ?_
            with_reducible refine (pointer_Decode.calls (gb := gb) (rd t142 1) t158 t159 t160 t161 t162 t163 t164 t165 t166 t167 _ ?side1 A9.out).mono ?_
            (case side1 => exact Glob.below HG.out (by repeat (first | (with_reducible first | exact HB.out | apply below_alloc | apply pw_below_drewN | apply below_drew1 | refine below_set ?_ GE139.out) | exact HB.out)))
            rintro e w167 ⟨rfl, hb⟩
            refine ⟨_, rfl, ?_⟩
            have n0_ := Aside0.mk (Kd.R_below (by (with_reducible repeat (first | apply Kd.R_alloc | apply Kd.R_drewN | apply Kd.R_drew)); exact HO145.out) hb)
            have n1_ := Aside0.mk (blk_below (g := gb139) (o := .cells #[.int .u64 0, .int .i64 0, .int .i64 0] 60 (0, 0)) (by (with_reducible repeat (first | refine blk_drewN ?_ _ | refine blk_drew ?_ | refine blk_alloc ?_ _)); exact BK139.out) hb)
            have n2_ := Aside0.mk (below_step (by repeat (first | (with_reducible first | exact HB.out | apply below_alloc | apply pw_below_drewN | apply below_drew1 | refine below_set ?_ GE139.out) | exact HB.out)) hb)
            have z_BK168 := fun (h0_ : b 8 = true) (h1_ : b 10 = false) => (show w167.heap[gb168]? = some (.cells #[.int .i64 0, .int .i64 0, .int .i64 0, .int .i64 0, .int .i64 0, .int .i64 0, .bool false, .int .i64 0, .int .u32 0, .int .u32 0] 39 (0, 0)) from by first | exact (blk_below (g := gb168) (o := .cells #[.int .i64 0, .int .i64 0, .int .i64 0, .int .i64 0, .int .i64 0, .int .i64 0, .bool false, .int .i64 0, .int .u32 0, .int .u32 0] 39 (0, 0)) (by (with_reducible repeat (first | refine blk_drewN ?_ _ | refine blk_drew ?_ | refine blk_alloc ?_ _)); exact (Q_BK168 h0_ h1_)) hb))
            have z_BK169 := fun (h0_ : b 9 = true) (h1_ : b 11 = false) => (show w167.heap[gb169]? = some (.cells #[.int .i64 0, .int .i64 0, .int .i64 0, .int .i64 0, .int .i64 0, .int .i64 0, .bool false, .int .i64 0, .int .u32 0, .int .u32 0] 39 (0, 0)) from by first | exact (blk_below (g := gb169) (o := .cells #[.int .i64 0, .int .i64 0, .int .i64 0, .int .i64 0, .int .i64 0, .int .i64 0, .bool false, .int .i64 0, .int .u32 0, .int .u32 0] 39 (0, 0)) (by (with_reducible repeat (first | refine blk_drewN ?_ _ | refine blk_drew ?_ | refine blk_alloc ?_ _)); exact (Q_BK169 h0_ h1_)) hb))
            clear HO145
            clear BK139
            clear HB
            have HO145 := n0_
            have BK139 := n1_
            have HB := n2_
            clear n0_ n1_ n2_
            (try clear hb)
            (try clear hb2)
            (try clear hk)
            (try clear hi)
            refine hK.out _ _ ⟨gb168, gb169, m8_, m9_, (by rw [ha.out]; exact putSel_upk 5 hb_ rfl rfl rfl), (by (with_reducible repeat (first | apply Kd.R_alloc | apply Kd.R_drewN | apply Kd.R_drew)); exact HO145.out), (by (with_reducible repeat (first | refine blk_drewN ?_ _ | refine blk_drew ?_ | refine blk_alloc ?_ _)); exact BK139.out), (by repeat (first | (with_reducible first | exact HB.out | apply below_alloc | apply pw_below_drewN | apply below_drew1 | refine below_set ?_ GE139.out) | exact HB.out)), Q_NB169_168, Q_NB168_169, z_BK168, Q_GW168, Q_GE168, Q_NB139_168, Q_NB168_139, z_BK169, Q_GW169, Q_GE169, Q_NB139_169, Q_NB169_139, fun h0_ => absurd ((hoff 10 (by kernel_rfl)).symm.trans h0_) (by decide), fun h0_ => absurd ((hoff 11 (by kernel_rfl)).symm.trans h0_) (by decide), Q_X8_, Q_X9_⟩
          refine steps_cons ?_ ?_
          · rintro b a w' ⟨gb168, gb169, m8_, m9_, ha, Q_HO145, Q_BK139, Q_HB, Q_NB169_168, Q_NB168_169, Q_BK168, Q_GW168, Q_GE168, Q_NB139_168, Q_NB168_139, Q_BK169, Q_GW169, Q_GE169, Q_NB139_169, Q_NB169_139, Q_BK168_e10, Q_BK169_e11, Q_X8_, Q_X9_⟩ hb_ hon hoff
            refine ⟨_, rfl, fun K hK => ?_⟩
            replace ha := Aside0.mk ha
            have HO145 := Aside0.mk Q_HO145
            have BK139 := Aside0.mk Q_BK139
            have HB := Aside0.mk Q_HB
            refine box_step ?hg (N := 10) ?hd (cs := #[.int .i64 0, .int .i64 0, .int .i64 0, .int .i64 0, .int .i64 0, .int .i64 0, .bool false, .int .i64 0, .int .u32 0, .int .u32 0]) (t := 39) ?hr ?_; (case hd => rfl); (case hg => rfl); (case hr => first | (go_simp; done) | (go_simp; rfl))
            intro gb168 hg w165 hbox hb
            have n0_ := Aside0.mk (Kd.R_below (by (with_reducible repeat (first | apply Kd.R_alloc | apply Kd.R_drewN | apply Kd.R_drew)); exact HO145.out) hb)
            have n1_ := Aside0.mk (blk_below (g := gb139) (o := .cells #[.int .u64 0, .int .i64 0, .int .i64 0] 60 (0, 0)) (by (with_reducible repeat (first | refine blk_drewN ?_ _ | refine blk_drew ?_ | refine blk_alloc ?_ _)); exact BK139.out) hb)
            have n2_ := Aside0.mk (below_step (by repeat (first | (with_reducible first | exact HB.out | apply below_alloc | apply pw_below_drewN | apply below_drew1 | refine below_set ?_ GE139.out) | exact HB.out)) hb)
            have n3_ := Aside0.mk (hbox)
            have n4_ := Aside0.mk ((by rw [hg]; exact (below_size (by repeat (first | (with_reducible first | exact HB.out | apply below_alloc | apply pw_below_drewN | apply below_drew1 | refine below_set ?_ GE139.out) | exact HB.out))) : w.heap.size ≤ gb168))
            have n5_ := Aside0.mk ((by rw [hg]; exact (below_size (by repeat (first | (with_reducible first | exact HB.out | apply below_alloc | apply pw_below_drewN | apply below_drew1 | refine below_set ?_ GE139.out) | exact HB.out))) : w.heap.size ≤ gb168))
            have n6_ := Aside0.mk ((by rw [hg]; exact Nat.ne_of_lt (blk_lt (g := gb139) (o := .cells #[.int .u64 0, .int .i64 0, .int .i64 0] 60 (0, 0)) (by (with_reducible repeat (first | refine blk_drewN ?_ _ | refine blk_drew ?_ | refine blk_alloc ?_ _)); exact BK139.out)) : gb139 ≠ gb168))
            have n7_ := Aside0.mk ((by rw [hg]; exact Nat.ne_of_gt (blk_lt (g := gb139) (o := .cells #[.int .u64 0, .int .i64 0, .int .i64 0] 60 (0, 0)) (by (with_reducible repeat (first | refine blk_drewN ?_ _ | refine blk_drew ?_ | refine blk_alloc ?_ _)); exact BK139.out)) : gb168 ≠ gb139))
            have z_NB169_168 := fun (h0_ : up b 8 8 = true) (h1_ : up b 8 9 = true) => (show gb169 ≠ gb168 from ((by rw [hg]; exact Nat.ne_of_lt (blk_lt (g := gb169) (o := .cells #[.int .i64 0, .int .i64 0, .int .i64 0, .int .i64 0, .int .i64 0, .int .i64 0, .bool false, .int .i64 0, .int .u32 0, .int .u32 0] 39 (0, 0)) (by (with_reducible repeat (first | refine blk_drewN ?_ _ | refine blk_drew ?_ | refine blk_alloc ?_ _)); exact (Q_BK169 (show b 9 = true from h1_) (hoff 11 (by kernel_rfl))))) : gb169 ≠ gb168)))
            have z_NB168_169 := fun (h0_ : up b 8 8 = true) (h1_ : up b 8 9 = true) => (show gb168 ≠ gb169 from ((by rw [hg]; exact Nat.ne_of_gt (blk_lt (g := gb169) (o := .cells #[.int .i64 0, .int .i64 0, .int .i64 0, .int .i64 0, .int .i64 0, .int .i64 0, .bool false, .int .i64 0, .int .u32 0, .int .u32 0] 39 (0, 0)) (by (with_reducible repeat (first | refine blk_drewN ?_ _ | refine blk_drew ?_ | refine blk_alloc ?_ _)); exact (Q_BK169 (show b 9 = true from h1_) (hoff 11 (by kernel_rfl))))) : gb168 ≠ gb169)))
            have z_BK169 := fun (h0_ : b 9 = true) (h1_ : b 11 = false) => (show w165.heap[gb169]? = some (.cells #[.int .i64 0, .int .i64 0, .int .i64 0, .int .i64 0, .int .i64 0, .int .i64 0, .bool false, .int .i64 0, .int .u32 0, .int .u32 0] 39 (0, 0)) from by first | exact (blk_below (g := gb169) (o := .cells #[.int .i64 0, .int .i64 0, .int .i64 0, .int .i64 0, .int .i64 0, .int .i64 0, .bool false, .int .i64 0, .int .u32 0, .int .u32 0] 39 (0, 0)) (by (with_reducible repeat (first | refine blk_drewN ?_ _ | refine blk_drew ?_ | refine blk_alloc ?_ _)); exact (Q_BK169 h0_ h1_)) hb))
            clear HO145
            clear BK139
            clear HB
            have HO145 := n0_
            have BK139 := n1_
            have HB := n2_
            have BK168 := n3_
            have GW168 := n4_
            have GE168 := n5_
            have NB139_168 := n6_
            have NB168_139 := n7_
            clear n0_ n1_ n2_ n3_ n4_ n5_ n6_ n7_
            clear hb hbox hg
            refine hK.out _ _ ⟨gb168, gb169, (.pointer (some ⟨gb168, 0, none⟩)), m9_, (by rw [ha.out]; exact putSel_upk 6 hb_ rfl rfl rfl), (by (with_reducible repeat (first | apply Kd.R_alloc | apply Kd.R_drewN | apply Kd.R_drew)); exact HO145.out), (by (with_reducible repeat (first | refine blk_drewN ?_ _ | refine blk_drew ?_ | refine blk_alloc ?_ _)); exact BK139.out), (by repeat (first | (with_reducible first | exact HB.out | apply below_alloc | apply pw_below_drewN | apply below_drew1 | refine below_set ?_ GE139.out | refine below_set ?_ GE168.out) | exact HB.out)), z_NB169_168, z_NB168_169, fun _ _ => (by (with_reducible repeat (first | refine blk_drewN ?_ _ | refine blk_drew ?_ | refine blk_alloc ?_ _)); exact BK168.out), fun _ => GW168.out, fun _ => GE168.out, fun _ => NB139_168.out, fun _ => NB168_139.out, z_BK169, Q_GW169, Q_GE169, Q_NB139_169, Q_NB169_139, fun h0_ => absurd ((hoff 10 (by kernel_rfl)).symm.trans h0_) (by decide), fun h0_ => absurd ((hoff 11 (by kernel_rfl)).symm.trans h0_) (by decide), fun _ => rfl, Q_X9_⟩
          refine steps_cons ?_ ?_
          · rintro b a w' ⟨gb168, gb169, m8_, m9_, ha, Q_HO145, Q_BK139, Q_HB, Q_NB169_168, Q_NB168_169, Q_BK168, Q_GW168, Q_GE168, Q_NB139_168, Q_NB168_139, Q_BK169, Q_GW169, Q_GE169, Q_NB139_169, Q_NB169_139, Q_BK168_e10, Q_BK169_e11, Q_X8_, Q_X9_⟩ hb_ hon hoff
            refine ⟨_, rfl, fun K hK => ?_⟩
            replace ha := Aside0.mk ha
            have HO145 := Aside0.mk Q_HO145
            have BK139 := Aside0.mk Q_BK139
            have HB := Aside0.mk Q_HB
            refine box_step ?hg (N := 11) ?hd (cs := #[.int .i64 0, .int .i64 0, .int .i64 0, .int .i64 0, .int .i64 0, .int .i64 0, .bool false, .int .i64 0, .int .u32 0, .int .u32 0]) (t := 39) ?hr ?_; (case hd => rfl); (case hg => rfl); (case hr => first | (go_simp; done) | (go_simp; rfl))
            intro gb169 hg w165 hbox hb
            have n0_ := Aside0.mk (Kd.R_below (by (with_reducible repeat (first | apply Kd.R_alloc | apply Kd.R_drewN | apply Kd.R_drew)); exact HO145.out) hb)
            have n1_ := Aside0.mk (blk_below (g := gb139) (o := .cells #[.int .u64 0, .int .i64 0, .int .i64 0] 60 (0, 0)) (by (with_reducible repeat (first | refine blk_drewN ?_ _ | refine blk_drew ?_ | refine blk_alloc ?_ _)); exact BK139.out) hb)
            have n2_ := Aside0.mk (below_step (by repeat (first | (with_reducible first | exact HB.out | apply below_alloc | apply pw_below_drewN | apply below_drew1 | refine below_set ?_ GE139.out) | exact HB.out)) hb)
            have n3_ := Aside0.mk (hbox)
            have n4_ := Aside0.mk ((by rw [hg]; exact (below_size (by repeat (first | (with_reducible first | exact HB.out | apply below_alloc | apply pw_below_drewN | apply below_drew1 | refine below_set ?_ GE139.out) | exact HB.out))) : w.heap.size ≤ gb169))
            have n5_ := Aside0.mk ((by rw [hg]; exact (below_size (by repeat (first | (with_reducible first | exact HB.out | apply below_alloc | apply pw_below_drewN | apply below_drew1 | refine below_set ?_ GE139.out) | exact HB.out))) : w.heap.size ≤ gb169))
            have n6_ := Aside0.mk ((by rw [hg]; exact Nat.ne_of_lt (blk_lt (g := gb139) (o := .cells #[.int .u64 0, .int .i64 0, .int .i64 0] 60 (0, 0)) (by (with_reducible repeat (first | refine blk_drewN ?_ _ | refine blk_drew ?_ | refine blk_alloc ?_ _)); exact BK139.out)) : gb139 ≠ gb169))
            have n7_ := Aside0.mk ((by rw [hg]; exact Nat.ne_of_gt (blk_lt (g := gb139) (o := .cells #[.int .u64 0, .int .i64 0, .int .i64 0] 60 (0, 0)) (by (with_reducible repeat (first | refine blk_drewN ?_ _ | refine blk_drew ?_ | refine blk_alloc ?_ _)); exact BK139.out)) : gb169 ≠ gb139))
            have z_NB169_168 := fun (h0_ : up b 9 8 = true) (h1_ : up b 9 9 = true) => (show gb169 ≠ gb168 from ((by rw [hg]; exact Nat.ne_of_gt (blk_lt (g := gb168) (o := .cells #[.int .i64 0, .int .i64 0, .int .i64 0, .int .i64 0, .int .i64 0, .int .i64 0, .bool false, .int .i64 0, .int .u32 0, .int .u32 0] 39 (0, 0)) (by (with_reducible repeat (first | refine blk_drewN ?_ _ | refine blk_drew ?_ | refine blk_alloc ?_ _)); exact (Q_BK168 (show b 8 = true from h0_) (hoff 10 (by kernel_rfl))))) : gb169 ≠ gb168)))
            have z_NB168_169 := fun (h0_ : up b 9 8 = true) (h1_ : up b 9 9 = true) => (show gb168 ≠ gb169 from ((by rw [hg]; exact Nat.ne_of_lt (blk_lt (g := gb168) (o := .cells #[.int .i64 0, .int .i64 0, .int .i64 0, .int .i64 0, .int .i64 0, .int .i64 0, .bool false, .int .i64 0, .int .u32 0, .int .u32 0] 39 (0, 0)) (by (with_reducible repeat (first | refine blk_drewN ?_ _ | refine blk_drew ?_ | refine blk_alloc ?_ _)); exact (Q_BK168 (show b 8 = true from h0_) (hoff 10 (by kernel_rfl))))) : gb168 ≠ gb169)))
            have z_BK168 := fun (h0_ : b 8 = true) (h1_ : b 10 = false) => (show w165.heap[gb168]? = some (.cells #[.int .i64 0, .int .i64 0, .int .i64 0, .int .i64 0, .int .i64 0, .int .i64 0, .bool false, .int .i64 0, .int .u32 0, .int .u32 0] 39 (0, 0)) from by first | exact (blk_below (g := gb168) (o := .cells #[.int .i64 0, .int .i64 0, .int .i64 0, .int .i64 0, .int .i64 0, .int .i64 0, .bool false, .int .i64 0, .int .u32 0, .int .u32 0] 39 (0, 0)) (by (with_reducible repeat (first | refine blk_drewN ?_ _ | refine blk_drew ?_ | refine blk_alloc ?_ _)); exact (Q_BK168 h0_ h1_)) hb))
            clear HO145
            clear BK139
            clear HB
            have HO145 := n0_
            have BK139 := n1_
            have HB := n2_
            have BK169 := n3_
            have GW169 := n4_
            have GE169 := n5_
            have NB139_169 := n6_
            have NB169_139 := n7_
            clear n0_ n1_ n2_ n3_ n4_ n5_ n6_ n7_
            clear hb hbox hg
            refine hK.out _ _ ⟨gb168, gb169, m8_, (.pointer (some ⟨gb169, 0, none⟩)), (by rw [ha.out]; exact putSel_upk 7 hb_ rfl rfl rfl), (by (with_reducible repeat (first | apply Kd.R_alloc | apply Kd.R_drewN | apply Kd.R_drew)); exact HO145.out), (by (with_reducible repeat (first | refine blk_drewN ?_ _ | refine blk_drew ?_ | refine blk_alloc ?_ _)); exact BK139.out), (by repeat (first | (with_reducible first | exact HB.out | apply below_alloc | apply pw_below_drewN | apply below_drew1 | refine below_set ?_ GE139.out | refine below_set ?_ GE169.out) | exact HB.out)), z_NB169_168, z_NB168_169, z_BK168, Q_GW168, Q_GE168, Q_NB139_168, Q_NB168_139, fun _ _ => (by (with_reducible repeat (first | refine blk_drewN ?_ _ | refine blk_drew ?_ | refine blk_alloc ?_ _)); exact BK169.out), fun _ => GW169.out, fun _ => GE169.out, fun _ => NB139_169.out, fun _ => NB169_139.out, fun h0_ => absurd ((hoff 10 (by kernel_rfl)).symm.trans h0_) (by decide), fun h0_ => absurd ((hoff 11 (by kernel_rfl)).symm.trans h0_) (by decide), Q_X8_, fun _ => rfl⟩
          refine steps_cons ?_ ?_
          · rintro b a w' ⟨gb168, gb169, m8_, m9_, ha, Q_HO145, Q_BK139, Q_HB, Q_NB169_168, Q_NB168_169, Q_BK168, Q_GW168, Q_GE168, Q_NB139_168, Q_NB168_139, Q_BK169, Q_GW169, Q_GE169, Q_NB139_169, Q_NB169_139, Q_BK168_e10, Q_BK169_e11, Q_X8_, Q_X9_⟩ hb_ hon hoff
            refine ⟨_, rfl, fun K hK => ?_⟩
            have e10 : a.tmps[10]? = some (m8_) := by rw [ha]; exact putSel_on (e := (8, 10, m8_)) 6 rfl rfl (hon 8 (by kernel_rfl)) rfl
            rw [Q_X8_ (hon 8 (by kernel_rfl))] at e10
            have e30 : a.tmps[30]? = some (.agg #[.int .i64 t147, .int .i64 t148, .int .i64 t149, .int .i64 t150, .int .i64 t151, .int .i64 t152, .bool t153, .int .i64 t154, .int .u32 t155, .int .u32 t156]) := by rw [ha]; exact putSel_on (e := (3, 30, .agg #[.int .i64 t147, .int .i64 t148, .int .i64 t149, .int .i64 t150, .int .i64 t151, .int .i64 t152, .bool t153, .int .i64 t154, .int .u32 t155, .int .u32 t156])) 2 rfl rfl (hon 3 (by kernel_rfl)) rfl
            replace ha := Aside0.mk ha
            have HO145 := Aside0.mk Q_HO145
            have BK139 := Aside0.mk Q_BK139
            have HB := Aside0.mk Q_HB
            have NB169_168 := Aside0.mk (Q_NB169_168 (hon 8 (by kernel_rfl)) (hon 9 (by kernel_rfl)))
            have NB168_169 := Aside0.mk (Q_NB168_169 (hon 8 (by kernel_rfl)) (hon 9 (by kernel_rfl)))
            have BK168 := Aside0.mk (Q_BK168 (hon 8 (by kernel_rfl)) hb_)
            have GW168 := Aside0.mk (Q_GW168 (hon 8 (by kernel_rfl)))
            have GE168 := Aside0.mk (Q_GE168 (hon 8 (by kernel_rfl)))
            have NB139_168 := Aside0.mk (Q_NB139_168 (hon 8 (by kernel_rfl)))
            have NB168_139 := Aside0.mk (Q_NB168_139 (hon 8 (by kernel_rfl)))
            have BK169 := Aside0.mk (Q_BK169 (hon 9 (by kernel_rfl)) (hoff 11 (by kernel_rfl)))
            have GW169 := Aside0.mk (Q_GW169 (hon 9 (by kernel_rfl)))
            have GE169 := Aside0.mk (Q_GE169 (hon 9 (by kernel_rfl)))
            have NB139_169 := Aside0.mk (Q_NB139_169 (hon 9 (by kernel_rfl)))
            have NB169_139 := Aside0.mk (Q_NB169_139 (hon 9 (by kernel_rfl)))
            have hs170 : w'.cell? ⟨gb168, 0, none⟩ = some (.int .i64 0) := (blk_cell BK168.out 0).trans rfl
            have hfs170 := blk_frozen BK168.out 0
            have hns170_0 := NB139_168.out
            have hns170_2 := NB169_168.out
            have hms170_0 := NB168_139.out
            have hms170_2 := NB168_169.out
            have hs171 : w'.cell? ⟨gb168, 1, none⟩ = some (.int .i64 0) := (blk_cell BK168.out 1).trans rfl
            have hfs171 := blk_frozen BK168.out 1
            have hns171_0 := NB139_168.out
            have hns171_2 := NB169_168.out
            have hms171_0 := NB168_139.out
            have hms171_2 := NB168_169.out
            have hs172 : w'.cell? ⟨gb168, 2, none⟩ = some (.int .i64 0) := (blk_cell BK168.out 2).trans rfl
            have hfs172 := blk_frozen BK168.out 2
            have hns172_0 := NB139_168.out
            have hns172_2 := NB169_168.out
            have hms172_0 := NB168_139.out
            have hms172_2 := NB168_169.out
            have hs173 : w'.cell? ⟨gb168, 3, none⟩ = some (.int .i64 0) := (blk_cell BK168.out 3).trans rfl
            have hfs173 := blk_frozen BK168.out 3
            have hns173_0 := NB139_168.out
            have hns173_2 := NB169_168.out
            have hms173_0 := NB168_139.out
            have hms173_2 := NB168_169.out
            have hs174 : w'.cell? ⟨gb168, 4, none⟩ = some (.int .i64 0) := (blk_cell BK168.out 4).trans rfl
            have hfs174 := blk_frozen BK168.out 4
            have hns174_0 := NB139_168.out
            have hns174_2 := NB169_168.out
            have hms174_0 := NB168_139.out
            have hms174_2 := NB168_169.out
            have hs175 : w'.cell? ⟨gb168, 5, none⟩ = some (.int .i64 0) := (blk_cell BK168.out 5).trans rfl
            have hfs175 := blk_frozen BK168.out 5
            have hns175_0 := NB139_168.out
            have hns175_2 := NB169_168.out
            have hms175_0 := NB168_139.out
            have hms175_2 := NB168_169.out
            have hs176 : w'.cell? ⟨gb168, 6, none⟩ = some (.bool false) := (blk_cell BK168.out 6).trans rfl
            have hfs176 := blk_frozen BK168.out 6
            have hns176_0 := NB139_168.out
            have hns176_2 := NB169_168.out
            have hms176_0 := NB168_139.out
            have hms176_2 := NB168_169.out
            have hs177 : w'.cell? ⟨gb168, 7, none⟩ = some (.int .i64 0) := (blk_cell BK168.out 7).trans rfl
            have hfs177 := blk_frozen BK168.out 7
            have hns177_0 := NB139_168.out
            have hns177_2 := NB169_168.out
            have hms177_0 := NB168_139.out
            have hms177_2 := NB168_169.out
            have hs178 : w'.cell? ⟨gb168, 8, none⟩ = some (.int .u32 0) := (blk_cell BK168.out 8).trans rfl
            have hfs178 := blk_frozen BK168.out 8
            have hns178_0 := NB139_168.out
            have hns178_2 := NB169_168.out
            have hms178_0 := NB168_139.out
            have hms178_2 := NB168_169.out
            have hs179 : w'.cell? ⟨gb168, 9, none⟩ = some (.int .u32 0) := (blk_cell BK168.out 9).trans rfl
            have hfs179 := blk_frozen BK168.out 9
            have hns179_0 := NB139_168.out
            have hns179_2 := NB169_168.out
            have hms179_0 := NB168_139.out
            have hms179_2 := NB168_169.out
            refine skip_ (w1 := ?_) (by rfl) rfl ?_ ?_
            rotate_left
            · go_simp
              rfl
            refine hK.out _ _ ⟨gb168, gb169, m8_, m9_, (by rw [ha.out]; exact putSel_none (v := undef) rfl), (by (with_reducible repeat (first | apply Kd.R_alloc | apply Kd.R_drewN | apply Kd.R_drew)); exact Kd.R_mono (Kd.R_far (p := ⟨gb168, 9, none⟩) (Kd.R_far (p := ⟨gb168, 8, none⟩) (Kd.R_far (p := ⟨gb168, 7, none⟩) (Kd.R_far (p := ⟨gb168, 6, none⟩) (Kd.R_far (p := ⟨gb168, 5, none⟩) (Kd.R_far (p := ⟨gb168, 4, none⟩) (Kd.R_far (p := ⟨gb168, 3, none⟩) (Kd.R_far (p := ⟨gb168, 2, none⟩) (Kd.R_far (p := ⟨gb168, 1, none⟩) (Kd.R_far (p := ⟨gb168, 0, none⟩) (Kd.R_types HO145.out BK168.out (by decide)) (fun _ hk => hk.2) (.int .i64 t147)) (fun _ hk => hk.2) (.int .i64 t148)) (fun _ hk => hk.2) (.int .i64 t149)) (fun _ hk => hk.2) (.int .i64 t150)) (fun _ hk => hk.2) (.int .i64 t151)) (fun _ hk => hk.2) (.int .i64 t152)) (fun _ hk => hk.2) (.bool t153)) (fun _ hk => hk.2) (.int .i64 t154)) (fun _ hk => hk.2) (.int .u32 t155)) (fun _ hk => hk.2) (.int .u32 t156)) (fun _ hk => trivial)), (by (with_reducible repeat (first | refine blk_drewN ?_ _ | refine blk_drew ?_ | refine blk_alloc ?_ _)); refine blk_far ?_ NB139_168.out _; (with_reducible repeat (first | refine blk_drewN ?_ _ | refine blk_drew ?_ | refine blk_alloc ?_ _)); refine blk_far ?_ NB139_168.out _; (with_reducible repeat (first | refine blk_drewN ?_ _ | refine blk_drew ?_ | refine blk_alloc ?_ _)); refine blk_far ?_ NB139_168.out _; (with_reducible repeat (first | refine blk_drewN ?_ _ | refine blk_drew ?_ | refine blk_alloc ?_ _)); refine blk_far ?_ NB139_168.out _; (with_reducible repeat (first | refine blk_drewN ?_ _ | refine blk_drew ?_ | refine blk_alloc ?_ _)); refine blk_far ?_ NB139_168.out _; (with_reducible repeat (first | refine blk_drewN ?_ _ | refine blk_drew ?_ | refine blk_alloc ?_ _)); refine blk_far ?_ NB139_168.out _; (with_reducible repeat (first | refine blk_drewN ?_ _ | refine blk_drew ?_ | refine blk_alloc ?_ _)); refine blk_far ?_ NB139_168.out _; (with_reducible repeat (first | refine blk_drewN ?_ _ | refine blk_drew ?_ | refine blk_alloc ?_ _)); refine blk_far ?_ NB139_168.out _; (with_reducible repeat (first | refine blk_drewN ?_ _ | refine blk_drew ?_ | refine blk_alloc ?_ _)); refine blk_far ?_ NB139_168.out _; (with_reducible repeat (first | refine blk_drewN ?_ _ | refine blk_drew ?_ | refine blk_alloc ?_ _)); refine blk_far ?_ NB139_168.out _; (with_reducible repeat (first | refine blk_drewN ?_ _ | refine blk_drew ?_ | refine blk_alloc ?_ _)); exact BK139.out), (by repeat (first | (with_reducible first | exact HB.out | apply below_alloc | apply pw_below_drewN | apply below_drew1 | refine below_set ?_ GE139.out | refine below_set ?_ GE168.out | refine below_set ?_ GE169.out) | exact HB.out)), fun _ _ => NB169_168.out, fun _ _ => NB168_169.out, fun _ h1_ => absurd ((up_self b 10).symm.trans h1_) (by decide), fun _ => GW168.out, fun _ => GE168.out, fun _ => NB139_168.out, fun _ => NB168_139.out, fun _ _ => (by (with_reducible repeat (first | refine blk_drewN ?_ _ | refine blk_drew ?_ | refine blk_alloc ?_ _)); refine blk_far ?_ NB169_168.out _; (with_reducible repeat (first | refine blk_drewN ?_ _ | refine blk_drew ?_ | refine blk_alloc ?_ _)); refine blk_far ?_ NB169_168.out _; (with_reducible repeat (first | refine blk_drewN ?_ _ | refine blk_drew ?_ | refine blk_alloc ?_ _)); refine blk_far ?_ NB169_168.out _; (with_reducible repeat (first | refine blk_drewN ?_ _ | refine blk_drew ?_ | refine blk_alloc ?_ _)); refine blk_far ?_ NB169_168.out _; (with_reducible repeat (first | refine blk_drewN ?_ _ | refine blk_drew ?_ | refine blk_alloc ?_ _)); refine blk_far ?_ NB169_168.out _; (with_reducible repeat (first | refine blk_drewN ?_ _ | refine blk_drew ?_ | refine blk_alloc ?_ _)); refine blk_far ?_ NB169_168.out _; (with_reducible repeat (first | refine blk_drewN ?_ _ | refine blk_drew ?_ | refine blk_alloc ?_ _)); refine blk_far ?_ NB169_168.out _; (with_reducible repeat (first | refine blk_drewN ?_ _ | refine blk_drew ?_ | refine blk_alloc ?_ _)); refine blk_far ?_ NB169_168.out _; (with_reducible repeat (first | refine blk_drewN ?_ _ | refine blk_drew ?_ | refine blk_alloc ?_ _)); refine blk_far ?_ NB169_168.out _; (with_reducible repeat (first | refine blk_drewN ?_ _ | refine blk_drew ?_ | refine blk_alloc ?_ _)); refine blk_far ?_ NB169_168.out _; (with_reducible repeat (first | refine blk_drewN ?_ _ | refine blk_drew ?_ | refine blk_alloc ?_ _)); exact BK169.out), fun _ => GW169.out, fun _ => GE169.out, fun _ => NB139_169.out, fun _ => NB169_139.out, fun _ => (by (with_reducible repeat (first | refine blk_drewN ?_ _ | refine blk_drew ?_ | refine blk_alloc ?_ _)); refine blk_put (cs := #[.int .i64 t147, .int .i64 t148, .int .i64 t149, .int .i64 t150, .int .i64 t151, .int .i64 t152, .bool t153, .int .i64 t154, .int .u32 t155, .int .u32 0]) ?_ 9 _ rfl; (with_reducible repeat (first | refine blk_drewN ?_ _ | refine blk_drew ?_ | refine blk_alloc ?_ _)); refine blk_put (cs := #[.int .i64 t147, .int .i64 t148, .int .i64 t149, .int .i64 t150, .int .i64 t151, .int .i64 t152, .bool t153, .int .i64 t154, .int .u32 0, .int .u32 0]) ?_ 8 _ rfl; (with_reducible repeat (first | refine blk_drewN ?_ _ | refine blk_drew ?_ | refine blk_alloc ?_ _)); refine blk_put (cs := #[.int .i64 t147, .int .i64 t148, .int .i64 t149, .int .i64 t150, .int .i64 t151, .int .i64 t152, .bool t153, .int .i64 0, .int .u32 0, .int .u32 0]) ?_ 7 _ rfl; (with_reducible repeat (first | refine blk_drewN ?_ _ | refine blk_drew ?_ | refine blk_alloc ?_ _)); refine blk_put (cs := #[.int .i64 t147, .int .i64 t148, .int .i64 t149, .int .i64 t150, .int .i64 t151, .int .i64 t152, .bool false, .int .i64 0, .int .u32 0, .int .u32 0]) ?_ 6 _ rfl; (with_reducible repeat (first | refine blk_drewN ?_ _ | refine blk_drew ?_ | refine blk_alloc ?_ _)); refine blk_put (cs := #[.int .i64 t147, .int .i64 t148, .int .i64 t149, .int .i64 t150, .int .i64 t151, .int .i64 0, .bool false, .int .i64 0, .int .u32 0, .int .u32 0]) ?_ 5 _ rfl; (with_reducible repeat (first | refine blk_drewN ?_ _ | refine blk_drew ?_ | refine blk_alloc ?_ _)); refine blk_put (cs := #[.int .i64 t147, .int .i64 t148, .int .i64 t149, .int .i64 t150, .int .i64 0, .int .i64 0, .bool false, .int .i64 0, .int .u32 0, .int .u32 0]) ?_ 4 _ rfl; (with_reducible repeat (first | refine blk_drewN ?_ _ | refine blk_drew ?_ | refine blk_alloc ?_ _)); refine blk_put (cs := #[.int .i64 t147, .int .i64 t148, .int .i64 t149, .int .i64 0, .int .i64 0, .int .i64 0, .bool false, .int .i64 0, .int .u32 0, .int .u32 0]) ?_ 3 _ rfl; (with_reducible repeat (first | refine blk_drewN ?_ _ | refine blk_drew ?_ | refine blk_alloc ?_ _)); refine blk_put (cs := #[.int .i64 t147, .int .i64 t148, .int .i64 0, .int .i64 0, .int .i64 0, .int .i64 0, .bool false, .int .i64 0, .int .u32 0, .int .u32 0]) ?_ 2 _ rfl; (with_reducible repeat (first | refine blk_drewN ?_ _ | refine blk_drew ?_ | refine blk_alloc ?_ _)); refine blk_put (cs := #[.int .i64 t147, .int .i64 0, .int .i64 0, .int .i64 0, .int .i64 0, .int .i64 0, .bool false, .int .i64 0, .int .u32 0, .int .u32 0]) ?_ 1 _ rfl; (with_reducible repeat (first | refine blk_drewN ?_ _ | refine blk_drew ?_ | refine blk_alloc ?_ _)); refine blk_put (cs := #[.int .i64 0, .int .i64 0, .int .i64 0, .int .i64 0, .int .i64 0, .int .i64 0, .bool false, .int .i64 0, .int .u32 0, .int .u32 0]) ?_ 0 _ rfl; (with_reducible repeat (first | refine blk_drewN ?_ _ | refine blk_drew ?_ | refine blk_alloc ?_ _)); exact BK168.out), fun h0_ => absurd ((hoff 11 (by kernel_rfl)).symm.trans h0_) (by decide), Q_X8_, Q_X9_⟩
          refine steps_cons ?_ ?_
          · rintro b a w' ⟨gb168, gb169, m8_, m9_, ha, Q_HO145, Q_BK139, Q_HB, Q_NB169_168, Q_NB168_169, Q_BK168, Q_GW168, Q_GE168, Q_NB139_168, Q_NB168_139, Q_BK169, Q_GW169, Q_GE169, Q_NB139_169, Q_NB169_139, Q_BK168_e10, Q_BK169_e11, Q_X8_, Q_X9_⟩ hb_ hon hoff
            refine ⟨_, rfl, fun K hK => ?_⟩
            have e11 : a.tmps[11]? = some (m9_) := by rw [ha]; exact putSel_on (e := (9, 11, m9_)) 7 rfl rfl (hon 9 (by kernel_rfl)) rfl
            rw [Q_X9_ (hon 9 (by kernel_rfl))] at e11
            have e34 : a.tmps[34]? = some (.agg #[.int .i64 t158, .int .i64 t159, .int .i64 t160, .int .i64 t161, .int .i64 t162, .int .i64 t163, .bool t164, .int .i64 t165, .int .u32 t166, .int .u32 t167]) := by rw [ha]; exact putSel_on (e := (7, 34, .agg #[.int .i64 t158, .int .i64 t159, .int .i64 t160, .int .i64 t161, .int .i64 t162, .int .i64 t163, .bool t164, .int .i64 t165, .int .u32 t166, .int .u32 t167])) 5 rfl rfl (hon 7 (by kernel_rfl)) rfl
            replace ha := Aside0.mk ha
            have HO145 := Aside0.mk Q_HO145
            have BK139 := Aside0.mk Q_BK139
            have HB := Aside0.mk Q_HB
            have NB169_168 := Aside0.mk (Q_NB169_168 (hon 8 (by kernel_rfl)) (hon 9 (by kernel_rfl)))
            have NB168_169 := Aside0.mk (Q_NB168_169 (hon 8 (by kernel_rfl)) (hon 9 (by kernel_rfl)))
            have GW168 := Aside0.mk (Q_GW168 (hon 8 (by kernel_rfl)))
            have GE168 := Aside0.mk (Q_GE168 (hon 8 (by kernel_rfl)))
            have NB139_168 := Aside0.mk (Q_NB139_168 (hon 8 (by kernel_rfl)))
            have NB168_139 := Aside0.mk (Q_NB168_139 (hon 8 (by kernel_rfl)))
            have BK169 := Aside0.mk (Q_BK169 (hon 9 (by kernel_rfl)) hb_)
            have GW169 := Aside0.mk (Q_GW169 (hon 9 (by kernel_rfl)))
            have GE169 := Aside0.mk (Q_GE169 (hon 9 (by kernel_rfl)))
            have NB139_169 := Aside0.mk (Q_NB139_169 (hon 9 (by kernel_rfl)))
            have NB169_139 := Aside0.mk (Q_NB169_139 (hon 9 (by kernel_rfl)))
            have BK168 := Aside0.mk (Q_BK168_e10 (hon 10 (by kernel_rfl)))
            have hs180 : w'.cell? ⟨gb169, 0, none⟩ = some (.int .i64 0) := (blk_cell BK169.out 0).trans rfl
            have hfs180 := blk_frozen BK169.out 0
            have hns180_0 := NB139_169.out
            have hns180_1 := NB168_169.out
            have hms180_0 := NB169_139.out
            have hms180_1 := NB169_168.out
            have hs181 : w'.cell? ⟨gb169, 1, none⟩ = some (.int .i64 0) := (blk_cell BK169.out 1).trans rfl
            have hfs181 := blk_frozen BK169.out 1
            have hns181_0 := NB139_169.out
            have hns181_1 := NB168_169.out
            have hms181_0 := NB169_139.out
            have hms181_1 := NB169_168.out
            have hs182 : w'.cell? ⟨gb169, 2, none⟩ = some (.int .i64 0) := (blk_cell BK169.out 2).trans rfl
            have hfs182 := blk_frozen BK169.out 2
            have hns182_0 := NB139_169.out
            have hns182_1 := NB168_169.out
            have hms182_0 := NB169_139.out
            have hms182_1 := NB169_168.out
            have hs183 : w'.cell? ⟨gb169, 3, none⟩ = some (.int .i64 0) := (blk_cell BK169.out 3).trans rfl
            have hfs183 := blk_frozen BK169.out 3
            have hns183_0 := NB139_169.out
            have hns183_1 := NB168_169.out
            have hms183_0 := NB169_139.out
            have hms183_1 := NB169_168.out
            have hs184 : w'.cell? ⟨gb169, 4, none⟩ = some (.int .i64 0) := (blk_cell BK169.out 4).trans rfl
            have hfs184 := blk_frozen BK169.out 4
            have hns184_0 := NB139_169.out
            have hns184_1 := NB168_169.out
            have hms184_0 := NB169_139.out
            have hms184_1 := NB169_168.out
            have hs185 : w'.cell? ⟨gb169, 5, none⟩ = some (.int .i64 0) := (blk_cell BK169.out 5).trans rfl
            have hfs185 := blk_frozen BK169.out 5
            have hns185_0 := NB139_169.out
            have hns185_1 := NB168_169.out
            have hms185_0 := NB169_139.out
            have hms185_1 := NB169_168.out
            have hs186 : w'.cell? ⟨gb169, 6, none⟩ = some (.bool false) := (blk_cell BK169.out 6).trans rfl
            have hfs186 := blk_frozen BK169.out 6
            have hns186_0 := NB139_169.out
            have hns186_1 := NB168_169.out
            have hms186_0 := NB169_139.out
            have hms186_1 := NB169_168.out
            have hs187 : w'.cell? ⟨gb169, 7, none⟩ = some (.int .i64 0) := (blk_cell BK169.out 7).trans rfl
            have hfs187 := blk_frozen BK169.out 7
            have hns187_0 := NB139_169.out
            have hns187_1 := NB168_169.out
            have hms187_0 := NB169_139.out
            have hms187_1 := NB169_168.out
            have hs188 : w'.cell? ⟨gb169, 8, none⟩ = some (.int .u32 0) := (blk_cell BK169.out 8).trans rfl
            have hfs188 := blk_frozen BK169.out 8
            have hns188_0 := NB139_169.out
            have hns188_1 := NB168_169.out
            have hms188_0 := NB169_139.out
            have hms188_1 := NB169_168.out
            have hs189 : w'.cell? ⟨gb169, 9, none⟩ = some (.int .u32 0) := (blk_cell BK169.out 9).trans rfl
            have hfs189 := blk_frozen BK169.out 9
            have hns189_0 := NB139_169.out
            have hns189_1 := NB168_169.out
            have hms189_0 := NB169_139.out
            have hms189_1 := NB169_168.out
            refine skip_ (w1 := ?_) (by rfl) rfl ?_ ?_
            rotate_left
            · go_simp
              rfl
            refine hK.out _ _ ⟨gb168, gb169, m8_, m9_, (by rw [ha.out]; exact putSel_none (v := undef) rfl), (by (with_reducible repeat (first | apply Kd.R_alloc | apply Kd.R_drewN | apply Kd.R_drew)); exact Kd.R_mono (Kd.R_far (p := ⟨gb169, 9, none⟩) (Kd.R_far (p := ⟨gb169, 8, none⟩) (Kd.R_far (p := ⟨gb169, 7, none⟩) (Kd.R_far (p := ⟨gb169, 6, none⟩) (Kd.R_far (p := ⟨gb169, 5, none⟩) (Kd.R_far (p := ⟨gb169, 4, none⟩) (Kd.R_far (p := ⟨gb169, 3, none⟩) (Kd.R_far (p := ⟨gb169, 2, none⟩) (Kd.R_far (p := ⟨gb169, 1, none⟩) (Kd.R_far (p := ⟨gb169, 0, none⟩) (Kd.R_types HO145.out BK169.out (by decide)) (fun _ hk => hk.2) (.int .i64 t158)) (fun _ hk => hk.2) (.int .i64 t159)) (fun _ hk => hk.2) (.int .i64 t160)) (fun _ hk => hk.2) (.int .i64 t161)) (fun _ hk => hk.2) (.int .i64 t162)) (fun _ hk => hk.2) (.int .i64 t163)) (fun _ hk => hk.2) (.bool t164)) (fun _ hk => hk.2) (.int .i64 t165)) (fun _ hk => hk.2) (.int .u32 t166)) (fun _ hk => hk.2) (.int .u32 t167)) (fun _ hk => trivial)), (by (with_reducible repeat (first | refine blk_drewN ?_ _ | refine blk_drew ?_ | refine blk_alloc ?_ _)); refine blk_far ?_ NB139_169.out _; (with_reducible repeat (first | refine blk_drewN ?_ _ | refine blk_drew ?_ | refine blk_alloc ?_ _)); refine blk_far ?_ NB139_169.out _; (with_reducible repeat (first | refine blk_drewN ?_ _ | refine blk_drew ?_ | refine blk_alloc ?_ _)); refine blk_far ?_ NB139_169.out _; (with_reducible repeat (first | refine blk_drewN ?_ _ | refine blk_drew ?_ | refine blk_alloc ?_ _)); refine blk_far ?_ NB139_169.out _; (with_reducible repeat (first | refine blk_drewN ?_ _ | refine blk_drew ?_ | refine blk_alloc ?_ _)); refine blk_far ?_ NB139_169.out _; (with_reducible repeat (first | refine blk_drewN ?_ _ | refine blk_drew ?_ | refine blk_alloc ?_ _)); refine blk_far ?_ NB139_169.out _; (with_reducible repeat (first | refine blk_drewN ?_ _ | refine blk_drew ?_ | refine blk_alloc ?_ _)); refine blk_far ?_ NB139_169.out _; (with_reducible repeat (first | refine blk_drewN ?_ _ | refine blk_drew ?_ | refine blk_alloc ?_ _)); refine blk_far ?_ NB139_169.out _; (with_reducible repeat (first | refine blk_drewN ?_ _ | refine blk_drew ?_ | refine blk_alloc ?_ _)); refine blk_far ?_ NB139_169.out _; (with_reducible repeat (first | refine blk_drewN ?_ _ | refine blk_drew ?_ | refine blk_alloc ?_ _)); refine blk_far ?_ NB139_169.out _; (with_reducible repeat (first | refine blk_drewN ?_ _ | refine blk_drew ?_ | refine blk_alloc ?_ _)); exact BK139.out), (by repeat (first | (with_reducible first | exact HB.out | apply below_alloc | apply pw_below_drewN | apply below_drew1 | refine below_set ?_ GE139.out | refine below_set ?_ GE168.out | refine below_set ?_ GE169.out) | exact HB.out)), fun _ _ => NB169_168.out, fun _ _ => NB168_169.out, fun _ h1_ => absurd ((hon 10 (by kernel_rfl)).symm.trans h1_) (by decide), fun _ => GW168.out, fun _ => GE168.out, fun _ => NB139_168.out, fun _ => NB168_139.out, fun _ h1_ => absurd ((up_self b 11).symm.trans h1_) (by decide), fun _ => GW169.out, fun _ => GE169.out, fun _ => NB139_169.out, fun _ => NB169_139.out, fun _ => (by (with_reducible repeat (first | refine blk_drewN ?_ _ | refine blk_drew ?_ | refine blk_alloc ?_ _)); refine blk_far ?_ NB168_169.out _; (with_reducible repeat (first | refine blk_drewN ?_ _ | refine blk_drew ?_ | refine blk_alloc ?_ _)); refine blk_far ?_ NB168_169.out _; (with_reducible repeat (first | refine blk_drewN ?_ _ | refine blk_drew ?_ | refine blk_alloc ?_ _)); refine blk_far ?_ NB168_169.out _; (with_reducible repeat (first | refine blk_drewN ?_ _ | refine blk_drew ?_ | refine blk_alloc ?_ _)); refine blk_far ?_ NB168_169.out _; (with_reducible repeat (first | refine blk_drewN ?_ _ | refine blk_drew ?_ | refine blk_alloc ?_ _)); refine blk_far ?_ NB168_169.out _; (with_reducible repeat (first | refine blk_drewN ?_ _ | refine blk_drew ?_ | refine blk_alloc ?_ _)); refine blk_far ?_ NB168_169.out _; (with_reducible repeat (first | refine blk_drewN ?_ _ | refine blk_drew ?_ | refine blk_alloc ?_ _)); refine blk_far ?_ NB168_169.out _; (with_reducible repeat (first | refine blk_drewN ?_ _ | refine blk_drew ?_ | refine blk_alloc ?_ _)); refine blk_far ?_ NB168_169.out _; (with_reducible repeat (first | refine blk_drewN ?_ _ | refine blk_drew ?_ | refine blk_alloc ?_ _)); refine blk_far ?_ NB168_169.out _; (with_reducible repeat (first | refine blk_drewN ?_ _ | refine blk_drew ?_ | refine blk_alloc ?_ _)); refine blk_far ?_ NB168_169.out _; (with_reducible repeat (first | refine blk_drewN ?_ _ | refine blk_drew ?_ | refine blk_alloc ?_ _)); exact BK168.out), fun _ => (by (with_reducible repeat (first | refine blk_drewN ?_ _ | refine blk_drew ?_ | refine blk_alloc ?_ _)); refine blk_put (cs := #[.int .i64 t158, .int .i64 t159, .int .i64 t160, .int .i64 t161, .int .i64 t162, .int .i64 t163, .bool t164, .int .i64 t165, .int .u32 t166, .int .u32 0]) ?_ 9 _ rfl; (with_reducible repeat (first | refine blk_drewN ?_ _ | refine blk_drew ?_ | refine blk_alloc ?_ _)); refine blk_put (cs := #[.int .i64 t158, .int .i64 t159, .int .i64 t160, .int .i64 t161, .int .i64 t162, .int .i64 t163, .bool t164, .int .i64 t165, .int .u32 0, .int .u32 0]) ?_ 8 _ rfl; (with_reducible repeat (first | refine blk_drewN ?_ _ | refine blk_drew ?_ | refine blk_alloc ?_ _)); refine blk_put (cs := #[.int .i64 t158, .int .i64 t159, .int .i64 t160, .int .i64 t161, .int .i64 t162, .int .i64 t163, .bool t164, .int .i64 0, .int .u32 0, .int .u32 0]) ?_ 7 _ rfl; (with_reducible repeat (first | refine blk_drewN ?_ _ | refine blk_drew ?_ | refine blk_alloc ?_ _)); refine blk_put (cs := #[.int .i64 t158, .int .i64 t159, .int .i64 t160, .int .i64 t161, .int .i64 t162, .int .i64 t163, .bool false, .int .i64 0, .int .u32 0, .int .u32 0]) ?_ 6 _ rfl; (with_reducible repeat (first | refine blk_drewN ?_ _ | refine blk_drew ?_ | refine blk_alloc ?_ _)); refine blk_put (cs := #[.int .i64 t158, .int .i64 t159, .int .i64 t160, .int .i64 t161, .int .i64 t162, .int .i64 0, .bool false, .int .i64 0, .int .u32 0, .int .u32 0]) ?_ 5 _ rfl; (with_reducible repeat (first | refine blk_drewN ?_ _ | refine blk_drew ?_ | refine blk_alloc ?_ _)); refine blk_put (cs := #[.int .i64 t158, .int .i64 t159, .int .i64 t160, .int .i64 t161, .int .i64 0, .int .i64 0, .bool false, .int .i64 0, .int .u32 0, .int .u32 0]) ?_ 4 _ rfl; (with_reducible repeat (first | refine blk_drewN ?_ _ | refine blk_drew ?_ | refine blk_alloc ?_ _)); refine blk_put (cs := #[.int .i64 t158, .int .i64 t159, .int .i64 t160, .int .i64 0, .int .i64 0, .int .i64 0, .bool false, .int .i64 0, .int .u32 0, .int .u32 0]) ?_ 3 _ rfl; (with_reducible repeat (first | refine blk_drewN ?_ _ | refine blk_drew ?_ | refine blk_alloc ?_ _)); refine blk_put (cs := #[.int .i64 t158, .int .i64 t159, .int .i64 0, .int .i64 0, .int .i64 0, .int .i64 0, .bool false, .int .i64 0, .int .u32 0, .int .u32 0]) ?_ 2 _ rfl; (with_reducible repeat (first | refine blk_drewN ?_ _ | refine blk_drew ?_ | refine blk_alloc ?_ _)); refine blk_put (cs := #[.int .i64 t158, .int .i64 0, .int .i64 0, .int .i64 0, .int .i64 0, .int .i64 0, .bool false, .int .i64 0, .int .u32 0, .int .u32 0]) ?_ 1 _ rfl; (with_reducible repeat (first | refine blk_drewN ?_ _ | refine blk_drew ?_ | refine blk_alloc ?_ _)); refine blk_put (cs := #[.int .i64 0, .int .i64 0, .int .i64 0, .int .i64 0, .int .i64 0, .int .i64 0, .bool false, .int .i64 0, .int .u32 0, .int .u32 0]) ?_ 0 _ rfl; (with_reducible repeat (first | refine blk_drewN ?_ _ | refine blk_drew ?_ | refine blk_alloc ?_ _)); exact BK169.out), Q_X8_, Q_X9_⟩
          exact steps_nil
        rintro b a w189 hall ⟨gb168, gb169, m8_, m9_, ha, Q_HO145, Q_BK139, Q_HB, Q_NB169_168, Q_NB168_169, Q_BK168, Q_GW168, Q_GE168, Q_NB139_168, Q_NB168_139, Q_BK169, Q_GW169, Q_GE169, Q_NB139_169, Q_NB169_139, Q_BK168_e10, Q_BK169_e11, Q_X8_, Q_X9_⟩
        clear BK139 HB HO145
        have hb1_ := hall 1 (by kernel_rfl)
        have hb2_ := hall 2 (by kernel_rfl)
        have hb3_ := hall 3 (by kernel_rfl)
        have hb5_ := hall 5 (by kernel_rfl)
        have hb6_ := hall 6 (by kernel_rfl)
        have hb7_ := hall 7 (by kernel_rfl)
        have hb8_ := hall 8 (by kernel_rfl)
        have hb9_ := hall 9 (by kernel_rfl)
        have hb10_ := hall 10 (by kernel_rfl)
        have hb11_ := hall 11 (by kernel_rfl)
        subst ha
        obtain rfl := Q_X8_ hb8_
        obtain rfl := Q_X9_ hb9_
        simp only [putSel, hb1_, hb2_, hb3_, hb5_, hb6_, hb7_, hb8_, hb9_, hb10_, hb11_, if_true, Act.put, List.setIfInBounds_toArray, List.set_cons_zero, List.set_cons_succ]
        have HO145 := Aside0.mk Q_HO145
        clear Q_HO145
        have BK139 := Aside0.mk Q_BK139
        clear Q_BK139
        have HB := Aside0.mk Q_HB
        clear Q_HB
        have NB169_168 := Aside0.mk (Q_NB169_168 hb8_ hb9_)
        clear Q_NB169_168
        have NB168_169 := Aside0.mk (Q_NB168_169 hb8_ hb9_)
        clear Q_NB168_169
        clear Q_BK168
        have GW168 := Aside0.mk (Q_GW168 hb8_)
        clear Q_GW168
        have GE168 := Aside0.mk (Q_GE168 hb8_)
        clear Q_GE168
        have NB139_168 := Aside0.mk (Q_NB139_168 hb8_)
        clear Q_NB139_168
        have NB168_139 := Aside0.mk (Q_NB168_139 hb8_)
        clear Q_NB168_139
        clear Q_BK169
        have GW169 := Aside0.mk (Q_GW169 hb9_)
        clear Q_GW169
        have GE169 := Aside0.mk (Q_GE169 hb9_)
        clear Q_GE169
        have NB139_169 := Aside0.mk (Q_NB139_169 hb9_)
        clear Q_NB139_169
        have NB169_139 := Aside0.mk (Q_NB169_139 hb9_)
        clear Q_NB169_139
        have BK168 := Aside0.mk (Q_BK168_e10 hb10_)
        clear Q_BK168_e10
        have BK169 := Aside0.mk (Q_BK169_e11 hb11_)
        clear Q_BK169_e11
        clear hall hb1_ hb2_ hb3_ hb5_ hb6_ hb7_ hb8_ hb9_ hb10_ hb11_
        have H := HAH.out
        clear HAH
        by_cases c10 : t147 = 2
        · rw [if_pos c10] at H
          have c10b0 : (t147 == 2) = true := beq_iff_eq.mpr c10
          have c10b1 : (t147 != 2) = false := bne_eq_false_iff_eq.mpr c10
          clear c10
          by_cases c11 : t153 = true
          · subst c11
            have H1 : (some (0, 0, 0, 3)) = some (r1, r2, r3, r4) := by rw [if_pos rfl] at H; exact H
            clear H
            have H := H1
            clear H1
            simp only [Option.some.injEq, Prod.mk.injEq] at H
            obtain ⟨rfl, rfl, rfl, rfl⟩ := H
            have hnb42 := NB168_139.out
            have hnc42 := NB139_168.out
            have hnb43 := NB168_169.out
            have hnc43 := NB169_168.out
            have hcz44_0 : w189.cell? ⟨gb168, 0, none⟩ = some (.int .i64 t147) := (blk_cell BK168.out 0).trans rfl
            have hcz44_1 : w189.cell? ⟨gb168, 1, none⟩ = some (.int .i64 t148) := (blk_cell BK168.out 1).trans rfl
            have hcz44_2 : w189.cell? ⟨gb168, 2, none⟩ = some (.int .i64 t149) := (blk_cell BK168.out 2).trans rfl
            have hcz44_3 : w189.cell? ⟨gb168, 3, none⟩ = some (.int .i64 t150) := (blk_cell BK168.out 3).trans rfl
            have hcz44_4 : w189.cell? ⟨gb168, 4, none⟩ = some (.int .i64 t151) := (blk_cell BK168.out 4).trans rfl
            have hcz44_5 : w189.cell? ⟨gb168, 5, none⟩ = some (.int .i64 t152) := (blk_cell BK168.out 5).trans rfl
            have hcz44_6 : w189.cell? ⟨gb168, 6, none⟩ = some (.bool true) := (blk_cell BK168.out 6).trans rfl
            have hcz44_7 : w189.cell? ⟨gb168, 7, none⟩ = some (.int .i64 t154) := (blk_cell BK168.out 7).trans rfl
            have hcz44_8 : w189.cell? ⟨gb168, 8, none⟩ = some (.int .u32 t155) := (blk_cell BK168.out 8).trans rfl
            have hcz44_9 : w189.cell? ⟨gb168, 9, none⟩ = some (.int .u32 t156) := (blk_cell BK168.out 9).trans rfl
            have hfz44_0 := blk_frozen BK168.out 0
            have hfz44_1 := blk_frozen BK168.out 1
            have hfz44_2 := blk_frozen BK168.out 2
            have hfz44_3 := blk_frozen BK168.out 3
            have hfz44_4 := blk_frozen BK168.out 4
            have hfz44_5 := blk_frozen BK168.out 5
            have hfz44_6 := blk_frozen BK168.out 6
            have hfz44_7 := blk_frozen BK168.out 7
            have hfz44_8 := blk_frozen BK168.out 8
            have hfz44_9 := blk_frozen BK168.out 9
            have hnb45 := NB139_169.out
            have hnc45 := NB169_139.out
            have hcz46_0 : w189.cell? ⟨gb139, 0, none⟩ = some (.int .u64 0) := (blk_cell BK139.out 0).trans rfl
            have hcz46_1 : w189.cell? ⟨gb139, 1, none⟩ = some (.int .i64 0) := (blk_cell BK139.out 1).trans rfl
            have hcz46_2 : w189.cell? ⟨gb139, 2, none⟩ = some (.int .i64 0) := (blk_cell BK139.out 2).trans rfl
            have hfz46_0 := blk_frozen BK139.out 0
            have hfz46_1 := blk_frozen BK139.out 1
            have hfz46_2 := blk_frozen BK139.out 2
            try go_wp2
            refine bodyPost_ret (results_ct rfl _ _ gb139 60 #[.int .u64 0, .int .i64 0, .int .i64 0] (0, 0) _ rfl (by (with_reducible repeat (first | refine blk_drewN ?_ _ | refine blk_drew ?_ | refine blk_alloc ?_ _)); refine blk_put (cs := #[.int .u64 0, .int .i64 0, .int .i64 0]) ?_ 2 _ rfl; (with_reducible repeat (first | refine blk_drewN ?_ _ | refine blk_drew ?_ | refine blk_alloc ?_ _)); refine blk_put (cs := #[.int .u64 0, .int .i64 0, .int .i64 0]) ?_ 1 _ rfl; (with_reducible repeat (first | refine blk_drewN ?_ _ | refine blk_drew ?_ | refine blk_alloc ?_ _)); refine blk_put (cs := #[.int .u64 0, .int .i64 0, .int .i64 0]) ?_ 0 _ rfl; (with_reducible repeat (first | refine blk_drewN ?_ _ | refine blk_drew ?_ | refine blk_alloc ?_ _)); exact BK139.out) Tryd.underlying60 rfl (by kernel_rfl)) rfl ?_
            exact ⟨by first | rfl | (simp [errW_none, errW_some] <;> rfl) | (simp [*, errW_none, errW_some] <;> rfl), by repeat (first | (with_reducible first | exact HB.out | apply below_alloc | apply pw_below_drewN | apply below_drew1 | refine below_set ?_ GE139.out | refine below_set ?_ GE168.out | refine below_set ?_ GE169.out) | exact HB.out)⟩
          · replace c11 := Bool.eq_false_iff.mpr c11
            subst c11
            have H1 : (if t158 > 1 then (some (0, 0, 0, 3)) else (if t159 = 0 then (some (rd t142 1, wrap64 (t155), t154, 0)) else (some (0, 0, 0, 3)))) = some (r1, r2, r3, r4) := by rw [if_neg (show ¬ (false = true) by decide)] at H; exact H
            clear H
            have H := H1
            clear H1
            by_cases c47 : t158 > 1
            · rw [if_pos c47] at H
              have c47b0 : decide (1 < t158) = true := decide_eq_true c47
              clear c47
              simp only [Option.some.injEq, Prod.mk.injEq] at H
              obtain ⟨rfl, rfl, rfl, rfl⟩ := H
              have hnb78 := NB168_139.out
              have hnc78 := NB139_168.out
              have hnb79 := NB168_169.out
              have hnc79 := NB169_168.out
              have hcz80_0 : w189.cell? ⟨gb168, 0, none⟩ = some (.int .i64 t147) := (blk_cell BK168.out 0).trans rfl
              have hcz80_1 : w189.cell? ⟨gb168, 1, none⟩ = some (.int .i64 t148) := (blk_cell BK168.out 1).trans rfl
              have hcz80_2 : w189.cell? ⟨gb168, 2, none⟩ = some (.int .i64 t149) := (blk_cell BK168.out 2).trans rfl
              have hcz80_3 : w189.cell? ⟨gb168, 3, none⟩ = some (.int .i64 t150) := (blk_cell BK168.out 3).trans rfl
              have hcz80_4 : w189.cell? ⟨gb168, 4, none⟩ = some (.int .i64 t151) := (blk_cell BK168.out 4).trans rfl
              have hcz80_5 : w189.cell? ⟨gb168, 5, none⟩ = some (.int .i64 t152) := (blk_cell BK168.out 5).trans rfl
              have hcz80_6 : w189.cell? ⟨gb168, 6, none⟩ = some (.bool false) := (blk_cell BK168.out 6).trans rfl
              have hcz80_7 : w189.cell? ⟨gb168, 7, none⟩ = some (.int .i64 t154) := (blk_cell BK168.out 7).trans rfl
              have hcz80_8 : w189.cell? ⟨gb168, 8, none⟩ = some (.int .u32 t155) := (blk_cell BK168.out 8).trans rfl
              have hcz80_9 : w189.cell? ⟨gb168, 9, none⟩ = some (.int .u32 t156) := (blk_cell BK168.out 9).trans rfl
              have hfz80_0 := blk_frozen BK168.out 0
              have hfz80_1 := blk_frozen BK168.out 1
              have hfz80_2 := blk_frozen BK168.out 2
              have hfz80_3 := blk_frozen BK168.out 3
              have hfz80_4 := blk_frozen BK168.out 4
              have hfz80_5 := blk_frozen BK168.out 5
              have hfz80_6 := blk_frozen BK168.out 6
              have hfz80_7 := blk_frozen BK168.out 7
              have hfz80_8 := blk_frozen BK168.out 8
              have hfz80_9 := blk_frozen BK168.out 9
              have hnb81 := NB169_139.out
              have hnc81 := NB139_169.out
              have hcz82_0 : w189.cell? ⟨gb169, 0, none⟩ = some (.int .i64 t158) := (blk_cell BK169.out 0).trans rfl
              have hcz82_1 : w189.cell? ⟨gb169, 1, none⟩ = some (.int .i64 t159) := (blk_cell BK169.out 1).trans rfl
              have hcz82_2 : w189.cell? ⟨gb169, 2, none⟩ = some (.int .i64 t160) := (blk_cell BK169.out 2).trans rfl
              have hcz82_3 : w189.cell? ⟨gb169, 3, none⟩ = some (.int .i64 t161) := (blk_cell BK169.out 3).trans rfl
              have hcz82_4 : w189.cell? ⟨gb169, 4, none⟩ = some (.int .i64 t162) := (blk_cell BK169.out 4).trans rfl
              have hcz82_5 : w189.cell? ⟨gb169, 5, none⟩ = some (.int .i64 t163) := (blk_cell BK169.out 5).trans rfl
              have hcz82_6 : w189.cell? ⟨gb169, 6, none⟩ = some (.bool t164) := (blk_cell BK169.out 6).trans rfl
              have hcz82_7 : w189.cell? ⟨gb169, 7, none⟩ = some (.int .i64 t165) := (blk_cell BK169.out 7).trans rfl
              have hcz82_8 : w189.cell? ⟨gb169, 8, none⟩ = some (.int .u32 t166) := (blk_cell BK169.out 8).trans rfl
              have hcz82_9 : w189.cell? ⟨gb169, 9, none⟩ = some (.int .u32 t167) := (blk_cell BK169.out 9).trans rfl
              have hfz82_0 := blk_frozen BK169.out 0
              have hfz82_1 := blk_frozen BK169.out 1
              have hfz82_2 := blk_frozen BK169.out 2
              have hfz82_3 := blk_frozen BK169.out 3
              have hfz82_4 := blk_frozen BK169.out 4
              have hfz82_5 := blk_frozen BK169.out 5
              have hfz82_6 := blk_frozen BK169.out 6
              have hfz82_7 := blk_frozen BK169.out 7
              have hfz82_8 := blk_frozen BK169.out 8
              have hfz82_9 := blk_frozen BK169.out 9
              have hcz83_0 : w189.cell? ⟨gb139, 0, none⟩ = some (.int .u64 0) := (blk_cell BK139.out 0).trans rfl
              have hcz83_1 : w189.cell? ⟨gb139, 1, none⟩ = some (.int .i64 0) := (blk_cell BK139.out 1).trans rfl
              have hcz83_2 : w189.cell? ⟨gb139, 2, none⟩ = some (.int .i64 0) := (blk_cell BK139.out 2).trans rfl
              have hfz83_0 := blk_frozen BK139.out 0
              have hfz83_1 := blk_frozen BK139.out 1
              have hfz83_2 := blk_frozen BK139.out 2
              try go_wp2
              refine bodyPost_ret (results_ct rfl _ _ gb139 60 #[.int .u64 0, .int .i64 0, .int .i64 0] (0, 0) _ rfl (by (with_reducible repeat (first | refine blk_drewN ?_ _ | refine blk_drew ?_ | refine blk_alloc ?_ _)); refine blk_put (cs := #[.int .u64 0, .int .i64 0, .int .i64 0]) ?_ 2 _ rfl; (with_reducible repeat (first | refine blk_drewN ?_ _ | refine blk_drew ?_ | refine blk_alloc ?_ _)); refine blk_put (cs := #[.int .u64 0, .int .i64 0, .int .i64 0]) ?_ 1 _ rfl; (with_reducible repeat (first | refine blk_drewN ?_ _ | refine blk_drew ?_ | refine blk_alloc ?_ _)); refine blk_put (cs := #[.int .u64 0, .int .i64 0, .int .i64 0]) ?_ 0 _ rfl; (with_reducible repeat (first | refine blk_drewN ?_ _ | refine blk_drew ?_ | refine blk_alloc ?_ _)); exact BK139.out) Tryd.underlying60 rfl (by kernel_rfl)) rfl ?_
              exact ⟨by first | rfl | (simp [errW_none, errW_some] <;> rfl) | (simp [*, errW_none, errW_some] <;> rfl), by repeat (first | (with_reducible first | exact HB.out | apply below_alloc | apply pw_below_drewN | apply below_drew1 | refine below_set ?_ GE139.out | refine below_set ?_ GE168.out | refine below_set ?_ GE169.out) | exact HB.out)⟩
            · rw [if_neg c47] at H
              have c47b0 : decide (1 < t158) = false := decide_eq_false c47
              clear c47
              by_cases c84 : t159 = 0
              · rw [if_pos c84] at H
                have c84b0 : (t159 == 0) = true := beq_iff_eq.mpr c84
                have c84b1 : (t159 != 0) = false := bne_eq_false_iff_eq.mpr c84
                clear c84
                simp only [Option.some.injEq, Prod.mk.injEq] at H
                obtain ⟨rfl, rfl, rfl, rfl⟩ := H
                have hnb115 := NB168_139.out
                have hnc115 := NB139_168.out
                have hnb116 := NB168_169.out
                have hnc116 := NB169_168.out
                have hcz117_0 : w189.cell? ⟨gb168, 0, none⟩ = some (.int .i64 t147) := (blk_cell BK168.out 0).trans rfl
                have hcz117_1 : w189.cell? ⟨gb168, 1, none⟩ = some (.int .i64 t148) := (blk_cell BK168.out 1).trans rfl
                have hcz117_2 : w189.cell? ⟨gb168, 2, none⟩ = some (.int .i64 t149) := (blk_cell BK168.out 2).trans rfl
                have hcz117_3 : w189.cell? ⟨gb168, 3, none⟩ = some (.int .i64 t150) := (blk_cell BK168.out 3).trans rfl
                have hcz117_4 : w189.cell? ⟨gb168, 4, none⟩ = some (.int .i64 t151) := (blk_cell BK168.out 4).trans rfl
                have hcz117_5 : w189.cell? ⟨gb168, 5, none⟩ = some (.int .i64 t152) := (blk_cell BK168.out 5).trans rfl
                have hcz117_6 : w189.cell? ⟨gb168, 6, none⟩ = some (.bool false) := (blk_cell BK168.out 6).trans rfl
                have hcz117_7 : w189.cell? ⟨gb168, 7, none⟩ = some (.int .i64 t154) := (blk_cell BK168.out 7).trans rfl
                have hcz117_8 : w189.cell? ⟨gb168, 8, none⟩ = some (.int .u32 t155) := (blk_cell BK168.out 8).trans rfl
                have hcz117_9 : w189.cell? ⟨gb168, 9, none⟩ = some (.int .u32 t156) := (blk_cell BK168.out 9).trans rfl
                have hfz117_0 := blk_frozen BK168.out 0
                have hfz117_1 := blk_frozen BK168.out 1
                have hfz117_2 := blk_frozen BK168.out 2
                have hfz117_3 := blk_frozen BK168.out 3
                have hfz117_4 := blk_frozen BK168.out 4
                have hfz117_5 := blk_frozen BK168.out 5
                have hfz117_6 := blk_frozen BK168.out 6
                have hfz117_7 := blk_frozen BK168.out 7
                have hfz117_8 := blk_frozen BK168.out 8
                have hfz117_9 := blk_frozen BK168.out 9
                have hnb118 := NB169_139.out
                have hnc118 := NB139_169.out
                have hcz119_0 : w189.cell? ⟨gb169, 0, none⟩ = some (.int .i64 t158) := (blk_cell BK169.out 0).trans rfl
                have hcz119_1 : w189.cell? ⟨gb169, 1, none⟩ = some (.int .i64 t159) := (blk_cell BK169.out 1).trans rfl
                have hcz119_2 : w189.cell? ⟨gb169, 2, none⟩ = some (.int .i64 t160) := (blk_cell BK169.out 2).trans rfl
                have hcz119_3 : w189.cell? ⟨gb169, 3, none⟩ = some (.int .i64 t161) := (blk_cell BK169.out 3).trans rfl
                have hcz119_4 : w189.cell? ⟨gb169, 4, none⟩ = some (.int .i64 t162) := (blk_cell BK169.out 4).trans rfl
                have hcz119_5 : w189.cell? ⟨gb169, 5, none⟩ = some (.int .i64 t163) := (blk_cell BK169.out 5).trans rfl
                have hcz119_6 : w189.cell? ⟨gb169, 6, none⟩ = some (.bool t164) := (blk_cell BK169.out 6).trans rfl
                have hcz119_7 : w189.cell? ⟨gb169, 7, none⟩ = some (.int .i64 t165) := (blk_cell BK169.out 7).trans rfl
                have hcz119_8 : w189.cell? ⟨gb169, 8, none⟩ = some (.int .u32 t166) := (blk_cell BK169.out 8).trans rfl
                have hcz119_9 : w189.cell? ⟨gb169, 9, none⟩ = some (.int .u32 t167) := (blk_cell BK169.out 9).trans rfl
                have hfz119_0 := blk_frozen BK169.out 0
                have hfz119_1 := blk_frozen BK169.out 1
                have hfz119_2 := blk_frozen BK169.out 2
                have hfz119_3 := blk_frozen BK169.out 3
                have hfz119_4 := blk_frozen BK169.out 4
                have hfz119_5 := blk_frozen BK169.out 5
                have hfz119_6 := blk_frozen BK169.out 6
                have hfz119_7 := blk_frozen BK169.out 7
                have hfz119_8 := blk_frozen BK169.out 8
                have hfz119_9 := blk_frozen BK169.out 9
                try go_wp2
                have n0_ := Aside0.mk (Kd.R_drew HO145.out)
                have n1_ := Aside0.mk (blk_drew BK139.out)
                have n2_ := Aside0.mk (blk_drew BK168.out)
                have n3_ := Aside0.mk (blk_drew BK169.out)
                have n4_ := Aside0.mk (below_drew1 HB.out)
                clear HO145
                clear BK139
                clear BK168
                clear BK169
                clear HB
                have HO145 := n0_
                have BK139 := n1_
                have BK168 := n2_
                have BK169 := n3_
                have HB := n4_
                clear n0_ n1_ n2_ n3_ n4_
                have p170 : 0 ≤ (1 : Int) := (by omega)
                have q170 : 1 < (t142.length : Int) := of_decide_eq_true (by first | (with_reducible assumption) | assumption)
                obtain ⟨ad170, e170, hx170_0⟩ := Kd.at_int (Kd.R_reads' HO145.out).2.2 1 p170 q170
                obtain rfl : ad146 = ad170 := (by injection e170)
                (try simp only [show (1 : Int).toNat = 1 from rfl, Nat.reduceMul, Nat.reduceEqDiff, Go.Addr.add, ↓reduceIte] at hx170_0)
                have qi170 : (1 < t142.length) = True := eq_true (by omega)
                (try rw [show ((1 : Int)).toNat = 1 from rfl] at hx170_0)
                replace p170 := eq_true p170
                replace q170 := eq_true q170
                refine start_ (n := 11) (S := fun w' => w'.cell? ⟨gb168, 0, none⟩ = some (.int .i64 t147) ∧ w'.cell? ⟨gb168, 1, none⟩ = some (.int .i64 t148) ∧ w'.cell? ⟨gb168, 2, none⟩ = some (.int .i64 t149) ∧ w'.cell? ⟨gb168, 3, none⟩ = some (.int .i64 t150) ∧ w'.cell? ⟨gb168, 4, none⟩ = some (.int .i64 t151) ∧ w'.cell? ⟨gb168, 5, none⟩ = some (.int .i64 t152) ∧ w'.cell? ⟨gb168, 6, none⟩ = some (.bool false) ∧ w'.cell? ⟨gb168, 7, none⟩ = some (.int .i64 t154) ∧ w'.cell? ⟨gb168, 8, none⟩ = some (.int .u32 t155) ∧ w'.cell? ⟨gb168, 9, none⟩ = some (.int .u32 t156) ∧ w'.cell? ⟨ad146.block, ad146.off + 1, none⟩ = some (.int .u64 (rd t142 1))) (ds := []) #[false, false, false, false, false, false, false, false, false, false, false] (by kernel_rfl) rfl rfl ⟨(blk_cell BK168.out 0).trans rfl, (blk_cell BK168.out 1).trans rfl, (blk_cell BK168.out 2).trans rfl, (blk_cell BK168.out 3).trans rfl, (blk_cell BK168.out 4).trans rfl, (blk_cell BK168.out 5).trans rfl, (blk_cell BK168.out 6).trans rfl, (blk_cell BK168.out 7).trans rfl, (blk_cell BK168.out 8).trans rfl, (blk_cell BK168.out 9).trans rfl, hx170_0⟩ (fun hHeld => ?_); refine with_tabW far_double.tab8 far_double.bits8 (fun HT_ HW_ => ?_)
                generalize w189.drew = w120 at HO145 BK139 BK168 BK169 HB hx170_0 hHeld ⊢
                refine pure_ (i := 0) (N := some 53) (v := ?_) (a' := ?_) #[true, false, false, false, false, false, false, false, false, false, false] rfl rfl (any_of HT_.out (by kernel_rfl)) (fun _ _ _ h => h) (Or.inl ⟨by rfl, ?_⟩) ?_ ?_
                rotate_left
                · intro w'
                  go_simp
                  with_reducible rfl
                rotate_left
                · simp only [Act.put, List.setIfInBounds_toArray, List.set_cons_zero, List.set_cons_succ, i64_w, i32_w]
                  rfl
                refine pure_ (i := 1) (N := some 54) (v := ?_) (a' := ?_) #[true, true, false, false, false, false, false, false, false, false, false] rfl rfl (any_of HT_.out (by kernel_rfl)) (fun _ _ _ h => h) (Or.inl ⟨by rfl, ?_⟩) ?_ ?_
                rotate_left
                · intro w'
                  go_simp
                  with_reducible rfl
                rotate_left
                · simp only [Act.put, List.setIfInBounds_toArray, List.set_cons_zero, List.set_cons_succ, i64_w, i32_w]
                  rfl
                refine pure_ (i := 3) (N := some 56) (v := ?_) (a' := ?_) #[true, true, false, true, false, false, false, false, false, false, false] rfl rfl (any_of HT_.out (by kernel_rfl)) (fun _ _ _ h => h) (Or.inl ⟨by rfl, ?_⟩) ?_ ?_
                rotate_left
                · intro w'
                  go_simp
                  with_reducible rfl
                rotate_left
                · simp only [Act.put, List.setIfInBounds_toArray, List.set_cons_zero, List.set_cons_succ, i64_w, i32_w]
                  rfl
                refine pure_ (i := 6) (N := some 59) (v := ?_) (a' := ?_) #[true, true, false, true, false, false, true, false, false, false, false] rfl rfl (any_of HT_.out (by kernel_rfl)) (fun _ _ _ h => h) (Or.inl ⟨by rfl, ?_⟩) ?_ ?_
                rotate_left
                · intro w'
                  go_simp
                  with_reducible rfl
                rotate_left
                · simp only [Act.put, List.setIfInBounds_toArray, List.set_cons_zero, List.set_cons_succ, i64_w, i32_w]
                  rfl
                refine take_ (i := 2) (N := some 55) (v := ?_) (a' := ?_) #[true, true, true, true, false, false, true, false, false, false, false] rfl rfl (take_ofW HT_.out HW_.out (by kernel_rfl)) (fun _ _ _ h => h) (Or.inl ⟨by rfl, ?_⟩) hHeld ?_ ?_
                rotate_left
                · rintro w' ⟨s0, s1, s2, s3, s4, s5, s6, s7, s8, s9, s10⟩
                  go_simp
                  with_reducible rfl
                rotate_left
                · simp only [Act.put, List.setIfInBounds_toArray, List.set_cons_zero, List.set_cons_succ, i64_w, i32_w]
                  rfl
                refine take_ (i := 4) (N := some 57) (v := ?_) (a' := ?_) #[true, true, true, true, true, false, true, false, false, false, false] rfl rfl (take_ofW HT_.out HW_.out (by kernel_rfl)) (fun _ _ _ h => h) (Or.inl ⟨by rfl, ?_⟩) hHeld ?_ ?_
                rotate_left
                · rintro w' ⟨s0, s1, s2, s3, s4, s5, s6, s7, s8, s9, s10⟩
                  go_simp
                  with_reducible rfl
                rotate_left
                · simp only [Act.put, List.setIfInBounds_toArray, List.set_cons_zero, List.set_cons_succ, i64_w, i32_w]
                  rfl
                refine pure_ (i := 5) (N := some 58) (v := ?_) (a' := ?_) #[true, true, true, true, true, true, true, false, false, false, false] rfl rfl (any_of HT_.out (by kernel_rfl)) (fun _ _ _ h => h) (Or.inl ⟨by rfl, ?_⟩) ?_ ?_
                rotate_left
                · intro w'
                  go_simp
                  with_reducible rfl
                rotate_left
                · simp only [Act.put, List.setIfInBounds_toArray, List.set_cons_zero, List.set_cons_succ, i64_w, i32_w]
                  rfl
                refine take_ (i := 7) (N := some 60) (v := ?_) (a' := ?_) #[true, true, true, true, true, true, true, true, false, false, false] rfl rfl (take_ofW HT_.out HW_.out (by kernel_rfl)) (fun _ _ _ h => h) (Or.inl ⟨by rfl, ?_⟩) hHeld ?_ ?_
                rotate_left
                · rintro w' ⟨s0, s1, s2, s3, s4, s5, s6, s7, s8, s9, s10⟩
                  go_simp
                  with_reducible rfl
                rotate_left
                · simp only [Act.put, List.setIfInBounds_toArray, List.set_cons_zero, List.set_cons_succ, i64_w, i32_w]
                  rfl
                refine pure_ (i := 8) (N := some 61) (v := ?_) (a' := ?_) #[true, true, true, true, true, true, true, true, true, false, false] rfl rfl (any_of HT_.out (by kernel_rfl)) (fun _ _ _ h => h) (Or.inl ⟨by rfl, ?_⟩) ?_ ?_
                rotate_left
                · intro w'
                  go_simp
                  with_reducible rfl
                rotate_left
                · simp only [Act.put, List.setIfInBounds_toArray, List.set_cons_zero, List.set_cons_succ, i64_w, i32_w]
                  rfl
                refine one_ (i := 9) (N := none) #[true, true, true, true, true, true, true, true, true, true, false] rfl rfl (one_of HT_.out (by kernel_rfl)) (by decide) (fun K hK => ?_)
                have hs121 : w120.cell? ⟨gb139, 0, none⟩ = some (.int .u64 0) := (blk_cell BK139.out 0).trans rfl
                have hfs121 := blk_frozen BK139.out 0
                have hns121_1 := NB168_139.out
                have hns121_2 := NB169_139.out
                have hms121_1 := NB139_168.out
                have hms121_2 := NB139_169.out
                have hs122 : w120.cell? ⟨gb139, 1, none⟩ = some (.int .i64 0) := (blk_cell BK139.out 1).trans rfl
                have hfs122 := blk_frozen BK139.out 1
                have hns122_1 := NB168_139.out
                have hns122_2 := NB169_139.out
                have hms122_1 := NB139_168.out
                have hms122_2 := NB139_169.out
                have hs123 : w120.cell? ⟨gb139, 2, none⟩ = some (.int .i64 0) := (blk_cell BK139.out 2).trans rfl
                have hfs123 := blk_frozen BK139.out 2
                have hns123_1 := NB168_139.out
                have hns123_2 := NB169_139.out
                have hms123_1 := NB139_168.out
                have hms123_2 := NB139_169.out
                refine skip_ (w1 := ?_) (by rfl) rfl ?_ ?_
                rotate_left
                · go_simp
                  rfl
                refine hK.out _ _ ⟨((cell_far (p := ⟨gb139, _, none⟩) NB168_139.out _).trans (((cell_far (p := ⟨gb139, _, none⟩) NB168_139.out _).trans (((cell_far (p := ⟨gb139, _, none⟩) NB168_139.out _).trans (hHeld.1)))))), ((cell_far (p := ⟨gb139, _, none⟩) NB168_139.out _).trans (((cell_far (p := ⟨gb139, _, none⟩) NB168_139.out _).trans (((cell_far (p := ⟨gb139, _, none⟩) NB168_139.out _).trans (hHeld.2.1)))))), ((cell_far (p := ⟨gb139, _, none⟩) NB168_139.out _).trans (((cell_far (p := ⟨gb139, _, none⟩) NB168_139.out _).trans (((cell_far (p := ⟨gb139, _, none⟩) NB168_139.out _).trans (hHeld.2.2.1)))))), ((cell_far (p := ⟨gb139, _, none⟩) NB168_139.out _).trans (((cell_far (p := ⟨gb139, _, none⟩) NB168_139.out _).trans (((cell_far (p := ⟨gb139, _, none⟩) NB168_139.out _).trans (hHeld.2.2.2.1)))))), ((cell_far (p := ⟨gb139, _, none⟩) NB168_139.out _).trans (((cell_far (p := ⟨gb139, _, none⟩) NB168_139.out _).trans (((cell_far (p := ⟨gb139, _, none⟩) NB168_139.out _).trans (hHeld.2.2.2.2.1)))))), ((cell_far (p := ⟨gb139, _, none⟩) NB168_139.out _).trans (((cell_far (p := ⟨gb139, _, none⟩) NB168_139.out _).trans (((cell_far (p := ⟨gb139, _, none⟩) NB168_139.out _).trans (hHeld.2.2.2.2.2.1)))))), ((cell_far (p := ⟨gb139, _, none⟩) NB168_139.out _).trans (((cell_far (p := ⟨gb139, _, none⟩) NB168_139.out _).trans (((cell_far (p := ⟨gb139, _, none⟩) NB168_139.out _).trans (hHeld.2.2.2.2.2.2.1)))))), ((cell_far (p := ⟨gb139, _, none⟩) NB168_139.out _).trans (((cell_far (p := ⟨gb139, _, none⟩) NB168_139.out _).trans (((cell_far (p := ⟨gb139, _, none⟩) NB168_139.out _).trans (hHeld.2.2.2.2.2.2.2.1)))))), ((cell_far (p := ⟨gb139, _, none⟩) NB168_139.out _).trans (((cell_far (p := ⟨gb139, _, none⟩) NB168_139.out _).trans (((cell_far (p := ⟨gb139, _, none⟩) NB168_139.out _).trans (hHeld.2.2.2.2.2.2.2.2.1)))))), ((cell_far (p := ⟨gb139, _, none⟩) NB168_139.out _).trans (((cell_far (p := ⟨gb139, _, none⟩) NB168_139.out _).trans (((cell_far (p := ⟨gb139, _, none⟩) NB168_139.out _).trans (hHeld.2.2.2.2.2.2.2.2.2.1)))))), ((cell_far (p := ⟨gb139, _, none⟩) (by first | exact Kd.own_blk (Kd.R_ne HO145.out BK139.out (by decide)) | (rw [add_block]; exact Kd.own_blk (Kd.R_ne HO145.out BK139.out (by decide))) | (show (Addr.add _ _).block ≠ _; rw [add_block]; exact Kd.own_blk (Kd.R_ne HO145.out BK139.out (by decide))) | (dsimp only; exact Kd.own_blk (Kd.R_ne HO145.out BK139.out (by decide)))) _).trans (((cell_far (p := ⟨gb139, _, none⟩) (by first | exact Kd.own_blk (Kd.R_ne HO145.out BK139.out (by decide)) | (rw [add_block]; exact Kd.own_blk (Kd.R_ne HO145.out BK139.out (by decide))) | (show (Addr.add _ _).block ≠ _; rw [add_block]; exact Kd.own_blk (Kd.R_ne HO145.out BK139.out (by decide))) | (dsimp only; exact Kd.own_blk (Kd.R_ne HO145.out BK139.out (by decide)))) _).trans (((cell_far (p := ⟨gb139, _, none⟩) (by first | exact Kd.own_blk (Kd.R_ne HO145.out BK139.out (by decide)) | (rw [add_block]; exact Kd.own_blk (Kd.R_ne HO145.out BK139.out (by decide))) | (show (Addr.add _ _).block ≠ _; rw [add_block]; exact Kd.own_blk (Kd.R_ne HO145.out BK139.out (by decide))) | (dsimp only; exact Kd.own_blk (Kd.R_ne HO145.out BK139.out (by decide)))) _).trans (hHeld.2.2.2.2.2.2.2.2.2.2))))))⟩ (fun hHeld => ?_)
                clear hK K
                refine pure_ (i := 10) (N := some 5) (v := ?_) (a' := ?_) #[true, true, true, true, true, true, true, true, true, true, true] rfl rfl (any_of HT_.out (by kernel_rfl)) (fun _ _ _ h => h) (Or.inl ⟨by rfl, ?_⟩) ?_ ?_
                rotate_left
                · intro w'
                  go_simp
                  with_reducible rfl
                rotate_left
                · simp only [Act.put, List.setIfInBounds_toArray, List.set_cons_zero, List.set_cons_succ, i64_w, i32_w]
                  rfl
                refine done_ (done_of HT_.out (by kernel_rfl)) ?_
                try go_wp2
                refine bodyPost_ret (results_ct rfl _ _ gb139 60 #[.int .u64 (rd t142 1), .int .i64 (wrap64 (t155)), .int .i64 t154] (0, 0) _ rfl (by (with_reducible repeat (first | refine blk_drewN ?_ _ | refine blk_drew ?_ | refine blk_alloc ?_ _)); refine blk_put (cs := #[.int .u64 (rd t142 1), .int .i64 (wrap64 (t155)), .int .i64 0]) ?_ 2 _ rfl; (with_reducible repeat (first | refine blk_drewN ?_ _ | refine blk_drew ?_ | refine blk_alloc ?_ _)); refine blk_put (cs := #[.int .u64 (rd t142 1), .int .i64 0, .int .i64 0]) ?_ 1 _ rfl; (with_reducible repeat (first | refine blk_drewN ?_ _ | refine blk_drew ?_ | refine blk_alloc ?_ _)); refine blk_put (cs := #[.int .u64 0, .int .i64 0, .int .i64 0]) ?_ 0 _ rfl; (with_reducible repeat (first | refine blk_drewN ?_ _ | refine blk_drew ?_ | refine blk_alloc ?_ _)); exact BK139.out) Tryd.underlying60 rfl (by kernel_rfl)) rfl ?_
                exact ⟨by first | rfl | (simp [errW_none, errW_some] <;> rfl) | (simp [*, errW_none, errW_some] <;> rfl), by repeat (first | (with_reducible first | exact HB.out | apply below_alloc | apply pw_below_drewN | apply below_drew1 | refine below_set ?_ GE139.out | refine below_set ?_ GE168.out | refine below_set ?_ GE169.out) | exact HB.out)⟩
              · rw [if_neg c84] at H
                have c84b0 : (t159 == 0) = false := beq_eq_false_iff_ne.mpr c84
                have c84b1 : (t159 != 0) = true := bne_iff_ne.mpr c84
                simp only [Option.some.injEq, Prod.mk.injEq] at H
                obtain ⟨rfl, rfl, rfl, rfl⟩ := H
                have hnb154 := NB168_139.out
                have hnc154 := NB139_168.out
                have hnb155 := NB168_169.out
                have hnc155 := NB169_168.out
                have hcz156_0 : w189.cell? ⟨gb168, 0, none⟩ = some (.int .i64 t147) := (blk_cell BK168.out 0).trans rfl
                have hcz156_1 : w189.cell? ⟨gb168, 1, none⟩ = some (.int .i64 t148) := (blk_cell BK168.out 1).trans rfl
                have hcz156_2 : w189.cell? ⟨gb168, 2, none⟩ = some (.int .i64 t149) := (blk_cell BK168.out 2).trans rfl
                have hcz156_3 : w189.cell? ⟨gb168, 3, none⟩ = some (.int .i64 t150) := (blk_cell BK168.out 3).trans rfl
                have hcz156_4 : w189.cell? ⟨gb168, 4, none⟩ = some (.int .i64 t151) := (blk_cell BK168.out 4).trans rfl
                have hcz156_5 : w189.cell? ⟨gb168, 5, none⟩ = some (.int .i64 t152) := (blk_cell BK168.out 5).trans rfl
                have hcz156_6 : w189.cell? ⟨gb168, 6, none⟩ = some (.bool false) := (blk_cell BK168.out 6).trans rfl
                have hcz156_7 : w189.cell? ⟨gb168, 7, none⟩ = some (.int .i64 t154) := (blk_cell BK168.out 7).trans rfl
                have hcz156_8 : w189.cell? ⟨gb168, 8, none⟩ = some (.int .u32 t155) := (blk_cell BK168.out 8).trans rfl
                have hcz156_9 : w189.cell? ⟨gb168, 9, none⟩ = some (.int .u32 t156) := (blk_cell BK168.out 9).trans rfl
                have hfz156_0 := blk_frozen BK168.out 0
                have hfz156_1 := blk_frozen BK168.out 1
                have hfz156_2 := blk_frozen BK168.out 2
                have hfz156_3 := blk_frozen BK168.out 3
                have hfz156_4 := blk_frozen BK168.out 4
                have hfz156_5 := blk_frozen BK168.out 5
                have hfz156_6 := blk_frozen BK168.out 6
                have hfz156_7 := blk_frozen BK168.out 7
                have hfz156_8 := blk_frozen BK168.out 8
                have hfz156_9 := blk_frozen BK168.out 9
                have hnb157 := NB169_139.out
                have hnc157 := NB139_169.out
                have hcz158_0 : w189.cell? ⟨gb169, 0, none⟩ = some (.int .i64 t158) := (blk_cell BK169.out 0).trans rfl
                have hcz158_1 : w189.cell? ⟨gb169, 1, none⟩ = some (.int .i64 t159) := (blk_cell BK169.out 1).trans rfl
                have hcz158_2 : w189.cell? ⟨gb169, 2, none⟩ = some (.int .i64 t160) := (blk_cell BK169.out 2).trans rfl
                have hcz158_3 : w189.cell? ⟨gb169, 3, none⟩ = some (.int .i64 t161) := (blk_cell BK169.out 3).trans rfl
                have hcz158_4 : w189.cell? ⟨gb169, 4, none⟩ = some (.int .i64 t162) := (blk_cell BK169.out 4).trans rfl
                have hcz158_5 : w189.cell? ⟨gb169, 5, none⟩ = some (.int .i64 t163) := (blk_cell BK169.out 5).trans rfl
                have hcz158_6 : w189.cell? ⟨gb169, 6, none⟩ = some (.bool t164) := (blk_cell BK169.out 6).trans rfl
                have hcz158_7 : w189.cell? ⟨gb169, 7, none⟩ = some (.int .i64 t165) := (blk_cell BK169.out 7).trans rfl
                have hcz158_8 : w189.cell? ⟨gb169, 8, none⟩ = some (.int .u32 t166) := (blk_cell BK169.out 8).trans rfl
                have hcz158_9 : w189.cell? ⟨gb169, 9, none⟩ = some (.int .u32 t167) := (blk_cell BK169.out 9).trans rfl
                have hfz158_0 := blk_frozen BK169.out 0
                have hfz158_1 := blk_frozen BK169.out 1
                have hfz158_2 := blk_frozen BK169.out 2
                have hfz158_3 := blk_frozen BK169.out 3
                have hfz158_4 := blk_frozen BK169.out 4
                have hfz158_5 := blk_frozen BK169.out 5
                have hfz158_6 := blk_frozen BK169.out 6
                have hfz158_7 := blk_frozen BK169.out 7
                have hfz158_8 := blk_frozen BK169.out 8
                have hfz158_9 := blk_frozen BK169.out 9
                have hcz159_0 : w189.cell? ⟨gb139, 0, none⟩ = some (.int .u64 0) := (blk_cell BK139.out 0).trans rfl
                have hcz159_1 : w189.cell? ⟨gb139, 1, none⟩ = some (.int .i64 0) := (blk_cell BK139.out 1).trans rfl
                have hcz159_2 : w189.cell? ⟨gb139, 2, none⟩ = some (.int .i64 0) := (blk_cell BK139.out 2).trans rfl
                have hfz159_0 := blk_frozen BK139.out 0
                have hfz159_1 := blk_frozen BK139.out 1
                have hfz159_2 := blk_frozen BK139.out 2
                try go_wp2
                refine bodyPost_ret (results_ct rfl _ _ gb139 60 #[.int .u64 0, .int .i64 0, .int .i64 0] (0, 0) _ rfl (by (with_reducible repeat (first | refine blk_drewN ?_ _ | refine blk_drew ?_ | refine blk_alloc ?_ _)); refine blk_put (cs := #[.int .u64 0, .int .i64 0, .int .i64 0]) ?_ 2 _ rfl; (with_reducible repeat (first | refine blk_drewN ?_ _ | refine blk_drew ?_ | refine blk_alloc ?_ _)); refine blk_put (cs := #[.int .u64 0, .int .i64 0, .int .i64 0]) ?_ 1 _ rfl; (with_reducible repeat (first | refine blk_drewN ?_ _ | refine blk_drew ?_ | refine blk_alloc ?_ _)); refine blk_put (cs := #[.int .u64 0, .int .i64 0, .int .i64 0]) ?_ 0 _ rfl; (with_reducible repeat (first | refine blk_drewN ?_ _ | refine blk_drew ?_ | refine blk_alloc ?_ _)); exact BK139.out) Tryd.underlying60 rfl (by kernel_rfl)) rfl ?_
                exact ⟨by first | rfl | (simp [errW_none, errW_some] <;> rfl) | (simp [*, errW_none, errW_some] <;> rfl), by repeat (first | (with_reducible first | exact HB.out | apply below_alloc | apply pw_below_drewN | apply below_drew1 | refine below_set ?_ GE139.out | refine below_set ?_ GE168.out | refine below_set ?_ GE169.out) | exact HB.out)⟩
        · rw [if_neg c10] at H
          have c10b0 : (t147 == 2) = false := beq_eq_false_iff_ne.mpr c10
          have c10b1 : (t147 != 2) = true := bne_iff_ne.mpr c10
          simp only [Option.some.injEq, Prod.mk.injEq] at H
          obtain ⟨rfl, rfl, rfl, rfl⟩ := H
          have hnb190 := NB168_139.out
          have hnc190 := NB139_168.out
          have hnb191 := NB168_169.out
          have hnc191 := NB169_168.out
          have hcz192_0 : w189.cell? ⟨gb168, 0, none⟩ = some (.int .i64 t147) := (blk_cell BK168.out 0).trans rfl
          have hcz192_1 : w189.cell? ⟨gb168, 1, none⟩ = some (.int .i64 t148) := (blk_cell BK168.out 1).trans rfl
          have hcz192_2 : w189.cell? ⟨gb168, 2, none⟩ = some (.int .i64 t149) := (blk_cell BK168.out 2).trans rfl
          have hcz192_3 : w189.cell? ⟨gb168, 3, none⟩ = some (.int .i64 t150) := (blk_cell BK168.out 3).trans rfl
          have hcz192_4 : w189.cell? ⟨gb168, 4, none⟩ = some (.int .i64 t151) := (blk_cell BK168.out 4).trans rfl
          have hcz192_5 : w189.cell? ⟨gb168, 5, none⟩ = some (.int .i64 t152) := (blk_cell BK168.out 5).trans rfl
          have hcz192_6 : w189.cell? ⟨gb168, 6, none⟩ = some (.bool t153) := (blk_cell BK168.out 6).trans rfl
          have hcz192_7 : w189.cell? ⟨gb168, 7, none⟩ = some (.int .i64 t154) := (blk_cell BK168.out 7).trans rfl
          have hcz192_8 : w189.cell? ⟨gb168, 8, none⟩ = some (.int .u32 t155) := (blk_cell BK168.out 8).trans rfl
          have hcz192_9 : w189.cell? ⟨gb168, 9, none⟩ = some (.int .u32 t156) := (blk_cell BK168.out 9).trans rfl
          have hfz192_0 := blk_frozen BK168.out 0
          have hfz192_1 := blk_frozen BK168.out 1
          have hfz192_2 := blk_frozen BK168.out 2
          have hfz192_3 := blk_frozen BK168.out 3
          have hfz192_4 := blk_frozen BK168.out 4
          have hfz192_5 := blk_frozen BK168.out 5
          have hfz192_6 := blk_frozen BK168.out 6
          have hfz192_7 := blk_frozen BK168.out 7
          have hfz192_8 := blk_frozen BK168.out 8
          have hfz192_9 := blk_frozen BK168.out 9
          have hnb193 := NB139_169.out
          have hnc193 := NB169_139.out
          have hcz194_0 : w189.cell? ⟨gb139, 0, none⟩ = some (.int .u64 0) := (blk_cell BK139.out 0).trans rfl
          have hcz194_1 : w189.cell? ⟨gb139, 1, none⟩ = some (.int .i64 0) := (blk_cell BK139.out 1).trans rfl
          have hcz194_2 : w189.cell? ⟨gb139, 2, none⟩ = some (.int .i64 0) := (blk_cell BK139.out 2).trans rfl
          have hfz194_0 := blk_frozen BK139.out 0
          have hfz194_1 := blk_frozen BK139.out 1
          have hfz194_2 := blk_frozen BK139.out 2
          try go_wp2
          refine bodyPost_ret (results_ct rfl _ _ gb139 60 #[.int .u64 0, .int .i64 0, .int .i64 0] (0, 0) _ rfl (by (with_reducible repeat (first | refine blk_drewN ?_ _ | refine blk_drew ?_ | refine blk_alloc ?_ _)); refine blk_put (cs := #[.int .u64 0, .int .i64 0, .int .i64 0]) ?_ 2 _ rfl; (with_reducible repeat (first | refine blk_drewN ?_ _ | refine blk_drew ?_ | refine blk_alloc ?_ _)); refine blk_put (cs := #[.int .u64 0, .int .i64 0, .int .i64 0]) ?_ 1 _ rfl; (with_reducible repeat (first | refine blk_drewN ?_ _ | refine blk_drew ?_ | refine blk_alloc ?_ _)); refine blk_put (cs := #[.int .u64 0, .int .i64 0, .int .i64 0]) ?_ 0 _ rfl; (with_reducible repeat (first | refine blk_drewN ?_ _ | refine blk_drew ?_ | refine blk_alloc ?_ _)); exact BK139.out) Tryd.underlying60 rfl (by kernel_rfl)) rfl ?_
          exact ⟨by first | rfl | (simp [errW_none, errW_some] <;> rfl) | (simp [*, errW_none, errW_some] <;> rfl), by repeat (first | (with_reducible first | exact HB.out | apply below_alloc | apply pw_below_drewN | apply below_drew1 | refine below_set ?_ GE139.out | refine below_set ?_ GE168.out | refine below_set ?_ GE169.out) | exact HB.out)⟩
      · rw [if_neg c8] at H
        exact absurd H (by simp)
    · rw [if_neg c6] at H
      exact absurd H (by simp)
  · replace c5 := Bool.eq_false_iff.mpr c5
    subst c5
    have H1 : (some (0, 0, 0, 2)) = some (r1, r2, r3, r4) := by rw [if_neg (show ¬ (false = true) by decide)] at H; exact H
    clear H
    have H := H1
    clear H1
    simp only [Option.some.injEq, Prod.mk.injEq] at H
    obtain ⟨rfl, rfl, rfl, rfl⟩ := H
    go_enter Tryd.func35, Tryd.ntmps35
    go_wp2_with (first | ((with_reducible refine gate_dst (N := 4) rfl ?_); refine box_event ?hg (N := 4) ?hd (cs := #[.int .u64 0, .int .i64 0, .int .i64 0]) (t := 60) ?hr ?_; (case hd => rfl); (case hg => rfl); (case hr => first | (go_simp; done) | (go_simp; rfl)); intro gb139 hg w195 hbox hb; have n0_ := Aside0.mk (below_step (by repeat (first | (with_reducible first | exact HB.out | apply below_alloc | apply pw_below_drewN | apply below_drew1) | exact HB.out)) hb); have n1_ := Aside0.mk (hbox); have n2_ := Aside0.mk ((by rw [hg]; exact (below_size (by repeat (first | (with_reducible first | exact HB.out | apply below_alloc | apply pw_below_drewN | apply below_drew1) | exact HB.out))) : w.heap.size ≤ gb139)); have n3_ := Aside0.mk ((by rw [hg]; exact (below_size (by repeat (first | (with_reducible first | exact HB.out | apply below_alloc | apply pw_below_drewN | apply below_drew1) | exact HB.out))) : w.heap.size ≤ gb139)); clear HB; have HB := n0_; have BK139 := n1_; have GW139 := n2_; have GE139 := n3_; clear n0_ n1_ n2_ n3_; clear hb hbox hg) | ((with_reducible refine gate_callee (f := 18) rfl ?_); refine goesL_ (some 14) rfl rfl Tryd.func18 (by kernel_rfl) rfl #[.int .u64 a1] rfl (by (try simp only [List.map_toArray, List.map_cons, List.map_nil]); first | done | rfl | (simp only [List.length_drop, List.length_take]; rfl)) ?_; (with_reducible refine (far_Landing.calls (gb := gb) a1 t140 t141 _ ?side1 A3.out).mono ?_); (case side1 => exact Glob.below HG.out (by repeat (first | (with_reducible first | exact HB.out | apply below_alloc | apply pw_below_drewN | apply below_drew1 | refine below_set ?_ GE139.out) | exact HB.out))); rintro e w196 ⟨rfl, hb⟩; refine ⟨_, rfl, ?_⟩; have n0_ := Aside0.mk (blk_below (g := gb139) (o := .cells #[.int .u64 0, .int .i64 0, .int .i64 0] 60 (0, 0)) (by (with_reducible repeat (first | refine blk_drewN ?_ _ | refine blk_drew ?_ | refine blk_alloc ?_ _)); exact BK139.out) hb); have n1_ := Aside0.mk (below_step (by repeat (first | (with_reducible first | exact HB.out | apply below_alloc | apply pw_below_drewN | apply below_drew1 | refine below_set ?_ GE139.out) | exact HB.out)) hb); clear BK139; clear HB; have BK139 := n0_; have HB := n1_; clear n0_ n1_; (try clear hb); (try clear hb2); (try clear hk); (try clear hi)) | ((with_reducible refine gate_callee (f := 48) rfl ?_); refine goesL_ (some 21) rfl rfl Tryd.func48 (by kernel_rfl) rfl #[.slice A0 l0.length c0, .int .i64 t140, .int .i64 t141, .int .i64 2] rfl (by (try simp only [List.map_toArray, List.map_cons, List.map_nil]); first | done | rfl | (simp only [List.length_drop, List.length_take]; rfl)) ?_; (with_reducible refine (arena_Slice.calls _ _ l0 t140 t141 2 t142 false _ ?side1 ?side2 A4.out).mono ?_); (case side1 => repeat (first | exact (Kd.C_below HR0.out HB.out) | (with_reducible refine Kd.C_alloc ?_ _) | (with_reducible refine Kd.C_drewN ?_ _) | (with_reducible refine Kd.C_drew ?_))); (case side2 => exact HC0.out); rintro e w197 ⟨v144, rfl, ho0, hb⟩; refine ⟨_, rfl, ?_⟩; have n0_ := Aside0.mk (Kd.R_lower ho0 (below_size (by repeat (first | (with_reducible first | exact HB.out | apply below_alloc | apply pw_below_drewN | apply below_drew1 | refine below_set ?_ GE139.out) | exact HB.out)))); have n1_ := Aside0.mk (blk_below (g := gb139) (o := .cells #[.int .u64 0, .int .i64 0, .int .i64 0] 60 (0, 0)) (by (with_reducible repeat (first | refine blk_drewN ?_ _ | refine blk_drew ?_ | refine blk_alloc ?_ _)); exact BK139.out) hb); have n2_ := Aside0.mk (below_step (by repeat (first | (with_reducible first | exact HB.out | apply below_alloc | apply pw_below_drewN | apply below_drew1 | refine below_set ?_ GE139.out) | exact HB.out)) hb); clear BK139; clear HB; have HO145 := n0_; have BK139 := n1_; have HB := n2_; clear n0_ n1_ n2_; (try clear hb); (try clear hb2); (try clear hk); (try clear hi); (try clear ho0); have hcz198_0 : w197.cell? ⟨gb139, 0, none⟩ = some (.int .u64 0) := (blk_cell BK139.out 0).trans rfl; have hcz198_1 : w197.cell? ⟨gb139, 1, none⟩ = some (.int .i64 0) := (blk_cell BK139.out 1).trans rfl; have hcz198_2 : w197.cell? ⟨gb139, 2, none⟩ = some (.int .i64 0) := (blk_cell BK139.out 2).trans rfl; have hfz198_0 := blk_frozen BK139.out 0; have hfz198_1 := blk_frozen BK139.out 1; have hfz198_2 := blk_frozen BK139.out 2))
    refine bodyPost_ret (results_ct rfl _ _ gb139 60 #[.int .u64 0, .int .i64 0, .int .i64 0] (0, 0) _ rfl (by (with_reducible repeat (first | refine blk_drewN ?_ _ | refine blk_drew ?_ | refine blk_alloc ?_ _)); refine blk_put (cs := #[.int .u64 0, .int .i64 0, .int .i64 0]) ?_ 2 _ rfl; (with_reducible repeat (first | refine blk_drewN ?_ _ | refine blk_drew ?_ | refine blk_alloc ?_ _)); refine blk_put (cs := #[.int .u64 0, .int .i64 0, .int .i64 0]) ?_ 1 _ rfl; (with_reducible repeat (first | refine blk_drewN ?_ _ | refine blk_drew ?_ | refine blk_alloc ?_ _)); refine blk_put (cs := #[.int .u64 0, .int .i64 0, .int .i64 0]) ?_ 0 _ rfl; (with_reducible repeat (first | refine blk_drewN ?_ _ | refine blk_drew ?_ | refine blk_alloc ?_ _)); exact BK139.out) Tryd.underlying60 rfl (by kernel_rfl)) rfl ?_
    exact ⟨by first | rfl | (simp [errW_none, errW_some] <;> rfl) | (simp [*, errW_none, errW_some] <;> rfl), by repeat (first | (with_reducible first | exact HB.out | apply below_alloc | apply pw_below_drewN | apply below_drew1 | refine below_set ?_ GE139.out) | exact HB.out)⟩


end Go.Proofs.YtcjhejopcghgnaaDoor.P
