/- The texts of this session that come first, joined by wip/merge.py. -/
import Derived.Test.YtcjhejopcghgnaaDoorProg
import Derived.Below
import Derived.WalkKit
import Derived.KernelRfl
import Derived.Test.YtcjhejopcghgnaaDoorWWords
import Derived.Deep.Draws
import Derived.Deep.AppendLies
import Derived.Maps.AppendAt
import Derived.OwnWalk
import Derived.Laws.BytesArg
import Derived.Laws.MakeOwn
import Derived.Laws.OwnMore
import Derived.Deep.OwnRows
import Derived.Tactics
import Derived.Lib.ConvBytes
import Derived.Laws.Slices
import Derived.RowKit3
import Derived.Deep.LoopGhost
import Derived.Deep.QuietTactic
import Derived.BigQuiet
import Derived.WideLaws
import Derived.Deep.DeepCutAuto
import Derived.Deep.CutBlock
import Derived.Deep.RegionHeld3
import Derived.Laws.Rows
import Derived.Lib.AppendStr
import Derived.ArgAppend
import Derived.Laws.IdiomCopy
import Derived.OrdersHeld
import Derived.Laws.BitsLemmas
import Derived.RowKit
import Derived.Test.YtcjhejopcghgnaaDoorWLast
import Derived.Test.YtcjhejopcghgnaaDoorWTab
import Derived.Test.YtcjhejopcghgnaaDoorWFour
import Derived.Test.YtcjhejopcghgnaaDoorWQPut
import Derived.Test.YtcjhejopcghgnaaDoorWApart
import Derived.Test.YtcjhejopcghgnaaDoorWArr
import Derived.Test.YtcjhejopcghgnaaDoorWZeros
import Derived.Test.YtcjhejopcghgnaaDoorWFoot
import Derived.Test.YtcjhejopcghgnaaDoorWKept
import Derived.Test.YtcjhejopcghgnaaDoorWShare
import Derived.Test.YtcjhejopcghgnaaDoorWN
import Derived.Test.YtcjhejopcghgnaaDoorWFootNe
import Derived.Test.YtcjhejopcghgnaaDoorWAt
import Derived.Test.YtcjhejopcghgnaaDoorWEqStruct
import Derived.Test.YtcjhejopcghgnaaDoorWRepsOne
import Derived.Test.YtcjhejopcghgnaaDoorWInv
import Derived.Test.YtcjhejopcghgnaaDoorWInvWords
import Derived.Test.YtcjhejopcghgnaaDoorWGuard
import Derived.Test.YtcjhejopcghgnaaDoorWNEv
import Derived.Test.YtcjhejopcghgnaaDoorWMore
set_option linter.unusedVariables false
namespace Go.Proofs.YtcjhejopcghgnaaDoor.P
open Go.RowKit
/-- The widths of list elements. -/
def bitsOf (i : Nat) : Int := [0, 1, 8, 16, 32, 64, 64, 0].getD i 0
/-- What the package variables hold: the table of decoders, its look-ups answered in every world that keeps its block. -/
structure Glob (gb : Bool) (w : World) : Prop where
  dec : ∃ bm es clock, w.cell? ⟨0, 0, none⟩ = some (.map (some bm)) ∧ w.heap[bm]? = some (.map es clock) ∧
    ∀ W : World, W.heap[bm]? = some (.map es clock) →
      (Instr.lookup 70 (.map (some bm)) (.int .i64 0) false).run Tryd.prog W = .ok (.func (.func 75) #[] #[]) W ∧
      (Instr.lookup 70 (.map (some bm)) (.int .i64 1) false).run Tryd.prog W = .ok (.func (.func 77) #[] #[]) W ∧
      (Instr.lookup 70 (.map (some bm)) (.int .i64 2) false).run Tryd.prog W = .ok (.func (.func 78) #[] #[]) W ∧
      (Instr.lookup 70 (.map (some bm)) (.int .i64 3) false).run Tryd.prog W = .ok (.func (.func 79) #[] #[]) W
  bits : gb = true → ∀ i : Nat, i < 8 → w.cell? ⟨1, i, none⟩ = some (.int .i64 (bitsOf i))
theorem lt_of_block {w : World} {k : Nat} {o : Obj} (h : w.heap[k]? = some o) : k < w.heap.size := (Array.getElem?_eq_some_iff.1 h).1
theorem Glob.below {gb : Bool} {w w' : World} (h : Glob gb w) (hb : Below w.heap.size w w') : Glob gb w' := by
  constructor
  · obtain ⟨bm, es, clock, hc, hm, hl⟩ := h.dec
    exact ⟨bm, es, clock, (hb.cell (World.block_lt_of_cell? w _ hc)).trans hc, (hb.block bm (lt_of_block hm)).trans hm, hl⟩
  · exact fun hg i hi => (hb.cell (World.block_lt_of_cell? w _ (h.bits hg i hi))).trans (h.bits hg i hi)
theorem Glob.alloc {gb : Bool} {w : World} (h : Glob gb w) (o : Obj) : Glob gb (w.alloc o) := h.below ((Below.refl _ _).alloc (Nat.le_refl _) o)
theorem Glob.drew {gb : Bool} {w : World} (h : Glob gb w) : Glob gb w.drew := h.below (Below.refl _ _).drew
theorem Glob.drewN {gb : Bool} {w : World} (h : Glob gb w) (n : Nat) : Glob gb (w.drewN n) := by
  induction n generalizing w with
  | zero => exact h
  | succ n ih => exact (ih h).drew
theorem blk_newN {w : World} {n : Nat} {o : Obj} (h : n = w.heap.size) : (w.alloc o).heap[n]? = some o := by subst h; exact heap_alloc_new w o
end Go.Proofs.YtcjhejopcghgnaaDoor.P

namespace Go.Proofs.YtcjhejopcghgnaaDoor.P
open Go.RowKit Go.Proofs.YtcjhejopcghgnaaDoorW.PrintWords Go.Proofs.YtcjhejopcghgnaaDoorW.PrintLast Go.Proofs.YtcjhejopcghgnaaDoorW.PrintMore
attribute [local go_sem] max2_int min2_int max_two min_two max_three min_three max_four min_four   -- for this text's walks alone
set_option linter.unusedVariables false
set_option linter.unusedSimpArgs false

variable {gb : Bool}


def errW : Option Int → Value
  | none => .nilIface
  | some c => .iface 0 (.int .i64 c)
theorem errW_none : errW none = .nilIface := rfl
theorem errW_some (c : Int) : errW (some c) = .iface 0 (.int .i64 c) := rfl

theorem info23 : (Tryd.prog.info? 23).map (fun i => (i.zero, i.size, i.bytes)) = some (some (.int .u64 0), 1, 8) := by kernel_rfl
theorem info40 : (Tryd.prog.info? 40).map (fun i => (i.zero, i.size, i.bytes)) = some (some (.slice none 0 0), 1, 24) := by kernel_rfl
-- the values' own types
/-! #### struct type 39 -/
structure S39 where
  f0 : Int
  f1 : Int
  f2 : Int
  f3 : Int
  f4 : Int
  f5 : Int
  f6 : Bool
  f7 : Int
  f8 : Int
  f9 : Int
def z39 : S39 := ⟨(0 : Int), (0 : Int), (0 : Int), (0 : Int), (0 : Int), (0 : Int), false, (0 : Int), (0 : Int), (0 : Int)⟩
def k39 : Kd S39 := Kd.iso (Kd.pair (Kd.int .i64) (Kd.pair (Kd.int .i64) (Kd.pair (Kd.int .i64) (Kd.pair (Kd.int .i64) (Kd.pair (Kd.int .i64) (Kd.pair (Kd.int .i64) (Kd.pair Kd.bool (Kd.pair (Kd.int .i64) (Kd.pair (Kd.int .u32) (Kd.int .u32)))))))))) (fun x : S39 => (x.f0, x.f1, x.f2, x.f3, x.f4, x.f5, x.f6, x.f7, x.f8, x.f9))
theorem k39_open {w : World} {x : S39} {cs : List Value} (h : k39.K w x cs) : cs = [.int .i64 x.f0, .int .i64 x.f1, .int .i64 x.f2, .int .i64 x.f3, .int .i64 x.f4, .int .i64 x.f5, .bool x.f6, .int .i64 x.f7, .int .u32 x.f8, .int .u32 x.f9] := by
  obtain ⟨_, _, rfl, rfl, ⟨_, _, rfl, rfl, ⟨_, _, rfl, rfl, ⟨_, _, rfl, rfl, ⟨_, _, rfl, rfl, ⟨_, _, rfl, rfl, ⟨_, _, rfl, rfl, ⟨_, _, rfl, rfl, ⟨_, _, rfl, rfl, rfl⟩⟩⟩⟩⟩⟩⟩⟩⟩ := h
  exact rfl
theorem k39_openM {w : World} {base : Nat} {ok : Nat → Prop} {x : S39} {cs : List Value} (h : k39.M w base ok x cs) : cs = [.int .i64 x.f0, .int .i64 x.f1, .int .i64 x.f2, .int .i64 x.f3, .int .i64 x.f4, .int .i64 x.f5, .bool x.f6, .int .i64 x.f7, .int .u32 x.f8, .int .u32 x.f9] := by
  obtain ⟨_, _, rfl, rfl, ⟨_, _, rfl, rfl, ⟨_, _, rfl, rfl, ⟨_, _, rfl, rfl, ⟨_, _, rfl, rfl, ⟨_, _, rfl, rfl, ⟨_, _, rfl, rfl, ⟨_, _, rfl, rfl, ⟨_, _, rfl, rfl, rfl⟩⟩⟩⟩⟩⟩⟩⟩⟩ := h
  exact rfl
theorem k39_mk (w : World) (x : S39)  : k39.K w x [.int .i64 x.f0, .int .i64 x.f1, .int .i64 x.f2, .int .i64 x.f3, .int .i64 x.f4, .int .i64 x.f5, .bool x.f6, .int .i64 x.f7, .int .u32 x.f8, .int .u32 x.f9] := ⟨[.int .i64 x.f0], [.int .i64 x.f1, .int .i64 x.f2, .int .i64 x.f3, .int .i64 x.f4, .int .i64 x.f5, .bool x.f6, .int .i64 x.f7, .int .u32 x.f8, .int .u32 x.f9], rfl, rfl, ⟨[.int .i64 x.f1], [.int .i64 x.f2, .int .i64 x.f3, .int .i64 x.f4, .int .i64 x.f5, .bool x.f6, .int .i64 x.f7, .int .u32 x.f8, .int .u32 x.f9], rfl, rfl, ⟨[.int .i64 x.f2], [.int .i64 x.f3, .int .i64 x.f4, .int .i64 x.f5, .bool x.f6, .int .i64 x.f7, .int .u32 x.f8, .int .u32 x.f9], rfl, rfl, ⟨[.int .i64 x.f3], [.int .i64 x.f4, .int .i64 x.f5, .bool x.f6, .int .i64 x.f7, .int .u32 x.f8, .int .u32 x.f9], rfl, rfl, ⟨[.int .i64 x.f4], [.int .i64 x.f5, .bool x.f6, .int .i64 x.f7, .int .u32 x.f8, .int .u32 x.f9], rfl, rfl, ⟨[.int .i64 x.f5], [.bool x.f6, .int .i64 x.f7, .int .u32 x.f8, .int .u32 x.f9], rfl, rfl, ⟨[.bool x.f6], [.int .i64 x.f7, .int .u32 x.f8, .int .u32 x.f9], rfl, rfl, ⟨[.int .i64 x.f7], [.int .u32 x.f8, .int .u32 x.f9], rfl, rfl, ⟨[.int .u32 x.f8], [.int .u32 x.f9], rfl, rfl, rfl⟩⟩⟩⟩⟩⟩⟩⟩⟩
theorem k39_mkM (w : World) (base : Nat) (ok : Nat → Prop) (x : S39)  : k39.M w base ok x [.int .i64 x.f0, .int .i64 x.f1, .int .i64 x.f2, .int .i64 x.f3, .int .i64 x.f4, .int .i64 x.f5, .bool x.f6, .int .i64 x.f7, .int .u32 x.f8, .int .u32 x.f9] := ⟨[.int .i64 x.f0], [.int .i64 x.f1, .int .i64 x.f2, .int .i64 x.f3, .int .i64 x.f4, .int .i64 x.f5, .bool x.f6, .int .i64 x.f7, .int .u32 x.f8, .int .u32 x.f9], rfl, rfl, ⟨[.int .i64 x.f1], [.int .i64 x.f2, .int .i64 x.f3, .int .i64 x.f4, .int .i64 x.f5, .bool x.f6, .int .i64 x.f7, .int .u32 x.f8, .int .u32 x.f9], rfl, rfl, ⟨[.int .i64 x.f2], [.int .i64 x.f3, .int .i64 x.f4, .int .i64 x.f5, .bool x.f6, .int .i64 x.f7, .int .u32 x.f8, .int .u32 x.f9], rfl, rfl, ⟨[.int .i64 x.f3], [.int .i64 x.f4, .int .i64 x.f5, .bool x.f6, .int .i64 x.f7, .int .u32 x.f8, .int .u32 x.f9], rfl, rfl, ⟨[.int .i64 x.f4], [.int .i64 x.f5, .bool x.f6, .int .i64 x.f7, .int .u32 x.f8, .int .u32 x.f9], rfl, rfl, ⟨[.int .i64 x.f5], [.bool x.f6, .int .i64 x.f7, .int .u32 x.f8, .int .u32 x.f9], rfl, rfl, ⟨[.bool x.f6], [.int .i64 x.f7, .int .u32 x.f8, .int .u32 x.f9], rfl, rfl, ⟨[.int .i64 x.f7], [.int .u32 x.f8, .int .u32 x.f9], rfl, rfl, ⟨[.int .u32 x.f8], [.int .u32 x.f9], rfl, rfl, rfl⟩⟩⟩⟩⟩⟩⟩⟩⟩
theorem k39_mkF (W : World) (ok : Nat → Prop) (x : S39) : Kd.FK k39 W ok x [.int .i64 x.f0, .int .i64 x.f1, .int .i64 x.f2, .int .i64 x.f3, .int .i64 x.f4, .int .i64 x.f5, .bool x.f6, .int .i64 x.f7, .int .u32 x.f8, .int .u32 x.f9] := fun W2 _ => k39_mk W2 x
def rd_T39 (xs : List S39) (i : Int) : S39 := xs.getD i.toNat z39
theorem at_T39 {w : World} {A : Option Addr} {n : Nat} {xs : List S39} (h : Kd.C k39 w A n xs) (i : Int) (h0 : 0 ≤ i) (h1 : i < n) : ∃ ad , A = some ad ∧ w.cell? (ad.add (i.toNat * 10)) = some (.int .i64 (rd_T39 xs i).f0) ∧ w.cell? ⟨(ad.add (i.toNat * 10)).block, (ad.add (i.toNat * 10)).off + 1, none⟩ = some (.int .i64 (rd_T39 xs i).f1) ∧ w.cell? ⟨(ad.add (i.toNat * 10)).block, (ad.add (i.toNat * 10)).off + 2, none⟩ = some (.int .i64 (rd_T39 xs i).f2) ∧ w.cell? ⟨(ad.add (i.toNat * 10)).block, (ad.add (i.toNat * 10)).off + 3, none⟩ = some (.int .i64 (rd_T39 xs i).f3) ∧ w.cell? ⟨(ad.add (i.toNat * 10)).block, (ad.add (i.toNat * 10)).off + 4, none⟩ = some (.int .i64 (rd_T39 xs i).f4) ∧ w.cell? ⟨(ad.add (i.toNat * 10)).block, (ad.add (i.toNat * 10)).off + 5, none⟩ = some (.int .i64 (rd_T39 xs i).f5) ∧ w.cell? ⟨(ad.add (i.toNat * 10)).block, (ad.add (i.toNat * 10)).off + 6, none⟩ = some (.bool (rd_T39 xs i).f6) ∧ w.cell? ⟨(ad.add (i.toNat * 10)).block, (ad.add (i.toNat * 10)).off + 7, none⟩ = some (.int .i64 (rd_T39 xs i).f7) ∧ w.cell? ⟨(ad.add (i.toNat * 10)).block, (ad.add (i.toNat * 10)).off + 8, none⟩ = some (.int .u32 (rd_T39 xs i).f8) ∧ w.cell? ⟨(ad.add (i.toNat * 10)).block, (ad.add (i.toNat * 10)).off + 9, none⟩ = some (.int .u32 (rd_T39 xs i).f9) := by
  obtain ⟨ad, c, e, _, hK, hc0⟩ := Kd.C_get h z39 i h0 h1
  have hc : ∀ j u, c[j]? = some u → w.cell? (ad.add (i.toNat * 10 + j)) = some u := hc0
  obtain rfl := k39_open hK
  exact ⟨ad, e, hc 0 _ rfl, by rw [← add_field _ _ 1 (by omega)]; exact hc 1 _ rfl, by rw [← add_field _ _ 2 (by omega)]; exact hc 2 _ rfl, by rw [← add_field _ _ 3 (by omega)]; exact hc 3 _ rfl, by rw [← add_field _ _ 4 (by omega)]; exact hc 4 _ rfl, by rw [← add_field _ _ 5 (by omega)]; exact hc 5 _ rfl, by rw [← add_field _ _ 6 (by omega)]; exact hc 6 _ rfl, by rw [← add_field _ _ 7 (by omega)]; exact hc 7 _ rfl, by rw [← add_field _ _ 8 (by omega)]; exact hc 8 _ rfl, by rw [← add_field _ _ 9 (by omega)]; exact hc 9 _ rfl⟩

def rd_L5 (xs : List (List Int)) (i : Int) : (List Int) := xs.getD i.toNat ([] : List Int)
theorem at_L5 {w : World} {A : Option Addr} {n : Nat} {xs : List (List Int)} (h : Kd.C (Kd.slice 23 (Kd.int .u64)) w A n xs) (i : Int) (h0 : 0 ≤ i) (h1 : i < n) : ∃ ad A0 c0, A = some ad ∧ w.cell? (ad.add i.toNat) = some (.slice A0 (rd_L5 xs i).length c0) ∧ (rd_L5 xs i).length ≤ c0 ∧ (Kd.int .u64).C w A0 (rd_L5 xs i).length (rd_L5 xs i) := by
  obtain ⟨ad, c, e, _, hK, hc0⟩ := Kd.C_get h ([] : List Int) i h0 h1
  have hc : ∀ j u, c[j]? = some u → w.cell? (ad.add (i.toNat * 1 + j)) = some u := hc0
  obtain ⟨A0, c0, rfl, l0, g0⟩ := hK
  exact ⟨ad, A0, c0, e, by have hq := hc 0 _ rfl; rwa [Nat.mul_one, Nat.add_zero] at hq, l0, g0⟩

def rd_L6 (xs : List (List (List Int))) (i : Int) : (List (List Int)) := xs.getD i.toNat ([] : List (List Int))
theorem at_L6 {w : World} {A : Option Addr} {n : Nat} {xs : List (List (List Int))} (h : Kd.C (Kd.slice 40 (Kd.slice 23 (Kd.int .u64))) w A n xs) (i : Int) (h0 : 0 ≤ i) (h1 : i < n) : ∃ ad A0 c0, A = some ad ∧ w.cell? (ad.add i.toNat) = some (.slice A0 (rd_L6 xs i).length c0) ∧ (rd_L6 xs i).length ≤ c0 ∧ (Kd.slice 23 (Kd.int .u64)).C w A0 (rd_L6 xs i).length (rd_L6 xs i) := by
  obtain ⟨ad, c, e, _, hK, hc0⟩ := Kd.C_get h ([] : List (List Int)) i h0 h1
  have hc : ∀ j u, c[j]? = some u → w.cell? (ad.add (i.toNat * 1 + j)) = some u := hc0
  obtain ⟨A0, c0, rfl, l0, g0⟩ := hK
  exact ⟨ad, A0, c0, e, by have hq := hc 0 _ rfl; rwa [Nat.mul_one, Nat.add_zero] at hq, l0, g0⟩

/-! #### struct type 60 -/
structure S60 where
  f0 : Int
  f1 : Int
  f2 : Int
def z60 : S60 := ⟨(0 : Int), (0 : Int), (0 : Int)⟩
def k60 : Kd S60 := Kd.iso (Kd.pair (Kd.int .u64) (Kd.pair (Kd.int .i64) (Kd.int .i64))) (fun x : S60 => (x.f0, x.f1, x.f2))
theorem k60_open {w : World} {x : S60} {cs : List Value} (h : k60.K w x cs) : cs = [.int .u64 x.f0, .int .i64 x.f1, .int .i64 x.f2] := by
  obtain ⟨_, _, rfl, rfl, ⟨_, _, rfl, rfl, rfl⟩⟩ := h
  exact rfl
theorem k60_openM {w : World} {base : Nat} {ok : Nat → Prop} {x : S60} {cs : List Value} (h : k60.M w base ok x cs) : cs = [.int .u64 x.f0, .int .i64 x.f1, .int .i64 x.f2] := by
  obtain ⟨_, _, rfl, rfl, ⟨_, _, rfl, rfl, rfl⟩⟩ := h
  exact rfl
theorem k60_mk (w : World) (x : S60)  : k60.K w x [.int .u64 x.f0, .int .i64 x.f1, .int .i64 x.f2] := ⟨[.int .u64 x.f0], [.int .i64 x.f1, .int .i64 x.f2], rfl, rfl, ⟨[.int .i64 x.f1], [.int .i64 x.f2], rfl, rfl, rfl⟩⟩
theorem k60_mkM (w : World) (base : Nat) (ok : Nat → Prop) (x : S60)  : k60.M w base ok x [.int .u64 x.f0, .int .i64 x.f1, .int .i64 x.f2] := ⟨[.int .u64 x.f0], [.int .i64 x.f1, .int .i64 x.f2], rfl, rfl, ⟨[.int .i64 x.f1], [.int .i64 x.f2], rfl, rfl, rfl⟩⟩
theorem k60_mkF (W : World) (ok : Nat → Prop) (x : S60) : Kd.FK k60 W ok x [.int .u64 x.f0, .int .i64 x.f1, .int .i64 x.f2] := fun W2 _ => k60_mk W2 x
def rd_T60 (xs : List S60) (i : Int) : S60 := xs.getD i.toNat z60
theorem at_T60 {w : World} {A : Option Addr} {n : Nat} {xs : List S60} (h : Kd.C k60 w A n xs) (i : Int) (h0 : 0 ≤ i) (h1 : i < n) : ∃ ad , A = some ad ∧ w.cell? (ad.add (i.toNat * 3)) = some (.int .u64 (rd_T60 xs i).f0) ∧ w.cell? ⟨(ad.add (i.toNat * 3)).block, (ad.add (i.toNat * 3)).off + 1, none⟩ = some (.int .i64 (rd_T60 xs i).f1) ∧ w.cell? ⟨(ad.add (i.toNat * 3)).block, (ad.add (i.toNat * 3)).off + 2, none⟩ = some (.int .i64 (rd_T60 xs i).f2) := by
  obtain ⟨ad, c, e, _, hK, hc0⟩ := Kd.C_get h z60 i h0 h1
  have hc : ∀ j u, c[j]? = some u → w.cell? (ad.add (i.toNat * 3 + j)) = some u := hc0
  obtain rfl := k60_open hK
  exact ⟨ad, e, hc 0 _ rfl, by rw [← add_field _ _ 1 (by omega)]; exact hc 1 _ rfl, by rw [← add_field _ _ 2 (by omega)]; exact hc 2 _ rfl⟩

/-! #### struct type 46 -/
structure S46 where
  f0 : Int
  f1 : Int
  f2 : Int
  f3 : Int
  f4 : Int
  f5 : Int
  f6 : Int
  f7 : Int
def z46 : S46 := ⟨(0 : Int), (0 : Int), (0 : Int), (0 : Int), (0 : Int), (0 : Int), (0 : Int), (0 : Int)⟩
def k46 : Kd S46 := Kd.iso (Kd.pair (Kd.int .i64) (Kd.pair (Kd.int .i64) (Kd.pair (Kd.int .i64) (Kd.pair (Kd.int .i64) (Kd.pair (Kd.int .i64) (Kd.pair (Kd.int .i64) (Kd.pair (Kd.int .i64) (Kd.int .i64)))))))) (fun x : S46 => (x.f0, x.f1, x.f2, x.f3, x.f4, x.f5, x.f6, x.f7))
theorem k46_open {w : World} {x : S46} {cs : List Value} (h : k46.K w x cs) : cs = [.int .i64 x.f0, .int .i64 x.f1, .int .i64 x.f2, .int .i64 x.f3, .int .i64 x.f4, .int .i64 x.f5, .int .i64 x.f6, .int .i64 x.f7] := by
  obtain ⟨_, _, rfl, rfl, ⟨_, _, rfl, rfl, ⟨_, _, rfl, rfl, ⟨_, _, rfl, rfl, ⟨_, _, rfl, rfl, ⟨_, _, rfl, rfl, ⟨_, _, rfl, rfl, rfl⟩⟩⟩⟩⟩⟩⟩ := h
  exact rfl
theorem k46_openM {w : World} {base : Nat} {ok : Nat → Prop} {x : S46} {cs : List Value} (h : k46.M w base ok x cs) : cs = [.int .i64 x.f0, .int .i64 x.f1, .int .i64 x.f2, .int .i64 x.f3, .int .i64 x.f4, .int .i64 x.f5, .int .i64 x.f6, .int .i64 x.f7] := by
  obtain ⟨_, _, rfl, rfl, ⟨_, _, rfl, rfl, ⟨_, _, rfl, rfl, ⟨_, _, rfl, rfl, ⟨_, _, rfl, rfl, ⟨_, _, rfl, rfl, ⟨_, _, rfl, rfl, rfl⟩⟩⟩⟩⟩⟩⟩ := h
  exact rfl
theorem k46_mk (w : World) (x : S46)  : k46.K w x [.int .i64 x.f0, .int .i64 x.f1, .int .i64 x.f2, .int .i64 x.f3, .int .i64 x.f4, .int .i64 x.f5, .int .i64 x.f6, .int .i64 x.f7] := ⟨[.int .i64 x.f0], [.int .i64 x.f1, .int .i64 x.f2, .int .i64 x.f3, .int .i64 x.f4, .int .i64 x.f5, .int .i64 x.f6, .int .i64 x.f7], rfl, rfl, ⟨[.int .i64 x.f1], [.int .i64 x.f2, .int .i64 x.f3, .int .i64 x.f4, .int .i64 x.f5, .int .i64 x.f6, .int .i64 x.f7], rfl, rfl, ⟨[.int .i64 x.f2], [.int .i64 x.f3, .int .i64 x.f4, .int .i64 x.f5, .int .i64 x.f6, .int .i64 x.f7], rfl, rfl, ⟨[.int .i64 x.f3], [.int .i64 x.f4, .int .i64 x.f5, .int .i64 x.f6, .int .i64 x.f7], rfl, rfl, ⟨[.int .i64 x.f4], [.int .i64 x.f5, .int .i64 x.f6, .int .i64 x.f7], rfl, rfl, ⟨[.int .i64 x.f5], [.int .i64 x.f6, .int .i64 x.f7], rfl, rfl, ⟨[.int .i64 x.f6], [.int .i64 x.f7], rfl, rfl, rfl⟩⟩⟩⟩⟩⟩⟩
theorem k46_mkM (w : World) (base : Nat) (ok : Nat → Prop) (x : S46)  : k46.M w base ok x [.int .i64 x.f0, .int .i64 x.f1, .int .i64 x.f2, .int .i64 x.f3, .int .i64 x.f4, .int .i64 x.f5, .int .i64 x.f6, .int .i64 x.f7] := ⟨[.int .i64 x.f0], [.int .i64 x.f1, .int .i64 x.f2, .int .i64 x.f3, .int .i64 x.f4, .int .i64 x.f5, .int .i64 x.f6, .int .i64 x.f7], rfl, rfl, ⟨[.int .i64 x.f1], [.int .i64 x.f2, .int .i64 x.f3, .int .i64 x.f4, .int .i64 x.f5, .int .i64 x.f6, .int .i64 x.f7], rfl, rfl, ⟨[.int .i64 x.f2], [.int .i64 x.f3, .int .i64 x.f4, .int .i64 x.f5, .int .i64 x.f6, .int .i64 x.f7], rfl, rfl, ⟨[.int .i64 x.f3], [.int .i64 x.f4, .int .i64 x.f5, .int .i64 x.f6, .int .i64 x.f7], rfl, rfl, ⟨[.int .i64 x.f4], [.int .i64 x.f5, .int .i64 x.f6, .int .i64 x.f7], rfl, rfl, ⟨[.int .i64 x.f5], [.int .i64 x.f6, .int .i64 x.f7], rfl, rfl, ⟨[.int .i64 x.f6], [.int .i64 x.f7], rfl, rfl, rfl⟩⟩⟩⟩⟩⟩⟩
theorem k46_mkF (W : World) (ok : Nat → Prop) (x : S46) : Kd.FK k46 W ok x [.int .i64 x.f0, .int .i64 x.f1, .int .i64 x.f2, .int .i64 x.f3, .int .i64 x.f4, .int .i64 x.f5, .int .i64 x.f6, .int .i64 x.f7] := fun W2 _ => k46_mk W2 x
def rd_T46 (xs : List S46) (i : Int) : S46 := xs.getD i.toNat z46
theorem at_T46 {w : World} {A : Option Addr} {n : Nat} {xs : List S46} (h : Kd.C k46 w A n xs) (i : Int) (h0 : 0 ≤ i) (h1 : i < n) : ∃ ad , A = some ad ∧ w.cell? (ad.add (i.toNat * 8)) = some (.int .i64 (rd_T46 xs i).f0) ∧ w.cell? ⟨(ad.add (i.toNat * 8)).block, (ad.add (i.toNat * 8)).off + 1, none⟩ = some (.int .i64 (rd_T46 xs i).f1) ∧ w.cell? ⟨(ad.add (i.toNat * 8)).block, (ad.add (i.toNat * 8)).off + 2, none⟩ = some (.int .i64 (rd_T46 xs i).f2) ∧ w.cell? ⟨(ad.add (i.toNat * 8)).block, (ad.add (i.toNat * 8)).off + 3, none⟩ = some (.int .i64 (rd_T46 xs i).f3) ∧ w.cell? ⟨(ad.add (i.toNat * 8)).block, (ad.add (i.toNat * 8)).off + 4, none⟩ = some (.int .i64 (rd_T46 xs i).f4) ∧ w.cell? ⟨(ad.add (i.toNat * 8)).block, (ad.add (i.toNat * 8)).off + 5, none⟩ = some (.int .i64 (rd_T46 xs i).f5) ∧ w.cell? ⟨(ad.add (i.toNat * 8)).block, (ad.add (i.toNat * 8)).off + 6, none⟩ = some (.int .i64 (rd_T46 xs i).f6) ∧ w.cell? ⟨(ad.add (i.toNat * 8)).block, (ad.add (i.toNat * 8)).off + 7, none⟩ = some (.int .i64 (rd_T46 xs i).f7) := by
  obtain ⟨ad, c, e, _, hK, hc0⟩ := Kd.C_get h z46 i h0 h1
  have hc : ∀ j u, c[j]? = some u → w.cell? (ad.add (i.toNat * 8 + j)) = some u := hc0
  obtain rfl := k46_open hK
  exact ⟨ad, e, hc 0 _ rfl, by rw [← add_field _ _ 1 (by omega)]; exact hc 1 _ rfl, by rw [← add_field _ _ 2 (by omega)]; exact hc 2 _ rfl, by rw [← add_field _ _ 3 (by omega)]; exact hc 3 _ rfl, by rw [← add_field _ _ 4 (by omega)]; exact hc 4 _ rfl, by rw [← add_field _ _ 5 (by omega)]; exact hc 5 _ rfl, by rw [← add_field _ _ 6 (by omega)]; exact hc 6 _ rfl, by rw [← add_field _ _ 7 (by omega)]; exact hc 7 _ rfl⟩

end Go.Proofs.YtcjhejopcghgnaaDoor.P

set_option linter.unusedVariables false
namespace Go.Proofs.YtcjhejopcghgnaaDoor.P
open Go.RowKit Go.Proofs.YtcjhejopcghgnaaDoorW.PrintWords Go.Proofs.YtcjhejopcghgnaaDoorW.PrintLast Go.Proofs.YtcjhejopcghgnaaDoorW.PrintMore
theorem blk_q {w w1 : World} {g n : Nat} {o : Obj} (h : w.heap[g]? = some o) (e : w.drewN n = w1) : w1.heap[g]? = some o := e ▸ h
theorem below_q {w w1 w2 : World} {n B : Nat} (h : Below B w w1) (e : w1.drewN n = w2) : Below B w w2 := e ▸ pw_below_drewN h n
theorem ne_l {w : World} {g g' : Nat} {o : Obj} (h : w.heap[g]? = some o) (e : g' = w.heap.size) : g ≠ g' := e ▸ Nat.ne_of_lt (blk_lt h)
theorem ne_r {w : World} {g g' : Nat} {o : Obj} (h : w.heap[g]? = some o) (e : g' = w.heap.size) : g' ≠ g := e ▸ Nat.ne_of_gt (blk_lt h)
theorem ge_of {w W : World} {g : Nat} (h : Below w.heap.size w W) (e : g = W.heap.size) : w.heap.size ≤ g := e ▸ below_size h
theorem cells6 {w : World} {g : Nat} {t : TypeId} {a0 a1 a2 a3 a4 a5 : Value} (h : w.heap[g]? = some (.cells #[a0, a1, a2, a3, a4, a5] t (0, 0))) : w.cell? ⟨g, 0, none⟩ = some a0 ∧ w.cell? ⟨g, 1, none⟩ = some a1 ∧ w.cell? ⟨g, 2, none⟩ = some a2 ∧ w.cell? ⟨g, 3, none⟩ = some a3 ∧ w.cell? ⟨g, 4, none⟩ = some a4 ∧ w.cell? ⟨g, 5, none⟩ = some a5 := ⟨(blk_cell h 0).trans rfl, (blk_cell h 1).trans rfl, (blk_cell h 2).trans rfl, (blk_cell h 3).trans rfl, (blk_cell h 4).trans rfl, (blk_cell h 5).trans rfl⟩
theorem frz6 {w : World} {g : Nat} {t : TypeId} {cs : Array Value} (h : w.heap[g]? = some (.cells cs t (0, 0))) : w.frozen? ⟨g, 0, none⟩ = false ∧ w.frozen? ⟨g, 1, none⟩ = false ∧ w.frozen? ⟨g, 2, none⟩ = false ∧ w.frozen? ⟨g, 3, none⟩ = false ∧ w.frozen? ⟨g, 4, none⟩ = false ∧ w.frozen? ⟨g, 5, none⟩ = false := ⟨blk_frozen h 0, blk_frozen h 1, blk_frozen h 2, blk_frozen h 3, blk_frozen h 4, blk_frozen h 5⟩
theorem cells8 {w : World} {g : Nat} {t : TypeId} {a0 a1 a2 a3 a4 a5 a6 a7 : Value} (h : w.heap[g]? = some (.cells #[a0, a1, a2, a3, a4, a5, a6, a7] t (0, 0))) : w.cell? ⟨g, 0, none⟩ = some a0 ∧ w.cell? ⟨g, 1, none⟩ = some a1 ∧ w.cell? ⟨g, 2, none⟩ = some a2 ∧ w.cell? ⟨g, 3, none⟩ = some a3 ∧ w.cell? ⟨g, 4, none⟩ = some a4 ∧ w.cell? ⟨g, 5, none⟩ = some a5 ∧ w.cell? ⟨g, 6, none⟩ = some a6 ∧ w.cell? ⟨g, 7, none⟩ = some a7 := ⟨(blk_cell h 0).trans rfl, (blk_cell h 1).trans rfl, (blk_cell h 2).trans rfl, (blk_cell h 3).trans rfl, (blk_cell h 4).trans rfl, (blk_cell h 5).trans rfl, (blk_cell h 6).trans rfl, (blk_cell h 7).trans rfl⟩
theorem frz8 {w : World} {g : Nat} {t : TypeId} {cs : Array Value} (h : w.heap[g]? = some (.cells cs t (0, 0))) : w.frozen? ⟨g, 0, none⟩ = false ∧ w.frozen? ⟨g, 1, none⟩ = false ∧ w.frozen? ⟨g, 2, none⟩ = false ∧ w.frozen? ⟨g, 3, none⟩ = false ∧ w.frozen? ⟨g, 4, none⟩ = false ∧ w.frozen? ⟨g, 5, none⟩ = false ∧ w.frozen? ⟨g, 6, none⟩ = false ∧ w.frozen? ⟨g, 7, none⟩ = false := ⟨blk_frozen h 0, blk_frozen h 1, blk_frozen h 2, blk_frozen h 3, blk_frozen h 4, blk_frozen h 5, blk_frozen h 6, blk_frozen h 7⟩
theorem cells10 {w : World} {g : Nat} {t : TypeId} {a0 a1 a2 a3 a4 a5 a6 a7 a8 a9 : Value} (h : w.heap[g]? = some (.cells #[a0, a1, a2, a3, a4, a5, a6, a7, a8, a9] t (0, 0))) : w.cell? ⟨g, 0, none⟩ = some a0 ∧ w.cell? ⟨g, 1, none⟩ = some a1 ∧ w.cell? ⟨g, 2, none⟩ = some a2 ∧ w.cell? ⟨g, 3, none⟩ = some a3 ∧ w.cell? ⟨g, 4, none⟩ = some a4 ∧ w.cell? ⟨g, 5, none⟩ = some a5 ∧ w.cell? ⟨g, 6, none⟩ = some a6 ∧ w.cell? ⟨g, 7, none⟩ = some a7 ∧ w.cell? ⟨g, 8, none⟩ = some a8 ∧ w.cell? ⟨g, 9, none⟩ = some a9 := ⟨(blk_cell h 0).trans rfl, (blk_cell h 1).trans rfl, (blk_cell h 2).trans rfl, (blk_cell h 3).trans rfl, (blk_cell h 4).trans rfl, (blk_cell h 5).trans rfl, (blk_cell h 6).trans rfl, (blk_cell h 7).trans rfl, (blk_cell h 8).trans rfl, (blk_cell h 9).trans rfl⟩
theorem frz10 {w : World} {g : Nat} {t : TypeId} {cs : Array Value} (h : w.heap[g]? = some (.cells cs t (0, 0))) : w.frozen? ⟨g, 0, none⟩ = false ∧ w.frozen? ⟨g, 1, none⟩ = false ∧ w.frozen? ⟨g, 2, none⟩ = false ∧ w.frozen? ⟨g, 3, none⟩ = false ∧ w.frozen? ⟨g, 4, none⟩ = false ∧ w.frozen? ⟨g, 5, none⟩ = false ∧ w.frozen? ⟨g, 6, none⟩ = false ∧ w.frozen? ⟨g, 7, none⟩ = false ∧ w.frozen? ⟨g, 8, none⟩ = false ∧ w.frozen? ⟨g, 9, none⟩ = false := ⟨blk_frozen h 0, blk_frozen h 1, blk_frozen h 2, blk_frozen h 3, blk_frozen h 4, blk_frozen h 5, blk_frozen h 6, blk_frozen h 7, blk_frozen h 8, blk_frozen h 9⟩
theorem put6 {w : World} {g : Nat} {t : TypeId} {z0 z1 z2 z3 z4 z5 v0 v1 v2 v3 v4 v5 : Value} (h : w.heap[g]? = some (.cells #[z0, z1, z2, z3, z4, z5] t (0, 0))) : ((((((w.setCell ⟨g, 0, none⟩ v0).setCell ⟨g, 1, none⟩ v1).setCell ⟨g, 2, none⟩ v2).setCell ⟨g, 3, none⟩ v3).setCell ⟨g, 4, none⟩ v4).setCell ⟨g, 5, none⟩ v5).heap[g]? = some (.cells #[v0, v1, v2, v3, v4, v5] t (0, 0)) := by
  refine blk_put (cs := #[v0, v1, v2, v3, v4, z5]) ?_ 5 _ rfl
  refine blk_put (cs := #[v0, v1, v2, v3, z4, z5]) ?_ 4 _ rfl
  refine blk_put (cs := #[v0, v1, v2, z3, z4, z5]) ?_ 3 _ rfl
  refine blk_put (cs := #[v0, v1, z2, z3, z4, z5]) ?_ 2 _ rfl
  refine blk_put (cs := #[v0, z1, z2, z3, z4, z5]) ?_ 1 _ rfl
  refine blk_put (cs := #[z0, z1, z2, z3, z4, z5]) ?_ 0 _ rfl
  exact h
theorem put8 {w : World} {g : Nat} {t : TypeId} {z0 z1 z2 z3 z4 z5 z6 z7 v0 v1 v2 v3 v4 v5 v6 v7 : Value} (h : w.heap[g]? = some (.cells #[z0, z1, z2, z3, z4, z5, z6, z7] t (0, 0))) : ((((((((w.setCell ⟨g, 0, none⟩ v0).setCell ⟨g, 1, none⟩ v1).setCell ⟨g, 2, none⟩ v2).setCell ⟨g, 3, none⟩ v3).setCell ⟨g, 4, none⟩ v4).setCell ⟨g, 5, none⟩ v5).setCell ⟨g, 6, none⟩ v6).setCell ⟨g, 7, none⟩ v7).heap[g]? = some (.cells #[v0, v1, v2, v3, v4, v5, v6, v7] t (0, 0)) := by
  refine blk_put (cs := #[v0, v1, v2, v3, v4, v5, v6, z7]) ?_ 7 _ rfl
  refine blk_put (cs := #[v0, v1, v2, v3, v4, v5, z6, z7]) ?_ 6 _ rfl
  refine blk_put (cs := #[v0, v1, v2, v3, v4, z5, z6, z7]) ?_ 5 _ rfl
  refine blk_put (cs := #[v0, v1, v2, v3, z4, z5, z6, z7]) ?_ 4 _ rfl
  refine blk_put (cs := #[v0, v1, v2, z3, z4, z5, z6, z7]) ?_ 3 _ rfl
  refine blk_put (cs := #[v0, v1, z2, z3, z4, z5, z6, z7]) ?_ 2 _ rfl
  refine blk_put (cs := #[v0, z1, z2, z3, z4, z5, z6, z7]) ?_ 1 _ rfl
  refine blk_put (cs := #[z0, z1, z2, z3, z4, z5, z6, z7]) ?_ 0 _ rfl
  exact h
theorem put10 {w : World} {g : Nat} {t : TypeId} {z0 z1 z2 z3 z4 z5 z6 z7 z8 z9 v0 v1 v2 v3 v4 v5 v6 v7 v8 v9 : Value} (h : w.heap[g]? = some (.cells #[z0, z1, z2, z3, z4, z5, z6, z7, z8, z9] t (0, 0))) : ((((((((((w.setCell ⟨g, 0, none⟩ v0).setCell ⟨g, 1, none⟩ v1).setCell ⟨g, 2, none⟩ v2).setCell ⟨g, 3, none⟩ v3).setCell ⟨g, 4, none⟩ v4).setCell ⟨g, 5, none⟩ v5).setCell ⟨g, 6, none⟩ v6).setCell ⟨g, 7, none⟩ v7).setCell ⟨g, 8, none⟩ v8).setCell ⟨g, 9, none⟩ v9).heap[g]? = some (.cells #[v0, v1, v2, v3, v4, v5, v6, v7, v8, v9] t (0, 0)) := by
  refine blk_put (cs := #[v0, v1, v2, v3, v4, v5, v6, v7, v8, z9]) ?_ 9 _ rfl
  refine blk_put (cs := #[v0, v1, v2, v3, v4, v5, v6, v7, z8, z9]) ?_ 8 _ rfl
  refine blk_put (cs := #[v0, v1, v2, v3, v4, v5, v6, z7, z8, z9]) ?_ 7 _ rfl
  refine blk_put (cs := #[v0, v1, v2, v3, v4, v5, z6, z7, z8, z9]) ?_ 6 _ rfl
  refine blk_put (cs := #[v0, v1, v2, v3, v4, z5, z6, z7, z8, z9]) ?_ 5 _ rfl
  refine blk_put (cs := #[v0, v1, v2, v3, z4, z5, z6, z7, z8, z9]) ?_ 4 _ rfl
  refine blk_put (cs := #[v0, v1, v2, z3, z4, z5, z6, z7, z8, z9]) ?_ 3 _ rfl
  refine blk_put (cs := #[v0, v1, z2, z3, z4, z5, z6, z7, z8, z9]) ?_ 2 _ rfl
  refine blk_put (cs := #[v0, z1, z2, z3, z4, z5, z6, z7, z8, z9]) ?_ 1 _ rfl
  refine blk_put (cs := #[z0, z1, z2, z3, z4, z5, z6, z7, z8, z9]) ?_ 0 _ rfl
  exact h
/-- A row that came before the call leads to elder blocks alone. -/
theorem V_came {α : Type} {d : Kd α} (hd : Kd.Heap d) {e base c : Nat} {W : World} {A : Option Addr} {xs : List α} (h : d.C W A xs.length xs) (hl : xs.length ≤ c) : Kd.V d e W base (fun k => k < W.heap.size) (.slice A xs.length c) xs := Kd.V_mk hl (fun W' hW => hd.C (fun k hk => hW k hk hk) h)
end Go.Proofs.YtcjhejopcghgnaaDoor.P

namespace Go.Proofs.YtcjhejopcghgnaaDoor.P
open Go.RowKit Go.Proofs.YtcjhejopcghgnaaDoorW.PrintWords Go.Proofs.YtcjhejopcghgnaaDoorW.PrintLast Go.Proofs.YtcjhejopcghgnaaDoorW.PrintMore
attribute [local go_sem] max2_int min2_int max_two min_two max_three min_three max_four min_four   -- for this text's walks alone
set_option linter.unusedVariables false
set_option linter.unusedSimpArgs false

variable {gb : Bool}
/-! ### word_mask: function 56 -/
def word_mask.f (a0 : Int) : Option (Int) := if 0 ≤ (IntKind.u64.wrap (wrap64 (64 - a0))) then (some (shr .u64 18446744073709551615 (IntKind.u64.wrap (wrap64 (64 - a0))))) else (none)
set_option maxHeartbeats 8000000 in
set_option maxRecDepth 100000 in
theorem word_mask.calls (a0 r : Int) (w : World) (h : word_mask.f a0 = some r) :
    Calls Tryd.prog 56 #[.int .i64 a0] w fun e w' => e = .returned (.int .u64 r) ∧ Drawn0 w w' := by
  have H : (if 0 ≤ (IntKind.u64.wrap (wrap64 (64 - a0))) then (some (shr .u64 18446744073709551615 (IntKind.u64.wrap (wrap64 (64 - a0))))) else (none)) = some r := h
  clear h
  obtain ⟨ji2, hji2⟩ : ∃ j_ : Int, (IntKind.u64.wrap (wrap64 (64 - a0))) = j_ := ⟨_, rfl⟩
  replace H : (if 0 ≤ (ji2) then (some (shr .u64 18446744073709551615 (ji2))) else (none)) = some r := by (rw [hji2] at H; exact H)
  by_cases c3 : 0 ≤ (ji2)
  · rw [if_pos c3] at H
    have c3b0 := eq_true c3
    clear c3
    obtain ⟨ji4, hji4⟩ : ∃ j_ : Int, (shr .u64 18446744073709551615 (ji2)) = j_ := ⟨_, rfl⟩
    replace H : (some ji4) = some r := by (rw [hji4] at H; exact H)
    have hji4_ : (18446744073709551615 / 2 ^ min (ji2).toNat 64) = ji4 := hji4
    obtain rfl := Option.some.inj H
    go_enter Tryd.func56, Tryd.ntmps56
    go_wp2
    go_ret
    exact ⟨by rfl, by repeat (exact Drawn0.refl _)⟩
  · rw [if_neg c3] at H
    exact absurd H (by simp)

end Go.Proofs.YtcjhejopcghgnaaDoor.P

namespace Go.Proofs.YtcjhejopcghgnaaDoor.P
open Go.RowKit Go.Proofs.YtcjhejopcghgnaaDoorW.PrintWords Go.Proofs.YtcjhejopcghgnaaDoorW.PrintLast Go.Proofs.YtcjhejopcghgnaaDoorW.PrintMore
attribute [local go_sem] max2_int min2_int max_two min_two max_three min_three max_four min_four   -- for this text's walks alone
set_option linter.unusedVariables false
set_option linter.unusedSimpArgs false

variable {gb : Bool}
/-! ### word_Field: function 47 -/
def word_Field.f (a0 a1 a2 : Int) : Option (Int) := if 0 ≤ (IntKind.u64.wrap (a1)) then ((word_mask.f a2).bind fun t101 => (some (Go.bits .and .u64 (shr .u64 a0 (IntKind.u64.wrap (a1))) t101))) else (none)
set_option maxHeartbeats 8000000 in
set_option maxRecDepth 100000 in
theorem word_Field.calls (a0 a1 a2 r : Int) (w : World) (h : word_Field.f a0 a1 a2 = some r) :
    Calls Tryd.prog 47 #[.int .u64 a0, .int .i64 a1, .int .i64 a2] w fun e w' => e = .returned (.int .u64 r) ∧ Drawn0 w w' := by
  have H : (if 0 ≤ (IntKind.u64.wrap (a1)) then ((word_mask.f a2).bind fun t101 => (some (Go.bits .and .u64 (shr .u64 a0 (IntKind.u64.wrap (a1))) t101))) else (none)) = some r := h
  clear h
  obtain ⟨ji4, hji4⟩ : ∃ j_ : Int, (IntKind.u64.wrap (a1)) = j_ := ⟨_, rfl⟩
  replace H : (if 0 ≤ (ji4) then ((word_mask.f a2).bind fun t101 => (some (Go.bits .and .u64 (shr .u64 a0 (ji4)) t101))) else (none)) = some r := by (rw [hji4] at H; exact H)
  by_cases c5 : 0 ≤ (ji4)
  · rw [if_pos c5] at H
    have c5b0 := eq_true c5
    clear c5
    obtain ⟨ji6, hji6⟩ : ∃ j_ : Int, (shr .u64 a0 (ji4)) = j_ := ⟨_, rfl⟩
    replace H : ((word_mask.f a2).bind fun t101 => (some (Go.bits .and .u64 (ji6) t101))) = some r := by (rw [hji6] at H; exact H)
    have hji6_ : (a0 / 2 ^ min (ji4).toNat 64) = ji6 := hji6
    replace H := Option.bind_eq_some_iff.mp H
    obtain ⟨t101, A70, H⟩ := H
    replace H : (some (Go.bits .and .u64 (ji6) t101)) = some r := H
    have A7 := Aside0.mk A70
    clear A70
    obtain rfl := Option.some.inj H
    go_enter Tryd.func47, Tryd.ntmps47
    go_wp2_with (((with_reducible refine gate_callee (f := 56) rfl ?_); refine goesL_ (some 12) rfl rfl Tryd.func56 (by kernel_rfl) rfl #[.int .i64 a2] rfl (by (try simp only [List.map_toArray, List.map_cons, List.map_nil]); rfl) ?_; (with_reducible refine (word_mask.calls a2 t101 _ A7.out).mono ?_); rintro e w' ⟨rfl, ⟨nd, rfl⟩⟩; refine ⟨_, rfl, ?_⟩))
    go_ret
    exact ⟨by rfl, by repeat (first | exact Drawn0.refl _ | apply Drawn0.step)⟩
  · rw [if_neg c5] at H
    exact absurd H (by simp)

end Go.Proofs.YtcjhejopcghgnaaDoor.P

namespace Go.Proofs.YtcjhejopcghgnaaDoor.P
open Go.RowKit Go.Proofs.YtcjhejopcghgnaaDoorW.PrintWords Go.Proofs.YtcjhejopcghgnaaDoorW.PrintLast Go.Proofs.YtcjhejopcghgnaaDoorW.PrintMore
attribute [local go_sem] max2_int min2_int max_two min_two max_three min_three max_four min_four   -- for this text's walks alone
set_option linter.unusedVariables false
set_option linter.unusedSimpArgs false

variable {gb : Bool}
/-! ### word_Signed: function 76 -/
def word_Signed.f (a0 a1 a2 : Int) : Option (Int) := if 0 ≤ (IntKind.u64.wrap (wrap64 ((wrap64 (64 - a1)) - a2))) then (if 0 ≤ (IntKind.u64.wrap (wrap64 (64 - a2))) then (some (shr .i64 (wrap64 (shl .u64 a0 (IntKind.u64.wrap (wrap64 ((wrap64 (64 - a1)) - a2))))) (IntKind.u64.wrap (wrap64 (64 - a2))))) else (none)) else (none)
set_option maxHeartbeats 8000000 in
set_option maxRecDepth 100000 in
theorem word_Signed.calls (a0 a1 a2 r : Int) (w : World) (h : word_Signed.f a0 a1 a2 = some r) :
    Calls Tryd.prog 76 #[.int .u64 a0, .int .i64 a1, .int .i64 a2] w fun e w' => e = .returned (.int .i64 r) ∧ Drawn0 w w' := by
  have H := h
  unfold word_Signed.f at H
  clear h
  obtain ⟨ji4, hji4⟩ : ∃ j_ : Int, (IntKind.u64.wrap (wrap64 ((wrap64 (64 - a1)) - a2))) = j_ := ⟨_, rfl⟩
  replace H : (if 0 ≤ (ji4) then (if 0 ≤ (IntKind.u64.wrap (wrap64 (64 - a2))) then (some (shr .i64 (wrap64 (shl .u64 a0 (ji4))) (IntKind.u64.wrap (wrap64 (64 - a2))))) else (none)) else (none)) = some r := by (rw [hji4] at H; exact H)
  by_cases c5 : 0 ≤ (ji4)
  · rw [if_pos c5] at H
    have c5b0 := eq_true c5
    clear c5
    obtain ⟨ji6, hji6⟩ : ∃ j_ : Int, (shl .u64 a0 (ji4)) = j_ := ⟨_, rfl⟩
    replace H : (if 0 ≤ (IntKind.u64.wrap (wrap64 (64 - a2))) then (some (shr .i64 (wrap64 (ji6)) (IntKind.u64.wrap (wrap64 (64 - a2))))) else (none)) = some r := by (rw [hji6] at H; exact H)
    have hji6_ : (IntKind.u64.wrap (a0 * 2 ^ min (ji4).toNat 64)) = ji6 := hji6
    obtain ⟨ji7, hji7⟩ : ∃ j_ : Int, (IntKind.u64.wrap (wrap64 (64 - a2))) = j_ := ⟨_, rfl⟩
    replace H : (if 0 ≤ (ji7) then (some (shr .i64 (wrap64 (ji6)) (ji7))) else (none)) = some r := by (rw [hji7] at H; exact H)
    by_cases c8 : 0 ≤ (ji7)
    · rw [if_pos c8] at H
      have c8b0 := eq_true c8
      clear c8
      obtain ⟨ji9, hji9⟩ : ∃ j_ : Int, (shr .i64 (wrap64 (ji6)) (ji7)) = j_ := ⟨_, rfl⟩
      replace H : (some ji9) = some r := by (rw [hji9] at H; exact H)
      have hji9_ : ((wrap64 (ji6)) / 2 ^ min (ji7).toNat 64) = ji9 := hji9
      obtain rfl := Option.some.inj H
      go_enter Tryd.func76, Tryd.ntmps76
      go_wp2
      go_ret
      exact ⟨by rfl, by repeat (exact Drawn0.refl _)⟩
    · rw [if_neg c8] at H
      exact absurd H (by simp)
  · rw [if_neg c5] at H
    exact absurd H (by simp)

end Go.Proofs.YtcjhejopcghgnaaDoor.P

namespace Go.Proofs.YtcjhejopcghgnaaDoor.P
open Go.RowKit Go.Proofs.YtcjhejopcghgnaaDoorW.PrintWords Go.Proofs.YtcjhejopcghgnaaDoorW.PrintLast Go.Proofs.YtcjhejopcghgnaaDoorW.PrintMore
attribute [local go_sem] max2_int min2_int max_two min_two max_three min_three max_four min_four   -- for this text's walks alone
set_option linter.unusedVariables false
set_option linter.unusedSimpArgs false

variable {gb : Bool}
/-! ### pointer_decoders_1: function 75 -/
def pointer_decoders_1.f (a0 : Int) : Option (Int × Int × Int × Int × Int × Int × Bool × Int × Int × Int) := (word_Signed.f a0 2 30).bind fun t103 => ((word_Field.f a0 32 16).bind fun t104 => ((word_Field.f a0 48 16).bind fun t105 => (some (0, t103, wrap64 (t104), wrap64 (t105), 0, 0, false, 0, 0, 0))))
set_option maxHeartbeats 8000000 in
set_option maxRecDepth 100000 in
theorem pointer_decoders_1.calls (a0 r1 r2 r3 r4 r5 r6 : Int) (r7 : Bool) (r8 r9 r10 : Int) (w : World) (h : pointer_decoders_1.f a0 = some (r1, r2, r3, r4, r5, r6, r7, r8, r9, r10)) :
    Calls Tryd.prog 75 #[.int .u64 a0] w fun e w' => e = .returned (.agg #[.int .i64 r1, .int .i64 r2, .int .i64 r3, .int .i64 r4, .int .i64 r5, .int .i64 r6, .bool r7, .int .i64 r8, .int .u32 r9, .int .u32 r10]) ∧ Below w.heap.size w w' := by
  have HB := Aside0.mk (Below.refl w.heap.size w)
  have H : ((word_Signed.f a0 2 30).bind fun t103 => ((word_Field.f a0 32 16).bind fun t104 => ((word_Field.f a0 48 16).bind fun t105 => (some (0, t103, wrap64 (t104), wrap64 (t105), 0, 0, false, 0, 0, 0))))) = some (r1, r2, r3, r4, r5, r6, r7, r8, r9, r10) := h
  clear h
  replace H := Option.bind_eq_some_iff.mp H
  obtain ⟨t103, A20, H⟩ := H
  have A2 := Aside0.mk A20
  clear A20
  replace H := Option.bind_eq_some_iff.mp H
  obtain ⟨t104, A30, H⟩ := H
  replace H : ((word_Field.f a0 48 16).bind fun t105 => (some (0, t103, wrap64 (t104), wrap64 (t105), 0, 0, false, 0, 0, 0))) = some (r1, r2, r3, r4, r5, r6, r7, r8, r9, r10) := H
  have A3 := Aside0.mk A30
  clear A30
  replace H := Option.bind_eq_some_iff.mp H
  obtain ⟨t105, A40, H⟩ := H
  replace H : (some (0, t103, wrap64 (t104), wrap64 (t105), 0, 0, false, 0, 0, 0)) = some (r1, r2, r3, r4, r5, r6, r7, r8, r9, r10) := H
  have A4 := Aside0.mk A40
  clear A40
  simp only [Option.some.injEq, Prod.mk.injEq] at H
  obtain ⟨rfl, rfl, rfl, rfl, rfl, rfl, rfl, rfl, rfl, rfl⟩ := H
  go_enter Tryd.func75, Tryd.ntmps75
  go_wp2_with (first | ((with_reducible refine gate_dst (N := 2) rfl ?_); refine box_event ?hg (N := 2) ?hd (cs := #[.int .i64 0, .int .i64 0, .int .i64 0, .int .i64 0, .int .i64 0, .int .i64 0, .bool false, .int .i64 0, .int .u32 0, .int .u32 0]) (t := 39) ?hr ?_; (case hd => rfl); (case hg => rfl); (case hr => (go_simp; done)); intro gb102 hg w5 hbox hb; replace BK102 := Aside0.mk (hbox); replace GE102 := Aside0.mk (ge_of HB.out hg); replace HB := Aside0.mk (below_step HB.out hb); clear hb hbox hg) | ((with_reducible refine gate_callee (f := 76) rfl ?_); refine goesL_ (some 4) rfl rfl Tryd.func76 (by kernel_rfl) rfl #[.int .u64 a0, .int .i64 2, .int .i64 30] rfl (by (try simp only [List.map_toArray, List.map_cons, List.map_nil]); rfl) ?_; (with_reducible refine (word_Signed.calls a0 2 30 t103 _ A2.out).mono ?_); rintro e w' ⟨rfl, ⟨nd, rfl⟩⟩; refine ⟨_, rfl, ?_⟩; (try (rw [drewN_self w5]; generalize hq_ : World.drewN w5 _ = w5; replace BK102 := Aside0.mk (blk_q BK102.out hq_); replace HB := Aside0.mk (below_q HB.out hq_); clear hq_))) | ((with_reducible refine gate_callee (f := 47) rfl ?_); refine goesL_ (some 6) rfl rfl Tryd.func47 (by kernel_rfl) rfl #[.int .u64 a0, .int .i64 32, .int .i64 16] rfl (by (try simp only [List.map_toArray, List.map_cons, List.map_nil]); rfl) ?_; (with_reducible refine (word_Field.calls a0 32 16 t104 _ A3.out).mono ?_); rintro e w' ⟨rfl, ⟨nd, rfl⟩⟩; refine ⟨_, rfl, ?_⟩; (try (rw [drewN_self w5]; generalize hq_ : World.drewN w5 _ = w5; replace BK102 := Aside0.mk (blk_q BK102.out hq_); replace HB := Aside0.mk (below_q HB.out hq_); clear hq_))) | ((with_reducible refine gate_callee (f := 47) rfl ?_); refine goesL_ (some 9) rfl rfl Tryd.func47 (by kernel_rfl) rfl #[.int .u64 a0, .int .i64 48, .int .i64 16] rfl (by (try simp only [List.map_toArray, List.map_cons, List.map_nil]); rfl) ?_; (with_reducible refine (word_Field.calls a0 48 16 t105 _ A4.out).mono ?_); rintro e w' ⟨rfl, ⟨nd, rfl⟩⟩; refine ⟨_, rfl, ?_⟩; (try (rw [drewN_self w5]; generalize hq_ : World.drewN w5 _ = w5; replace BK102 := Aside0.mk (blk_q BK102.out hq_); replace HB := Aside0.mk (below_q HB.out hq_); clear hq_)); obtain ⟨hcz6_0, hcz6_1, hcz6_2, hcz6_3, hcz6_4, hcz6_5, hcz6_6, hcz6_7, hcz6_8, hcz6_9⟩ := cells10 BK102.out; obtain ⟨hfz6_0, hfz6_1, hfz6_2, hfz6_3, hfz6_4, hfz6_5, hfz6_6, hfz6_7, hfz6_8, hfz6_9⟩ := frz10 BK102.out))
  refine bodyPost_ret (results_cell_row rfl _ _ gb102 39 #[.int .i64 0, .int .i64 t103, .int .i64 (wrap64 (t104)), .int .i64 (wrap64 (t105)), .int .i64 0, .int .i64 0, .bool false, .int .i64 0, .int .u32 0, .int .u32 0] (0, 0) _ rfl (by exact put10 BK102.out) Tryd.underlying39 rfl (by kernel_rfl)) rfl ?_
  exact ⟨by rfl, by repeat ((with_reducible first | exact HB.out | refine below_set ?_ GE102.out))⟩

end Go.Proofs.YtcjhejopcghgnaaDoor.P

namespace Go.Proofs.YtcjhejopcghgnaaDoor.P
open Go.RowKit Go.Proofs.YtcjhejopcghgnaaDoorW.PrintWords Go.Proofs.YtcjhejopcghgnaaDoorW.PrintLast Go.Proofs.YtcjhejopcghgnaaDoorW.PrintMore
attribute [local go_sem] max2_int min2_int max_two min_two max_three min_three max_four min_four   -- for this text's walks alone
set_option linter.unusedVariables false
set_option linter.unusedSimpArgs false

variable {gb : Bool}
/-! ### pointer_decoders_2: function 77 -/
def pointer_decoders_2.f (a0 : Int) : Option (Int × Int × Int × Int × Int × Int × Bool × Int × Int × Int) := (word_Signed.f a0 2 30).bind fun t107 => ((word_Field.f a0 32 3).bind fun t108 => ((word_Field.f a0 35 29).bind fun t109 => (some (0, t107, 0, 0, wrap64 (t108), wrap64 (t109), false, 0, 0, 0))))
set_option maxHeartbeats 8000000 in
set_option maxRecDepth 100000 in
theorem pointer_decoders_2.calls (a0 r1 r2 r3 r4 r5 r6 : Int) (r7 : Bool) (r8 r9 r10 : Int) (w : World) (h : pointer_decoders_2.f a0 = some (r1, r2, r3, r4, r5, r6, r7, r8, r9, r10)) :
    Calls Tryd.prog 77 #[.int .u64 a0] w fun e w' => e = .returned (.agg #[.int .i64 r1, .int .i64 r2, .int .i64 r3, .int .i64 r4, .int .i64 r5, .int .i64 r6, .bool r7, .int .i64 r8, .int .u32 r9, .int .u32 r10]) ∧ Below w.heap.size w w' := by
  have HB := Aside0.mk (Below.refl w.heap.size w)
  have H : ((word_Signed.f a0 2 30).bind fun t107 => ((word_Field.f a0 32 3).bind fun t108 => ((word_Field.f a0 35 29).bind fun t109 => (some (0, t107, 0, 0, wrap64 (t108), wrap64 (t109), false, 0, 0, 0))))) = some (r1, r2, r3, r4, r5, r6, r7, r8, r9, r10) := h
  clear h
  replace H := Option.bind_eq_some_iff.mp H
  obtain ⟨t107, A20, H⟩ := H
  have A2 := Aside0.mk A20
  clear A20
  replace H := Option.bind_eq_some_iff.mp H
  obtain ⟨t108, A30, H⟩ := H
  replace H : ((word_Field.f a0 35 29).bind fun t109 => (some (0, t107, 0, 0, wrap64 (t108), wrap64 (t109), false, 0, 0, 0))) = some (r1, r2, r3, r4, r5, r6, r7, r8, r9, r10) := H
  have A3 := Aside0.mk A30
  clear A30
  replace H := Option.bind_eq_some_iff.mp H
  obtain ⟨t109, A40, H⟩ := H
  replace H : (some (0, t107, 0, 0, wrap64 (t108), wrap64 (t109), false, 0, 0, 0)) = some (r1, r2, r3, r4, r5, r6, r7, r8, r9, r10) := H
  have A4 := Aside0.mk A40
  clear A40
  simp only [Option.some.injEq, Prod.mk.injEq] at H
  obtain ⟨rfl, rfl, rfl, rfl, rfl, rfl, rfl, rfl, rfl, rfl⟩ := H
  go_enter Tryd.func77, Tryd.ntmps77
  go_wp2_with (first | ((with_reducible refine gate_dst (N := 2) rfl ?_); refine box_event ?hg (N := 2) ?hd (cs := #[.int .i64 0, .int .i64 0, .int .i64 0, .int .i64 0, .int .i64 0, .int .i64 0, .bool false, .int .i64 0, .int .u32 0, .int .u32 0]) (t := 39) ?hr ?_; (case hd => rfl); (case hg => rfl); (case hr => (go_simp; done)); intro gb106 hg w5 hbox hb; replace BK106 := Aside0.mk (hbox); replace GE106 := Aside0.mk (ge_of HB.out hg); replace HB := Aside0.mk (below_step HB.out hb); clear hb hbox hg) | ((with_reducible refine gate_callee (f := 76) rfl ?_); refine goesL_ (some 4) rfl rfl Tryd.func76 (by kernel_rfl) rfl #[.int .u64 a0, .int .i64 2, .int .i64 30] rfl (by (try simp only [List.map_toArray, List.map_cons, List.map_nil]); rfl) ?_; (with_reducible refine (word_Signed.calls a0 2 30 t107 _ A2.out).mono ?_); rintro e w' ⟨rfl, ⟨nd, rfl⟩⟩; refine ⟨_, rfl, ?_⟩; (try (rw [drewN_self w5]; generalize hq_ : World.drewN w5 _ = w5; replace BK106 := Aside0.mk (blk_q BK106.out hq_); replace HB := Aside0.mk (below_q HB.out hq_); clear hq_))) | ((with_reducible refine gate_callee (f := 47) rfl ?_); refine goesL_ (some 6) rfl rfl Tryd.func47 (by kernel_rfl) rfl #[.int .u64 a0, .int .i64 32, .int .i64 3] rfl (by (try simp only [List.map_toArray, List.map_cons, List.map_nil]); rfl) ?_; (with_reducible refine (word_Field.calls a0 32 3 t108 _ A3.out).mono ?_); rintro e w' ⟨rfl, ⟨nd, rfl⟩⟩; refine ⟨_, rfl, ?_⟩; (try (rw [drewN_self w5]; generalize hq_ : World.drewN w5 _ = w5; replace BK106 := Aside0.mk (blk_q BK106.out hq_); replace HB := Aside0.mk (below_q HB.out hq_); clear hq_))) | ((with_reducible refine gate_callee (f := 47) rfl ?_); refine goesL_ (some 9) rfl rfl Tryd.func47 (by kernel_rfl) rfl #[.int .u64 a0, .int .i64 35, .int .i64 29] rfl (by (try simp only [List.map_toArray, List.map_cons, List.map_nil]); rfl) ?_; (with_reducible refine (word_Field.calls a0 35 29 t109 _ A4.out).mono ?_); rintro e w' ⟨rfl, ⟨nd, rfl⟩⟩; refine ⟨_, rfl, ?_⟩; (try (rw [drewN_self w5]; generalize hq_ : World.drewN w5 _ = w5; replace BK106 := Aside0.mk (blk_q BK106.out hq_); replace HB := Aside0.mk (below_q HB.out hq_); clear hq_)); obtain ⟨hcz6_0, hcz6_1, hcz6_2, hcz6_3, hcz6_4, hcz6_5, hcz6_6, hcz6_7, hcz6_8, hcz6_9⟩ := cells10 BK106.out; obtain ⟨hfz6_0, hfz6_1, hfz6_2, hfz6_3, hfz6_4, hfz6_5, hfz6_6, hfz6_7, hfz6_8, hfz6_9⟩ := frz10 BK106.out))
  refine bodyPost_ret (results_cell_row rfl _ _ gb106 39 #[.int .i64 0, .int .i64 t107, .int .i64 0, .int .i64 0, .int .i64 (wrap64 (t108)), .int .i64 (wrap64 (t109)), .bool false, .int .i64 0, .int .u32 0, .int .u32 0] (0, 0) _ rfl (by exact put10 BK106.out) Tryd.underlying39 rfl (by kernel_rfl)) rfl ?_
  exact ⟨by rfl, by repeat ((with_reducible first | exact HB.out | refine below_set ?_ GE106.out))⟩

end Go.Proofs.YtcjhejopcghgnaaDoor.P

namespace Go.Proofs.YtcjhejopcghgnaaDoor.P
open Go.RowKit Go.Proofs.YtcjhejopcghgnaaDoorW.PrintWords Go.Proofs.YtcjhejopcghgnaaDoorW.PrintLast Go.Proofs.YtcjhejopcghgnaaDoorW.PrintMore
attribute [local go_sem] max2_int min2_int max_two min_two max_three min_three max_four min_four   -- for this text's walks alone
set_option linter.unusedVariables false
set_option linter.unusedSimpArgs false

variable {gb : Bool}
/-! ### pointer_decoders_3: function 78 -/
def pointer_decoders_3.f (a0 : Int) : Option (Int × Int × Int × Int × Int × Int × Bool × Int × Int × Int) := (word_Field.f a0 2 1).bind fun t111 => ((word_Field.f a0 3 29).bind fun t112 => ((word_Field.f a0 32 32).bind fun t113 => (some (0, 0, 0, 0, 0, 0, (t111 == 1), wrap64 (t112), (t113) % 4294967296, 0))))
set_option maxHeartbeats 8000000 in
set_option maxRecDepth 100000 in
theorem pointer_decoders_3.calls (a0 r1 r2 r3 r4 r5 r6 : Int) (r7 : Bool) (r8 r9 r10 : Int) (w : World) (h : pointer_decoders_3.f a0 = some (r1, r2, r3, r4, r5, r6, r7, r8, r9, r10)) :
    Calls Tryd.prog 78 #[.int .u64 a0] w fun e w' => e = .returned (.agg #[.int .i64 r1, .int .i64 r2, .int .i64 r3, .int .i64 r4, .int .i64 r5, .int .i64 r6, .bool r7, .int .i64 r8, .int .u32 r9, .int .u32 r10]) ∧ Below w.heap.size w w' := by
  have HB := Aside0.mk (Below.refl w.heap.size w)
  have H : ((word_Field.f a0 2 1).bind fun t111 => ((word_Field.f a0 3 29).bind fun t112 => ((word_Field.f a0 32 32).bind fun t113 => (some (0, 0, 0, 0, 0, 0, (t111 == 1), wrap64 (t112), (t113) % 4294967296, 0))))) = some (r1, r2, r3, r4, r5, r6, r7, r8, r9, r10) := h
  clear h
  replace H := Option.bind_eq_some_iff.mp H
  obtain ⟨t111, A20, H⟩ := H
  have A2 := Aside0.mk A20
  clear A20
  replace H := Option.bind_eq_some_iff.mp H
  obtain ⟨t112, A30, H⟩ := H
  replace H : ((word_Field.f a0 32 32).bind fun t113 => (some (0, 0, 0, 0, 0, 0, (t111 == 1), wrap64 (t112), (t113) % 4294967296, 0))) = some (r1, r2, r3, r4, r5, r6, r7, r8, r9, r10) := H
  have A3 := Aside0.mk A30
  clear A30
  replace H := Option.bind_eq_some_iff.mp H
  obtain ⟨t113, A40, H⟩ := H
  replace H : (some (0, 0, 0, 0, 0, 0, (t111 == 1), wrap64 (t112), (t113) % 4294967296, 0)) = some (r1, r2, r3, r4, r5, r6, r7, r8, r9, r10) := H
  have A4 := Aside0.mk A40
  clear A40
  simp only [Option.some.injEq, Prod.mk.injEq] at H
  obtain ⟨rfl, rfl, rfl, rfl, rfl, rfl, rfl, rfl, rfl, rfl⟩ := H
  go_enter Tryd.func78, Tryd.ntmps78
  go_wp2_with (first | ((with_reducible refine gate_dst (N := 2) rfl ?_); refine box_event ?hg (N := 2) ?hd (cs := #[.int .i64 0, .int .i64 0, .int .i64 0, .int .i64 0, .int .i64 0, .int .i64 0, .bool false, .int .i64 0, .int .u32 0, .int .u32 0]) (t := 39) ?hr ?_; (case hd => rfl); (case hg => rfl); (case hr => (go_simp; done)); intro gb110 hg w5 hbox hb; replace BK110 := Aside0.mk (hbox); replace GE110 := Aside0.mk (ge_of HB.out hg); replace HB := Aside0.mk (below_step HB.out hb); clear hb hbox hg) | ((with_reducible refine gate_callee (f := 47) rfl ?_); refine goesL_ (some 4) rfl rfl Tryd.func47 (by kernel_rfl) rfl #[.int .u64 a0, .int .i64 2, .int .i64 1] rfl (by (try simp only [List.map_toArray, List.map_cons, List.map_nil]); rfl) ?_; (with_reducible refine (word_Field.calls a0 2 1 t111 _ A2.out).mono ?_); rintro e w' ⟨rfl, ⟨nd, rfl⟩⟩; refine ⟨_, rfl, ?_⟩; (try (rw [drewN_self w5]; generalize hq_ : World.drewN w5 _ = w5; replace BK110 := Aside0.mk (blk_q BK110.out hq_); replace HB := Aside0.mk (below_q HB.out hq_); clear hq_))) | ((with_reducible refine gate_callee (f := 47) rfl ?_); refine goesL_ (some 7) rfl rfl Tryd.func47 (by kernel_rfl) rfl #[.int .u64 a0, .int .i64 3, .int .i64 29] rfl (by (try simp only [List.map_toArray, List.map_cons, List.map_nil]); rfl) ?_; (with_reducible refine (word_Field.calls a0 3 29 t112 _ A3.out).mono ?_); rintro e w' ⟨rfl, ⟨nd, rfl⟩⟩; refine ⟨_, rfl, ?_⟩; (try (rw [drewN_self w5]; generalize hq_ : World.drewN w5 _ = w5; replace BK110 := Aside0.mk (blk_q BK110.out hq_); replace HB := Aside0.mk (below_q HB.out hq_); clear hq_))) | ((with_reducible refine gate_callee (f := 47) rfl ?_); refine goesL_ (some 10) rfl rfl Tryd.func47 (by kernel_rfl) rfl #[.int .u64 a0, .int .i64 32, .int .i64 32] rfl (by (try simp only [List.map_toArray, List.map_cons, List.map_nil]); rfl) ?_; (with_reducible refine (word_Field.calls a0 32 32 t113 _ A4.out).mono ?_); rintro e w' ⟨rfl, ⟨nd, rfl⟩⟩; refine ⟨_, rfl, ?_⟩; (try (rw [drewN_self w5]; generalize hq_ : World.drewN w5 _ = w5; replace BK110 := Aside0.mk (blk_q BK110.out hq_); replace HB := Aside0.mk (below_q HB.out hq_); clear hq_)); obtain ⟨hcz6_0, hcz6_1, hcz6_2, hcz6_3, hcz6_4, hcz6_5, hcz6_6, hcz6_7, hcz6_8, hcz6_9⟩ := cells10 BK110.out; obtain ⟨hfz6_0, hfz6_1, hfz6_2, hfz6_3, hfz6_4, hfz6_5, hfz6_6, hfz6_7, hfz6_8, hfz6_9⟩ := frz10 BK110.out))
  refine bodyPost_ret (results_cell_row rfl _ _ gb110 39 #[.int .i64 0, .int .i64 0, .int .i64 0, .int .i64 0, .int .i64 0, .int .i64 0, .bool (t111 == 1), .int .i64 (wrap64 (t112)), .int .u32 ((t113) % 4294967296), .int .u32 0] (0, 0) _ rfl (by exact put10 BK110.out) Tryd.underlying39 rfl (by kernel_rfl)) rfl ?_
  exact ⟨by rfl, by repeat ((with_reducible first | exact HB.out | refine below_set ?_ GE110.out))⟩

end Go.Proofs.YtcjhejopcghgnaaDoor.P

namespace Go.Proofs.YtcjhejopcghgnaaDoor.P
open Go.RowKit Go.Proofs.YtcjhejopcghgnaaDoorW.PrintWords Go.Proofs.YtcjhejopcghgnaaDoorW.PrintLast Go.Proofs.YtcjhejopcghgnaaDoorW.PrintMore
attribute [local go_sem] max2_int min2_int max_two min_two max_three min_three max_four min_four   -- for this text's walks alone
set_option linter.unusedVariables false
set_option linter.unusedSimpArgs false

variable {gb : Bool}
/-! ### pointer_decoders_4: function 79 -/
def pointer_decoders_4.f (a0 : Int) : Option (Int × Int × Int × Int × Int × Int × Bool × Int × Int × Int) := (word_Field.f a0 2 30).bind fun t115 => ((word_Field.f a0 32 32).bind fun t116 => (some (0, 0, 0, 0, 0, 0, false, 0, (t116) % 4294967296, (t115) % 4294967296)))
set_option maxHeartbeats 8000000 in
set_option maxRecDepth 100000 in
theorem pointer_decoders_4.calls (a0 r1 r2 r3 r4 r5 r6 : Int) (r7 : Bool) (r8 r9 r10 : Int) (w : World) (h : pointer_decoders_4.f a0 = some (r1, r2, r3, r4, r5, r6, r7, r8, r9, r10)) :
    Calls Tryd.prog 79 #[.int .u64 a0] w fun e w' => e = .returned (.agg #[.int .i64 r1, .int .i64 r2, .int .i64 r3, .int .i64 r4, .int .i64 r5, .int .i64 r6, .bool r7, .int .i64 r8, .int .u32 r9, .int .u32 r10]) ∧ Below w.heap.size w w' := by
  have HB := Aside0.mk (Below.refl w.heap.size w)
  have H : ((word_Field.f a0 2 30).bind fun t115 => ((word_Field.f a0 32 32).bind fun t116 => (some (0, 0, 0, 0, 0, 0, false, 0, (t116) % 4294967296, (t115) % 4294967296)))) = some (r1, r2, r3, r4, r5, r6, r7, r8, r9, r10) := h
  clear h
  replace H := Option.bind_eq_some_iff.mp H
  obtain ⟨t115, A20, H⟩ := H
  replace H : ((word_Field.f a0 32 32).bind fun t116 => (some (0, 0, 0, 0, 0, 0, false, 0, (t116) % 4294967296, (t115) % 4294967296))) = some (r1, r2, r3, r4, r5, r6, r7, r8, r9, r10) := H
  have A2 := Aside0.mk A20
  clear A20
  replace H := Option.bind_eq_some_iff.mp H
  obtain ⟨t116, A30, H⟩ := H
  replace H : (some (0, 0, 0, 0, 0, 0, false, 0, (t116) % 4294967296, (t115) % 4294967296)) = some (r1, r2, r3, r4, r5, r6, r7, r8, r9, r10) := H
  have A3 := Aside0.mk A30
  clear A30
  simp only [Option.some.injEq, Prod.mk.injEq] at H
  obtain ⟨rfl, rfl, rfl, rfl, rfl, rfl, rfl, rfl, rfl, rfl⟩ := H
  go_enter Tryd.func79, Tryd.ntmps79
  go_wp2_with (first | ((with_reducible refine gate_dst (N := 2) rfl ?_); refine box_event ?hg (N := 2) ?hd (cs := #[.int .i64 0, .int .i64 0, .int .i64 0, .int .i64 0, .int .i64 0, .int .i64 0, .bool false, .int .i64 0, .int .u32 0, .int .u32 0]) (t := 39) ?hr ?_; (case hd => rfl); (case hg => rfl); (case hr => (go_simp; done)); intro gb114 hg w4 hbox hb; replace BK114 := Aside0.mk (hbox); replace GE114 := Aside0.mk (ge_of HB.out hg); replace HB := Aside0.mk (below_step HB.out hb); clear hb hbox hg) | ((with_reducible refine gate_callee (f := 47) rfl ?_); refine goesL_ (some 4) rfl rfl Tryd.func47 (by kernel_rfl) rfl #[.int .u64 a0, .int .i64 2, .int .i64 30] rfl (by (try simp only [List.map_toArray, List.map_cons, List.map_nil]); rfl) ?_; (with_reducible refine (word_Field.calls a0 2 30 t115 _ A2.out).mono ?_); rintro e w' ⟨rfl, ⟨nd, rfl⟩⟩; refine ⟨_, rfl, ?_⟩; (try (rw [drewN_self w4]; generalize hq_ : World.drewN w4 _ = w4; replace BK114 := Aside0.mk (blk_q BK114.out hq_); replace HB := Aside0.mk (below_q HB.out hq_); clear hq_))) | ((with_reducible refine gate_callee (f := 47) rfl ?_); refine goesL_ (some 7) rfl rfl Tryd.func47 (by kernel_rfl) rfl #[.int .u64 a0, .int .i64 32, .int .i64 32] rfl (by (try simp only [List.map_toArray, List.map_cons, List.map_nil]); rfl) ?_; (with_reducible refine (word_Field.calls a0 32 32 t116 _ A3.out).mono ?_); rintro e w' ⟨rfl, ⟨nd, rfl⟩⟩; refine ⟨_, rfl, ?_⟩; (try (rw [drewN_self w4]; generalize hq_ : World.drewN w4 _ = w4; replace BK114 := Aside0.mk (blk_q BK114.out hq_); replace HB := Aside0.mk (below_q HB.out hq_); clear hq_)); obtain ⟨hcz5_0, hcz5_1, hcz5_2, hcz5_3, hcz5_4, hcz5_5, hcz5_6, hcz5_7, hcz5_8, hcz5_9⟩ := cells10 BK114.out; obtain ⟨hfz5_0, hfz5_1, hfz5_2, hfz5_3, hfz5_4, hfz5_5, hfz5_6, hfz5_7, hfz5_8, hfz5_9⟩ := frz10 BK114.out))
  refine bodyPost_ret (results_cell_row rfl _ _ gb114 39 #[.int .i64 0, .int .i64 0, .int .i64 0, .int .i64 0, .int .i64 0, .int .i64 0, .bool false, .int .i64 0, .int .u32 ((t116) % 4294967296), .int .u32 ((t115) % 4294967296)] (0, 0) _ rfl (by exact put10 BK114.out) Tryd.underlying39 rfl (by kernel_rfl)) rfl ?_
  exact ⟨by rfl, by repeat ((with_reducible first | exact HB.out | refine below_set ?_ GE114.out))⟩

end Go.Proofs.YtcjhejopcghgnaaDoor.P

namespace Go.Proofs.YtcjhejopcghgnaaDoor.P
open Go.RowKit Go.Proofs.YtcjhejopcghgnaaDoorW.PrintWords Go.Proofs.YtcjhejopcghgnaaDoorW.PrintLast Go.Proofs.YtcjhejopcghgnaaDoorW.PrintMore
attribute [local go_sem] max2_int min2_int max_two min_two max_three min_three max_four min_four   -- for this text's walks alone
set_option linter.unusedVariables false
set_option linter.unusedSimpArgs false

variable {gb : Bool}
/-! ### pointer_Decode: function 34 -/
def pointer_Decode.f (a0 : Int) : Option (Int × Int × Int × Int × Int × Int × Bool × Int × Int × Int) := (word_Field.f a0 0 2).bind fun k => if k = 0 then ((pointer_decoders_1.f a0).bind fun r => some (0, r.2)) else (if k = 1 then ((pointer_decoders_2.f a0).bind fun r => some (1, r.2)) else (if k = 2 then ((pointer_decoders_3.f a0).bind fun r => some (2, r.2)) else (if k = 3 then ((pointer_decoders_4.f a0).bind fun r => some (3, r.2)) else none)))
theorem pointer_Decode.cases (a0 : Int) (r1 r2 r3 r4 r5 r6 : Int) (r7 : Bool) (r8 r9 r10 : Int) (h : pointer_Decode.f a0 = some (r1, r2, r3, r4, r5, r6, r7, r8, r9, r10)) :
    (∃ r, word_Field.f a0 0 2 = some 0 ∧ r1 = 0 ∧ pointer_decoders_1.f a0 = some (r, r2, r3, r4, r5, r6, r7, r8, r9, r10)) ∨ (∃ r, word_Field.f a0 0 2 = some 1 ∧ r1 = 1 ∧ pointer_decoders_2.f a0 = some (r, r2, r3, r4, r5, r6, r7, r8, r9, r10)) ∨
    (∃ r, word_Field.f a0 0 2 = some 2 ∧ r1 = 2 ∧ pointer_decoders_3.f a0 = some (r, r2, r3, r4, r5, r6, r7, r8, r9, r10)) ∨ (∃ r, word_Field.f a0 0 2 = some 3 ∧ r1 = 3 ∧ pointer_decoders_4.f a0 = some (r, r2, r3, r4, r5, r6, r7, r8, r9, r10)) := by
  unfold pointer_Decode.f at h
  obtain ⟨k, hk, h⟩ := Option.bind_eq_some_iff.mp h
  split at h
  · obtain ⟨⟨r, q⟩, hr, h⟩ := Option.bind_eq_some_iff.mp h
    simp only [Option.some.injEq, Prod.mk.injEq] at h
    obtain ⟨rfl, rfl⟩ := h
    exact .inl ⟨r, by simp_all, rfl, hr⟩
  split at h
  · obtain ⟨⟨r, q⟩, hr, h⟩ := Option.bind_eq_some_iff.mp h
    simp only [Option.some.injEq, Prod.mk.injEq] at h
    obtain ⟨rfl, rfl⟩ := h
    exact .inr (.inl ⟨r, by simp_all, rfl, hr⟩)
  split at h
  · obtain ⟨⟨r, q⟩, hr, h⟩ := Option.bind_eq_some_iff.mp h
    simp only [Option.some.injEq, Prod.mk.injEq] at h
    obtain ⟨rfl, rfl⟩ := h
    exact .inr (.inr (.inl ⟨r, by simp_all, rfl, hr⟩))
  split at h
  · obtain ⟨⟨r, q⟩, hr, h⟩ := Option.bind_eq_some_iff.mp h
    simp only [Option.some.injEq, Prod.mk.injEq] at h
    obtain ⟨rfl, rfl⟩ := h
    exact .inr (.inr (.inr ⟨r, by simp_all, rfl, hr⟩))
  · exact absurd h (by simp)
set_option maxHeartbeats 1600000 in
set_option maxRecDepth 100000 in
theorem pointer_Decode.calls (a0 r1 r2 r3 r4 r5 r6 : Int) (r7 : Bool) (r8 r9 r10 : Int) (w : World) (hG : Glob gb w) (h : pointer_Decode.f a0 = some (r1, r2, r3, r4, r5, r6, r7, r8, r9, r10)) :
    Calls Tryd.prog 34 #[.int .u64 a0] w fun e w' => e = .returned (.agg #[.int .i64 r1, .int .i64 r2, .int .i64 r3, .int .i64 r4, .int .i64 r5, .int .i64 r6, .bool r7, .int .i64 r8, .int .u32 r9, .int .u32 r10]) ∧ Below w.heap.size w w' := by
  obtain ⟨bm, es, clock, hc, hm, hl⟩ := hG.dec
  have Hl := Aside0.mk hl
  clear hl hG
  have hsz : 0 < w.heap.size := World.block_lt_of_cell? w _ hc
  rcases pointer_Decode.cases _ _ _ _ _ _ _ _ _ _ _ h with ⟨r, hk, hr1, hd⟩ | ⟨r, hk, hr1, hd⟩ | ⟨r, hk, hr1, hd⟩ | ⟨r, hk, hr1, hd⟩
  all_goals
    have Hk := Aside0.mk hk
    have H := Aside0.mk hd
    have Hr := Aside0.mk hr1
    clear h hk hd hr1
    go_enter Tryd.func34, Tryd.ntmps34
    go_wp2_with fail
    refine (word_Field.calls a0 0 2 _ _ Hk.out).mono ?_
    rintro e w1 ⟨rfl, hd⟩
    have hb1 := hd.below
    clear hd
    have hc1 := (hb1.cell (p := ⟨0, 0, none⟩) (by simp)).trans (World.cell?_alloc_past _ _ _ hsz |>.trans hc)
    have hm1 : w1.heap[bm]? = some (.map es clock) := blk_below (blk_alloc hm _) hb1
    obtain ⟨hl0, hl1, hl2, hl3⟩ := Hl.out w1 hm1
    have hx1 := blk_below (blk_new w _) hb1
    have HB1 := Aside0.mk (below_step (below_alloc (Below.refl w.heap.size w) _) hb1)
    clear hb1
    go_wp2_with fail
    first
    | (go_at_call 75; refine (pointer_decoders_1.calls a0 _ _ _ _ _ _ _ _ _ _ _ H.out).mono ?_)
    | (go_at_call 77; refine (pointer_decoders_2.calls a0 _ _ _ _ _ _ _ _ _ _ _ H.out).mono ?_)
    | (go_at_call 78; refine (pointer_decoders_3.calls a0 _ _ _ _ _ _ _ _ _ _ _ H.out).mono ?_)
    | (go_at_call 79; refine (pointer_decoders_4.calls a0 _ _ _ _ _ _ _ _ _ _ _ H.out).mono ?_)
    rintro e w2 ⟨rfl, hb2⟩
    have hx2 := blk_below hx1 hb2
    have HB2 := Aside0.mk (below_step HB1.out hb2)
    have hs2 : w.heap.size < w2.heap.size := lt_of_block hx2
    have hcs : ∀ i, w2.cell? ⟨w.heap.size, i, none⟩ = _ := fun i => blk_cell hx2 i
    have hfr : ∀ i, w2.frozen? ⟨w.heap.size, i, none⟩ = false := fun i => blk_frozen hx2 i
    clear hb2 hc1 hm1 hl0 hl1 hl2 hl3 hx1 hc hm HB1
    go_wp2
    refine bodyPost_ret (v := .agg #[.int .i64 r1, .int .i64 r2, .int .i64 r3, .int .i64 r4, .int .i64 r5, .int .i64 r6, .bool r7, .int .i64 r8, .int .u32 r9, .int .u32 r10]) (by rw [Hr.out]; simp [results, Tryd.results34, go_sem, hcs, hfr, hs2]) rfl ⟨rfl, ?_⟩
    repeat (with_reducible first | exact HB2.out | apply below_alloc | refine below_set ?_ (Nat.le_refl _))

end Go.Proofs.YtcjhejopcghgnaaDoor.P

namespace Go.Proofs.YtcjhejopcghgnaaDoor.P
open Go.RowKit Go.Proofs.YtcjhejopcghgnaaDoorW.PrintWords Go.Proofs.YtcjhejopcghgnaaDoorW.PrintLast Go.Proofs.YtcjhejopcghgnaaDoorW.PrintMore
attribute [local go_sem] max2_int min2_int max_two min_two max_three min_three max_four min_four   -- for this text's walks alone
set_option linter.unusedVariables false
set_option linter.unusedSimpArgs false

variable {gb : Bool}
/-! ### far_IsFar: function 16 -/
def far_IsFar.f (a0 : Int) : Option (Bool) := (pointer_Decode.f a0).bind fun p => some (p.1 == 2)
set_option maxHeartbeats 1600000 in
set_option maxRecDepth 100000 in
theorem far_IsFar.calls (a0 : Int) (r : Bool) (w : World) (hG : Glob gb w) (h : far_IsFar.f a0 = some r) :
    Calls Tryd.prog 16 #[.int .u64 a0] w fun e w' => e = .returned (.bool r) ∧ Below w.heap.size w w' := by
  unfold far_IsFar.f at h
  obtain ⟨⟨p1, p2, p3, p4, p5, p6, p7, p8, p9, p10⟩, hp, h⟩ := Option.bind_eq_some_iff.mp h
  obtain rfl := Option.some.inj h
  have hf : ∀ W : World, (Instr.field 39 (Value.agg #[.int .i64 p1, .int .i64 p2, .int .i64 p3, .int .i64 p4, .int .i64 p5, .int .i64 p6, .bool p7, .int .i64 p8, .int .u32 p9, .int .u32 p10]) 0).run Tryd.prog W = .ok (.int .i64 p1) W := fun W => by kernel_rfl
  have HP := Aside0.mk hp
  have HG := Aside0.mk hG
  clear hp hG h
  go_enter Tryd.func16, Tryd.ntmps16
  go_wp2_with fail
  refine (pointer_Decode.calls _ _ _ _ _ _ _ _ _ _ _ w HG.out HP.out).mono ?_
  rintro e w1 ⟨rfl, hb⟩
  have HB := Aside0.mk hb
  clear hb
  go_wp2
  go_ret
  exact ⟨by rfl, HB.out⟩

end Go.Proofs.YtcjhejopcghgnaaDoor.P

namespace Go.Proofs.YtcjhejopcghgnaaDoor.P
open Go.RowKit Go.Proofs.YtcjhejopcghgnaaDoorW.PrintWords Go.Proofs.YtcjhejopcghgnaaDoorW.PrintLast Go.Proofs.YtcjhejopcghgnaaDoorW.PrintMore
attribute [local go_sem] max2_int min2_int max_two min_two max_three min_three max_four min_four   -- for this text's walks alone
set_option linter.unusedVariables false
set_option linter.unusedSimpArgs false

variable {gb : Bool}
theorem eqA60 (d : Nat) (w : World) (x0 y0 : Int) (x1 y1 : Int) (x2 y2 : Int) :
    (Op.equalIn (d + 2) 60 (.agg #[.int .u64 x0, .int .i64 x1, .int .i64 x2]) (.agg #[.int .u64 y0, .int .i64 y1, .int .i64 y2])).run Tryd.prog w = .ok (x0 == y0 && (x1 == y1 && (x2 == y2))) w := by
  refine eqA_of Tryd.underlying60 (by kernel_rfl) ?_
  refine eqf_cons (by rfl) (by go_simp; rfl) (by go_simp; rfl) (by go_simp) ?_
  refine eqf_cons (by rfl) (by go_simp; rfl) (by go_simp; rfl) (by go_simp) ?_
  exact eqf_last (by rfl) (by go_simp; rfl) (by go_simp; rfl) (by go_simp)
end Go.Proofs.YtcjhejopcghgnaaDoor.P

namespace Go.Proofs.YtcjhejopcghgnaaDoor.P
open Go.RowKit Go.Proofs.YtcjhejopcghgnaaDoorW.PrintWords Go.Proofs.YtcjhejopcghgnaaDoorW.PrintLast Go.Proofs.YtcjhejopcghgnaaDoorW.PrintMore
attribute [local go_sem] max2_int min2_int max_two min_two max_three min_three max_four min_four   -- for this text's walks alone
set_option linter.unusedVariables false
set_option linter.unusedSimpArgs false

variable {gb : Bool}
/-! ### arena_InBounds: function 46 -/
def arena_InBounds.f (l0 : List (List Int)) (a1 a2 a3 : Int) : Option (Bool) := if a1 ≥ 0 then (if a1 < (l0.length : Int) then (if a2 ≥ 0 then (if a3 ≥ 0 then (if 0 ≤ a1 then (if a2 ≤ ((rd_L5 l0 a1).length : Int) then (some (decide (a3 ≤ (wrap64 (((rd_L5 l0 a1).length : Int) - a2))))) else (some false)) else (none)) else (some false)) else (some false)) else (some false)) else (some false)
set_option maxHeartbeats 8000000 in
set_option maxRecDepth 100000 in
theorem arena_InBounds.calls (A0 : Option Addr) (c0 : Nat) (l0 : List (List Int)) (a1 a2 a3 : Int) (r : Bool) (w : World) (hr0 : Kd.C (Kd.slice 23 (Kd.int .u64)) w A0 l0.length l0) (hc0 : l0.length ≤ c0) (h : arena_InBounds.f l0 a1 a2 a3 = some r) :
    Calls Tryd.prog 46 #[.slice A0 l0.length c0, .int .i64 a1, .int .i64 a2, .int .i64 a3] w fun e w' => e = .returned (.bool r) ∧ Drawn0 w w' := by
  have HR0 := Aside0.mk hr0
  clear hr0 hc0
  have H := h
  unfold arena_InBounds.f at H
  clear h
  by_cases c5 : a1 ≥ 0
  · rw [if_pos c5] at H
    have c5b0 : decide (0 ≤ a1) = true := decide_eq_true c5
    clear c5
    by_cases c6 : a1 < (l0.length : Int)
    · rw [if_pos c6] at H
      have c6b0 : decide (a1 < (l0.length : Int)) = true := decide_eq_true c6
      clear c6
      by_cases c7 : a2 ≥ 0
      · rw [if_pos c7] at H
        have c7b0 : decide (0 ≤ a2) = true := decide_eq_true c7
        clear c7
        by_cases c8 : a3 ≥ 0
        · rw [if_pos c8] at H
          have c8b0 : decide (0 ≤ a3) = true := decide_eq_true c8
          clear c8
          by_cases c9 : 0 ≤ a1
          · rw [if_pos c9] at H
            have c9b0 : decide (0 ≤ a1) = true := decide_eq_true c9
            clear c9
            by_cases c10 : a2 ≤ ((rd_L5 l0 a1).length : Int)
            · rw [if_pos c10] at H
              have c10b0 : decide (a2 ≤ ((rd_L5 l0 a1).length : Int)) = true := decide_eq_true c10
              clear c10
              obtain rfl := Option.some.inj H
              have p117 : 0 ≤ (a1 : Int) := of_decide_eq_true (by (with_reducible assumption))
              have q117 : a1 < (l0.length : Int) := of_decide_eq_true (by (with_reducible assumption))
              obtain ⟨ad117, A117_0, c117_0, e117, hx117_0, hl117_0, hi117_0⟩ := at_L5 HR0.out a1 p117 q117
              cases e117
              clear hi117_0 hl117_0
              replace p117 := eq_true p117
              replace q117 := eq_true q117
              have p118 : 0 ≤ (a1 : Int) := of_decide_eq_true (by (with_reducible assumption))
              have q118 : a1 < (l0.length : Int) := of_decide_eq_true (by (with_reducible assumption))
              obtain ⟨ad118, A118_0, c118_0, e118, hx118_0, hl118_0, hi118_0⟩ := at_L5 HR0.out a1 p118 q118
              obtain rfl : ad117 = ad118 := (by injection e118)
              have HR118_0 := Aside0.mk hi118_0
              have HC118_0 := Aside0.mk hl118_0
              clear hi118_0 hl118_0
              replace p118 := eq_true p118
              replace q118 := eq_true q118
              have ea_ := Option.some.inj (hx117_0.symm.trans hx118_0)
              injection ea_ with ea_ en_ ec_
              subst ea_
              subst ec_
              clear en_
              go_enter Tryd.func46, Tryd.ntmps46
              go_wp2
              go_ret
              exact ⟨by rfl, by repeat (exact Drawn0.refl _)⟩
            · rw [if_neg c10] at H
              have c10b0 : decide (a2 ≤ ((rd_L5 l0 a1).length : Int)) = false := decide_eq_false c10
              clear c10
              obtain rfl := Option.some.inj H
              have p117 : 0 ≤ (a1 : Int) := of_decide_eq_true (by (with_reducible assumption))
              have q117 : a1 < (l0.length : Int) := of_decide_eq_true (by (with_reducible assumption))
              obtain ⟨ad117, A117_0, c117_0, e117, hx117_0, hl117_0, hi117_0⟩ := at_L5 HR0.out a1 p117 q117
              cases e117
              clear hi117_0 hl117_0
              replace p117 := eq_true p117
              replace q117 := eq_true q117
              go_enter Tryd.func46, Tryd.ntmps46
              go_wp2
              go_ret
              exact ⟨by rfl, by repeat (exact Drawn0.refl _)⟩
          · rw [if_neg c9] at H
            exact absurd H (by simp)
        · rw [if_neg c8] at H
          have c8b0 : decide (0 ≤ a3) = false := decide_eq_false c8
          clear c8
          obtain rfl := Option.some.inj H
          go_enter Tryd.func46, Tryd.ntmps46
          go_wp2
          go_ret
          exact ⟨by rfl, by repeat (exact Drawn0.refl _)⟩
      · rw [if_neg c7] at H
        have c7b0 : decide (0 ≤ a2) = false := decide_eq_false c7
        clear c7
        obtain rfl := Option.some.inj H
        go_enter Tryd.func46, Tryd.ntmps46
        go_wp2
        go_ret
        exact ⟨by rfl, by repeat (exact Drawn0.refl _)⟩
    · rw [if_neg c6] at H
      have c6b0 : decide (a1 < (l0.length : Int)) = false := decide_eq_false c6
      clear c6
      obtain rfl := Option.some.inj H
      go_enter Tryd.func46, Tryd.ntmps46
      go_wp2
      go_ret
      exact ⟨by rfl, by repeat (exact Drawn0.refl _)⟩
  · rw [if_neg c5] at H
    have c5b0 : decide (0 ≤ a1) = false := decide_eq_false c5
    clear c5
    obtain rfl := Option.some.inj H
    go_enter Tryd.func46, Tryd.ntmps46
    go_wp2
    go_ret
    exact ⟨by rfl, by repeat (exact Drawn0.refl _)⟩

end Go.Proofs.YtcjhejopcghgnaaDoor.P

namespace Go.Proofs.YtcjhejopcghgnaaDoor.P
open Go.RowKit Go.Proofs.YtcjhejopcghgnaaDoorW.PrintWords Go.Proofs.YtcjhejopcghgnaaDoorW.PrintLast Go.Proofs.YtcjhejopcghgnaaDoorW.PrintMore
attribute [local go_sem] max2_int min2_int max_two min_two max_three min_three max_four min_four   -- for this text's walks alone
set_option linter.unusedVariables false
set_option linter.unusedSimpArgs false

variable {gb : Bool}
/-! ### arena_Word: function 32 -/
def arena_Word.f (l0 : List (List Int)) (a1 a2 : Int) : Option (Int × Bool) := (arena_InBounds.f l0 a1 a2 1).bind fun t119 => (if t119 = true then (if 0 ≤ a1 then (if a1 < (l0.length : Int) then (if 0 ≤ a2 then (if a2 < ((rd_L5 l0 a1).length : Int) then (some (rd (rd_L5 l0 a1) a2, true)) else (none)) else (none)) else (none)) else (none)) else (some (0, false)))
set_option maxHeartbeats 8000000 in
set_option maxRecDepth 100000 in
theorem arena_Word.calls (A0 : Option Addr) (c0 : Nat) (l0 : List (List Int)) (a1 a2 r1 : Int) (r2 : Bool) (w : World) (hr0 : Kd.C (Kd.slice 23 (Kd.int .u64)) w A0 l0.length l0) (hc0 : l0.length ≤ c0) (h : arena_Word.f l0 a1 a2 = some (r1, r2)) :
    Calls Tryd.prog 32 #[.slice A0 l0.length c0, .int .i64 a1, .int .i64 a2] w fun e w' => e = .returned (.tuple #[.int .u64 r1, .bool r2]) ∧ Drawn0 w w' := by
  have HR0 := Aside0.mk hr0
  have HC0 := Aside0.mk hc0
  clear hr0 hc0
  have H := h
  unfold arena_Word.f at H
  clear h
  replace H := Option.bind_eq_some_iff.mp H
  obtain ⟨t119, A40, H⟩ := H
  have A4 := Aside0.mk A40
  clear A40
  by_cases c5 : t119 = true
  · subst c5
    have H1 : (if 0 ≤ a1 then (if a1 < (l0.length : Int) then (if 0 ≤ a2 then (if a2 < ((rd_L5 l0 a1).length : Int) then (some (rd (rd_L5 l0 a1) a2, true)) else (none)) else (none)) else (none)) else (none)) = some (r1, r2) := by rw [if_pos rfl] at H; exact H
    clear H
    have H := H1
    clear H1
    by_cases c6 : 0 ≤ a1
    · rw [if_pos c6] at H
      have c6b0 : decide (0 ≤ a1) = true := decide_eq_true c6
      clear c6
      by_cases c7 : a1 < (l0.length : Int)
      · rw [if_pos c7] at H
        have c7b0 : decide (a1 < (l0.length : Int)) = true := decide_eq_true c7
        clear c7
        by_cases c8 : 0 ≤ a2
        · rw [if_pos c8] at H
          have c8b0 : decide (0 ≤ a2) = true := decide_eq_true c8
          clear c8
          by_cases c9 : a2 < ((rd_L5 l0 a1).length : Int)
          · rw [if_pos c9] at H
            have c9b0 : decide (a2 < ((rd_L5 l0 a1).length : Int)) = true := decide_eq_true c9
            clear c9
            simp only [Option.some.injEq, Prod.mk.injEq] at H
            obtain ⟨rfl, rfl⟩ := H
            go_enter Tryd.func32, Tryd.ntmps32
            go_wp2_with (((with_reducible refine gate_callee (f := 46) rfl ?_); refine goesL_ (some 11) rfl rfl Tryd.func46 (by kernel_rfl) rfl #[.slice A0 l0.length c0, .int .i64 a1, .int .i64 a2, .int .i64 1] rfl (by (try simp only [List.map_toArray, List.map_cons, List.map_nil]); rfl) ?_; (with_reducible refine (arena_InBounds.calls _ _ l0 a1 a2 1 true _ ?side1 ?side2 A4.out).mono ?_); (case side1 => repeat (exact HR0.out)); (case side2 => exact HC0.out); rintro e w' ⟨rfl, ⟨nd, rfl⟩⟩; refine ⟨_, rfl, ?_⟩; have p120 : 0 ≤ (a1 : Int) := of_decide_eq_true (by (with_reducible assumption)); have q120 : a1 < (l0.length : Int) := of_decide_eq_true (by (with_reducible assumption)); obtain ⟨ad120, A120_0, c120_0, e120, hx120_0, hl120_0, hi120_0⟩ := at_L5 HR0.out a1 p120 q120; cases e120; have HR120_0 := Aside0.mk hi120_0; clear hi120_0 hl120_0; replace p120 := eq_true p120; replace q120 := eq_true q120; have p121 : 0 ≤ (a2 : Int) := of_decide_eq_true (by (with_reducible assumption)); have q121 : a2 < ((rd_L5 l0 a1).length : Int) := of_decide_eq_true (by (with_reducible assumption)); obtain ⟨ad121, e121, hx121_0⟩ := Kd.at_int HR120_0.out a2 p121 q121; cases e121; replace p121 := eq_true p121; replace q121 := eq_true q121))
            go_ret2
            exact ⟨by rfl, by repeat (first | exact Drawn0.refl _ | apply Drawn0.step)⟩
          · rw [if_neg c9] at H
            exact absurd H (by simp)
        · rw [if_neg c8] at H
          exact absurd H (by simp)
      · rw [if_neg c7] at H
        exact absurd H (by simp)
    · rw [if_neg c6] at H
      exact absurd H (by simp)
  · replace c5 := Bool.eq_false_iff.mpr c5
    subst c5
    have H1 : (some (0, false)) = some (r1, r2) := by rw [if_neg (show ¬ (false = true) by decide)] at H; exact H
    clear H
    have H := H1
    clear H1
    simp only [Option.some.injEq, Prod.mk.injEq] at H
    obtain ⟨rfl, rfl⟩ := H
    go_enter Tryd.func32, Tryd.ntmps32
    go_wp2_with (((with_reducible refine gate_callee (f := 46) rfl ?_); refine goesL_ (some 11) rfl rfl Tryd.func46 (by kernel_rfl) rfl #[.slice A0 l0.length c0, .int .i64 a1, .int .i64 a2, .int .i64 1] rfl (by (try simp only [List.map_toArray, List.map_cons, List.map_nil]); rfl) ?_; (with_reducible refine (arena_InBounds.calls _ _ l0 a1 a2 1 false _ ?side1 ?side2 A4.out).mono ?_); (case side1 => repeat (exact HR0.out)); (case side2 => exact HC0.out); rintro e w' ⟨rfl, ⟨nd, rfl⟩⟩; refine ⟨_, rfl, ?_⟩))
    go_ret2
    exact ⟨by rfl, by repeat (first | exact Drawn0.refl _ | apply Drawn0.step)⟩

end Go.Proofs.YtcjhejopcghgnaaDoor.P

namespace Go.Proofs.YtcjhejopcghgnaaDoor.P
open Go.RowKit Go.Proofs.YtcjhejopcghgnaaDoorW.PrintWords Go.Proofs.YtcjhejopcghgnaaDoorW.PrintLast Go.Proofs.YtcjhejopcghgnaaDoorW.PrintMore
attribute [local go_sem] max2_int min2_int max_two min_two max_three min_three max_four min_four   -- for this text's walks alone
set_option linter.unusedVariables false
set_option linter.unusedSimpArgs false

variable {gb : Bool}
/-! ### far_Landing: function 18 -/
def far_Landing.f (a0 : Int) : Option (Int × Int) := (pointer_Decode.f a0).bind fun bt122 => (some (wrap64 (bt122.2.2.2.2.2.2.2.2.1), bt122.2.2.2.2.2.2.2.1))
set_option maxHeartbeats 8000000 in
set_option maxRecDepth 100000 in
theorem far_Landing.calls (a0 r1 r2 : Int) (w : World) (hG : Glob gb w) (h : far_Landing.f a0 = some (r1, r2)) :
    Calls Tryd.prog 18 #[.int .u64 a0] w fun e w' => e = .returned (.tuple #[.int .i64 r1, .int .i64 r2]) ∧ Below w.heap.size w w' := by
  have HG := Aside0.mk hG
  clear hG
  have HB := Aside0.mk (Below.refl w.heap.size w)
  have H : ((pointer_Decode.f a0).bind fun bt122 => (some (wrap64 (bt122.2.2.2.2.2.2.2.2.1), bt122.2.2.2.2.2.2.2.1))) = some (r1, r2) := h
  clear h
  replace H := Option.bind_eq_some_iff.mp H
  obtain ⟨⟨t122, t123, t124, t125, t126, t127, t128, t129, t130, t131⟩, A20, H⟩ := H
  replace H : (some (wrap64 (t130), t129)) = some (r1, r2) := H
  have A2 := Aside0.mk A20
  clear A20
  simp only [Option.some.injEq, Prod.mk.injEq] at H
  obtain ⟨rfl, rfl⟩ := H
  go_enter Tryd.func18, Tryd.ntmps18
  go_wp2_with (first | (go_at_call 34; (with_reducible refine (pointer_Decode.calls (gb := gb) a0 t122 t123 t124 t125 t126 t127 t128 t129 t130 t131 _ ?side1 A2.out).mono ?_); (case side1 => exact Glob.below HG.out HB.out); rintro e w3 ⟨rfl, hb⟩; replace HB := Aside0.mk (below_step HB.out hb); (try clear hb)) | ((with_reducible refine gate_dst (N := 4) rfl ?_); refine box_event ?hg (N := 4) ?hd (cs := #[.int .i64 0, .int .i64 0, .int .i64 0, .int .i64 0, .int .i64 0, .int .i64 0, .bool false, .int .i64 0, .int .u32 0, .int .u32 0]) (t := 39) ?hr ?_; (case hd => rfl); (case hg => rfl); (case hr => (go_simp; done)); intro gb132 hg w4 hbox hb; replace BK132 := Aside0.mk (hbox); replace GE132 := Aside0.mk (ge_of HB.out hg); replace HB := Aside0.mk (below_step HB.out hb); clear hb hbox hg; obtain ⟨hcz5_0, hcz5_1, hcz5_2, hcz5_3, hcz5_4, hcz5_5, hcz5_6, hcz5_7, hcz5_8, hcz5_9⟩ := cells10 BK132.out; obtain ⟨hfz5_0, hfz5_1, hfz5_2, hfz5_3, hfz5_4, hfz5_5, hfz5_6, hfz5_7, hfz5_8, hfz5_9⟩ := frz10 BK132.out))
  repeat (go_quiet (first | (go_at_call 34; (with_reducible refine (pointer_Decode.calls (gb := gb) a0 t122 t123 t124 t125 t126 t127 t128 t129 t130 t131 _ ?side1 A2.out).mono ?_); (case side1 => exact Glob.below HG.out (by repeat (first | (with_reducible first | exact HB.out | apply below_alloc | apply pw_below_drewN | apply below_drew1) | exact HB.out))); rintro e w3 ⟨rfl, hb⟩; replace HB := Aside0.mk (below_step (by repeat (first | (with_reducible first | exact HB.out | apply below_alloc | apply pw_below_drewN | apply below_drew1) | exact HB.out)) hb); (try clear hb); (try clear hb2); (try clear hk); (try clear hi)) | ((with_reducible refine gate_dst (N := 4) rfl ?_); refine box_event ?hg (N := 4) ?hd (cs := #[.int .i64 0, .int .i64 0, .int .i64 0, .int .i64 0, .int .i64 0, .int .i64 0, .bool false, .int .i64 0, .int .u32 0, .int .u32 0]) (t := 39) ?hr ?_; (case hd => rfl); (case hg => rfl); (case hr => first | (go_simp; done) | (go_simp; rfl)); intro gb132 hg w4 hbox hb; replace BK132 := Aside0.mk (hbox); replace GW132 := Aside0.mk ((by rw [hg]; exact (below_size (by repeat (first | (with_reducible first | exact HB.out | apply below_alloc | apply pw_below_drewN | apply below_drew1) | exact HB.out))) : w.heap.size ≤ gb132)); replace GE132 := Aside0.mk ((by rw [hg]; exact (below_size (by repeat (first | (with_reducible first | exact HB.out | apply below_alloc | apply pw_below_drewN | apply below_drew1) | exact HB.out))) : w.heap.size ≤ gb132)); replace HB := Aside0.mk (below_step (by repeat (first | (with_reducible first | exact HB.out | apply below_alloc | apply pw_below_drewN | apply below_drew1) | exact HB.out)) hb); clear hb hbox hg; obtain ⟨hcz5_0, hcz5_1, hcz5_2, hcz5_3, hcz5_4, hcz5_5, hcz5_6, hcz5_7, hcz5_8, hcz5_9⟩ := cells10 BK132.out; obtain ⟨hfz5_0, hfz5_1, hfz5_2, hfz5_3, hfz5_4, hfz5_5, hfz5_6, hfz5_7, hfz5_8, hfz5_9⟩ := frz10 BK132.out)); try go_wp2_with (fail))
  go_ret2
  exact ⟨by rfl, by repeat ((with_reducible first | exact HB.out | apply pw_below_drewN | refine below_set ?_ GE132.out))⟩

end Go.Proofs.YtcjhejopcghgnaaDoor.P

namespace Go.Proofs.YtcjhejopcghgnaaDoor.P
open Go.RowKit Go.Proofs.YtcjhejopcghgnaaDoorW.PrintWords Go.Proofs.YtcjhejopcghgnaaDoorW.PrintLast Go.Proofs.YtcjhejopcghgnaaDoorW.PrintMore
attribute [local go_sem] max2_int min2_int max_two min_two max_three min_three max_four min_four   -- for this text's walks alone
set_option linter.unusedVariables false
set_option linter.unusedSimpArgs false

variable {gb : Bool}
/-! ### far_single: function 33 -/
def far_single.f (l0 : List (List Int)) (a1 : Int) : Option (Int × Int × Int × Int) := (far_Landing.f a1).bind fun bt134 => ((arena_Word.f l0 bt134.1 bt134.2).bind fun bt136 => (if bt136.2 = true then ((far_IsFar.f bt136.1).bind fun t138 => (if t138 = true then (some (0, 0, 0, 3)) else (some (bt136.1, bt134.1, wrap64 (bt134.2 + 1), 0)))) else (some (0, 0, 0, 2))))
set_option maxHeartbeats 8000000 in
set_option maxRecDepth 100000 in
theorem far_single.calls (A0 : Option Addr) (c0 : Nat) (l0 : List (List Int)) (a1 r1 r2 r3 r4 : Int) (w : World) (hG : Glob gb w) (hr0 : Kd.C (Kd.slice 23 (Kd.int .u64)) w A0 l0.length l0) (hc0 : l0.length ≤ c0) (h : far_single.f l0 a1 = some (r1, r2, r3, r4)) :
    Calls Tryd.prog 33 #[.slice A0 l0.length c0, .int .u64 a1] w fun e w' => e = .returned (.tuple #[.agg #[.int .u64 r1, .int .i64 r2, .int .i64 r3], .int .i64 r4]) ∧ Below w.heap.size w w' := by
  have HG := Aside0.mk hG
  clear hG
  have HR0 := Aside0.mk hr0
  have HC0 := Aside0.mk hc0
  clear hr0 hc0
  have HB := Aside0.mk (Below.refl w.heap.size w)
  have H := h
  unfold far_single.f at H
  clear h
  replace H := Option.bind_eq_some_iff.mp H
  obtain ⟨⟨t134, t135⟩, A30, H⟩ := H
  dsimp only at H
  have A3 := Aside0.mk A30
  clear A30
  replace H := Option.bind_eq_some_iff.mp H
  obtain ⟨⟨t136, t137⟩, A40, H⟩ := H
  dsimp only at H
  have A4 := Aside0.mk A40
  clear A40
  by_cases c5 : t137 = true
  · subst c5
    have H1 : ((far_IsFar.f t136).bind fun t138 => (if t138 = true then (some (0, 0, 0, 3)) else (some (t136, t134, wrap64 (t135 + 1), 0)))) = some (r1, r2, r3, r4) := by rw [if_pos rfl] at H; exact H
    clear H
    have H := H1
    clear H1
    replace H := Option.bind_eq_some_iff.mp H
    obtain ⟨t138, A60, H⟩ := H
    replace H : (if t138 = true then (some (0, 0, 0, 3)) else (some (t136, t134, wrap64 (t135 + 1), 0))) = some (r1, r2, r3, r4) := H
    have A6 := Aside0.mk A60
    clear A60
    by_cases c7 : t138 = true
    · subst c7
      have H1 : (some (0, 0, 0, 3)) = some (r1, r2, r3, r4) := by rw [if_pos rfl] at H; exact H
      clear H
      have H := H1
      clear H1
      simp only [Option.some.injEq, Prod.mk.injEq] at H
      obtain ⟨rfl, rfl, rfl, rfl⟩ := H
      go_enter Tryd.func33, Tryd.ntmps33
      go_wp2_with (first | ((with_reducible refine gate_dst (N := 4) rfl ?_); refine box_event ?hg (N := 4) ?hd (cs := #[.int .u64 0, .int .i64 0, .int .i64 0]) (t := 60) ?hr ?_; (case hd => rfl); (case hg => rfl); (case hr => (go_simp; done)); intro gb133 hg w8 hbox hb; replace BK133 := Aside0.mk (hbox); replace GE133 := Aside0.mk (ge_of HB.out hg); replace HB := Aside0.mk (below_step HB.out hb); clear hb hbox hg) | ((with_reducible refine gate_callee (f := 18) rfl ?_); refine goesL_ (some 12) rfl rfl Tryd.func18 (by kernel_rfl) rfl #[.int .u64 a1] rfl (by (try simp only [List.map_toArray, List.map_cons, List.map_nil]); rfl) ?_; (with_reducible refine (far_Landing.calls (gb := gb) a1 t134 t135 _ ?side1 A3.out).mono ?_); (case side1 => exact Glob.below HG.out HB.out); rintro e w9 ⟨rfl, hb⟩; refine ⟨_, rfl, ?_⟩; replace BK133 := Aside0.mk (blk_below BK133.out hb); replace HB := Aside0.mk (below_step HB.out hb); (try clear hb)) | ((with_reducible refine gate_callee (f := 32) rfl ?_); refine goesL_ (some 19) rfl rfl Tryd.func32 (by kernel_rfl) rfl #[.slice A0 l0.length c0, .int .i64 t134, .int .i64 t135] rfl (by (try simp only [List.map_toArray, List.map_cons, List.map_nil]); rfl) ?_; (with_reducible refine (arena_Word.calls _ _ l0 t134 t135 t136 true _ ?side1 ?side2 A4.out).mono ?_); (case side1 => repeat ((exact (Kd.C_below HR0.out HB.out)))); (case side2 => exact HC0.out); rintro e w' ⟨rfl, ⟨nd, rfl⟩⟩; refine ⟨_, rfl, ?_⟩; (try (rw [drewN_self w9]; generalize hq_ : World.drewN w9 _ = w9; replace BK133 := Aside0.mk (blk_q BK133.out hq_); replace HB := Aside0.mk (below_q HB.out hq_); clear hq_))) | ((with_reducible refine gate_callee (f := 16) rfl ?_); refine goesL_ (some 28) rfl rfl Tryd.func16 (by kernel_rfl) rfl #[.int .u64 t136] rfl (by (try simp only [List.map_toArray, List.map_cons, List.map_nil]); rfl) ?_; (with_reducible refine (far_IsFar.calls (gb := gb) t136 true _ ?side1 A6.out).mono ?_); (case side1 => exact Glob.below HG.out HB.out); rintro e w10 ⟨rfl, hb⟩; refine ⟨_, rfl, ?_⟩; replace BK133 := Aside0.mk (blk_below BK133.out hb); replace HB := Aside0.mk (below_step HB.out hb); (try clear hb); have hcz11_0 : w10.cell? ⟨gb133, 0, none⟩ = some (.int .u64 0) := (blk_cell BK133.out 0).trans rfl; have hcz11_1 : w10.cell? ⟨gb133, 1, none⟩ = some (.int .i64 0) := (blk_cell BK133.out 1).trans rfl; have hcz11_2 : w10.cell? ⟨gb133, 2, none⟩ = some (.int .i64 0) := (blk_cell BK133.out 2).trans rfl; have hfz11_0 := blk_frozen BK133.out 0; have hfz11_1 := blk_frozen BK133.out 1; have hfz11_2 := blk_frozen BK133.out 2))
      refine bodyPost_ret (results_ct rfl _ _ gb133 60 #[.int .u64 0, .int .i64 0, .int .i64 0] (0, 0) _ rfl (by refine blk_put (cs := #[.int .u64 0, .int .i64 0, .int .i64 0]) ?_ 2 _ rfl; refine blk_put (cs := #[.int .u64 0, .int .i64 0, .int .i64 0]) ?_ 1 _ rfl; refine blk_put (cs := #[.int .u64 0, .int .i64 0, .int .i64 0]) ?_ 0 _ rfl; exact BK133.out) Tryd.underlying60 rfl (by kernel_rfl)) rfl ?_
      exact ⟨by rfl, by repeat ((with_reducible first | exact HB.out | refine below_set ?_ GE133.out))⟩
    · replace c7 := Bool.eq_false_iff.mpr c7
      subst c7
      have H1 : (some (t136, t134, wrap64 (t135 + 1), 0)) = some (r1, r2, r3, r4) := by rw [if_neg (show ¬ (false = true) by decide)] at H; exact H
      clear H
      have H := H1
      clear H1
      simp only [Option.some.injEq, Prod.mk.injEq] at H
      obtain ⟨rfl, rfl, rfl, rfl⟩ := H
      go_enter Tryd.func33, Tryd.ntmps33
      go_wp2_with (first | ((with_reducible refine gate_dst (N := 4) rfl ?_); refine box_event ?hg (N := 4) ?hd (cs := #[.int .u64 0, .int .i64 0, .int .i64 0]) (t := 60) ?hr ?_; (case hd => rfl); (case hg => rfl); (case hr => (go_simp; done)); intro gb133 hg w12 hbox hb; replace BK133 := Aside0.mk (hbox); replace GE133 := Aside0.mk (ge_of HB.out hg); replace HB := Aside0.mk (below_step HB.out hb); clear hb hbox hg) | ((with_reducible refine gate_callee (f := 18) rfl ?_); refine goesL_ (some 12) rfl rfl Tryd.func18 (by kernel_rfl) rfl #[.int .u64 a1] rfl (by (try simp only [List.map_toArray, List.map_cons, List.map_nil]); rfl) ?_; (with_reducible refine (far_Landing.calls (gb := gb) a1 t134 t135 _ ?side1 A3.out).mono ?_); (case side1 => exact Glob.below HG.out HB.out); rintro e w13 ⟨rfl, hb⟩; refine ⟨_, rfl, ?_⟩; replace BK133 := Aside0.mk (blk_below BK133.out hb); replace HB := Aside0.mk (below_step HB.out hb); (try clear hb)) | ((with_reducible refine gate_callee (f := 32) rfl ?_); refine goesL_ (some 19) rfl rfl Tryd.func32 (by kernel_rfl) rfl #[.slice A0 l0.length c0, .int .i64 t134, .int .i64 t135] rfl (by (try simp only [List.map_toArray, List.map_cons, List.map_nil]); rfl) ?_; (with_reducible refine (arena_Word.calls _ _ l0 t134 t135 t136 true _ ?side1 ?side2 A4.out).mono ?_); (case side1 => repeat ((exact (Kd.C_below HR0.out HB.out)))); (case side2 => exact HC0.out); rintro e w' ⟨rfl, ⟨nd, rfl⟩⟩; refine ⟨_, rfl, ?_⟩; (try (rw [drewN_self w13]; generalize hq_ : World.drewN w13 _ = w13; replace BK133 := Aside0.mk (blk_q BK133.out hq_); replace HB := Aside0.mk (below_q HB.out hq_); clear hq_))) | ((with_reducible refine gate_callee (f := 16) rfl ?_); refine goesL_ (some 28) rfl rfl Tryd.func16 (by kernel_rfl) rfl #[.int .u64 t136] rfl (by (try simp only [List.map_toArray, List.map_cons, List.map_nil]); rfl) ?_; (with_reducible refine (far_IsFar.calls (gb := gb) t136 false _ ?side1 A6.out).mono ?_); (case side1 => exact Glob.below HG.out HB.out); rintro e w14 ⟨rfl, hb⟩; refine ⟨_, rfl, ?_⟩; replace BK133 := Aside0.mk (blk_below BK133.out hb); replace HB := Aside0.mk (below_step HB.out hb); (try clear hb); have hcz15_0 : w14.cell? ⟨gb133, 0, none⟩ = some (.int .u64 0) := (blk_cell BK133.out 0).trans rfl; have hcz15_1 : w14.cell? ⟨gb133, 1, none⟩ = some (.int .i64 0) := (blk_cell BK133.out 1).trans rfl; have hcz15_2 : w14.cell? ⟨gb133, 2, none⟩ = some (.int .i64 0) := (blk_cell BK133.out 2).trans rfl; have hfz15_0 := blk_frozen BK133.out 0; have hfz15_1 := blk_frozen BK133.out 1; have hfz15_2 := blk_frozen BK133.out 2))
      refine bodyPost_ret (results_ct rfl _ _ gb133 60 #[.int .u64 t136, .int .i64 t134, .int .i64 (wrap64 (t135 + 1))] (0, 0) _ rfl (by refine blk_put (cs := #[.int .u64 t136, .int .i64 t134, .int .i64 0]) ?_ 2 _ rfl; refine blk_put (cs := #[.int .u64 t136, .int .i64 0, .int .i64 0]) ?_ 1 _ rfl; refine blk_put (cs := #[.int .u64 0, .int .i64 0, .int .i64 0]) ?_ 0 _ rfl; exact BK133.out) Tryd.underlying60 rfl (by kernel_rfl)) rfl ?_
      exact ⟨by rfl, by repeat ((with_reducible first | exact HB.out | refine below_set ?_ GE133.out))⟩
  · replace c5 := Bool.eq_false_iff.mpr c5
    subst c5
    have H1 : (some (0, 0, 0, 2)) = some (r1, r2, r3, r4) := by rw [if_neg (show ¬ (false = true) by decide)] at H; exact H
    clear H
    have H := H1
    clear H1
    simp only [Option.some.injEq, Prod.mk.injEq] at H
    obtain ⟨rfl, rfl, rfl, rfl⟩ := H
    go_enter Tryd.func33, Tryd.ntmps33
    go_wp2_with (first | ((with_reducible refine gate_dst (N := 4) rfl ?_); refine box_event ?hg (N := 4) ?hd (cs := #[.int .u64 0, .int .i64 0, .int .i64 0]) (t := 60) ?hr ?_; (case hd => rfl); (case hg => rfl); (case hr => (go_simp; done)); intro gb133 hg w16 hbox hb; replace BK133 := Aside0.mk (hbox); replace GE133 := Aside0.mk (ge_of HB.out hg); replace HB := Aside0.mk (below_step HB.out hb); clear hb hbox hg) | ((with_reducible refine gate_callee (f := 18) rfl ?_); refine goesL_ (some 12) rfl rfl Tryd.func18 (by kernel_rfl) rfl #[.int .u64 a1] rfl (by (try simp only [List.map_toArray, List.map_cons, List.map_nil]); rfl) ?_; (with_reducible refine (far_Landing.calls (gb := gb) a1 t134 t135 _ ?side1 A3.out).mono ?_); (case side1 => exact Glob.below HG.out HB.out); rintro e w17 ⟨rfl, hb⟩; refine ⟨_, rfl, ?_⟩; replace BK133 := Aside0.mk (blk_below BK133.out hb); replace HB := Aside0.mk (below_step HB.out hb); (try clear hb)) | ((with_reducible refine gate_callee (f := 32) rfl ?_); refine goesL_ (some 19) rfl rfl Tryd.func32 (by kernel_rfl) rfl #[.slice A0 l0.length c0, .int .i64 t134, .int .i64 t135] rfl (by (try simp only [List.map_toArray, List.map_cons, List.map_nil]); rfl) ?_; (with_reducible refine (arena_Word.calls _ _ l0 t134 t135 t136 false _ ?side1 ?side2 A4.out).mono ?_); (case side1 => repeat ((exact (Kd.C_below HR0.out HB.out)))); (case side2 => exact HC0.out); rintro e w' ⟨rfl, ⟨nd, rfl⟩⟩; refine ⟨_, rfl, ?_⟩; (try (rw [drewN_self w17]; generalize hq_ : World.drewN w17 _ = w17; replace BK133 := Aside0.mk (blk_q BK133.out hq_); replace HB := Aside0.mk (below_q HB.out hq_); clear hq_)); have hcz18_0 : w17.cell? ⟨gb133, 0, none⟩ = some (.int .u64 0) := (blk_cell BK133.out 0).trans rfl; have hcz18_1 : w17.cell? ⟨gb133, 1, none⟩ = some (.int .i64 0) := (blk_cell BK133.out 1).trans rfl; have hcz18_2 : w17.cell? ⟨gb133, 2, none⟩ = some (.int .i64 0) := (blk_cell BK133.out 2).trans rfl; have hfz18_0 := blk_frozen BK133.out 0; have hfz18_1 := blk_frozen BK133.out 1; have hfz18_2 := blk_frozen BK133.out 2))
    refine bodyPost_ret (results_ct rfl _ _ gb133 60 #[.int .u64 0, .int .i64 0, .int .i64 0] (0, 0) _ rfl (by refine blk_put (cs := #[.int .u64 0, .int .i64 0, .int .i64 0]) ?_ 2 _ rfl; refine blk_put (cs := #[.int .u64 0, .int .i64 0, .int .i64 0]) ?_ 1 _ rfl; refine blk_put (cs := #[.int .u64 0, .int .i64 0, .int .i64 0]) ?_ 0 _ rfl; exact BK133.out) Tryd.underlying60 rfl (by kernel_rfl)) rfl ?_
    exact ⟨by rfl, by repeat ((with_reducible first | exact HB.out | refine below_set ?_ GE133.out))⟩

end Go.Proofs.YtcjhejopcghgnaaDoor.P

namespace Go.Proofs.YtcjhejopcghgnaaDoor.P
open Go.RowKit Go.Proofs.YtcjhejopcghgnaaDoorW.PrintWords Go.Proofs.YtcjhejopcghgnaaDoorW.PrintLast Go.Proofs.YtcjhejopcghgnaaDoorW.PrintMore
attribute [local go_sem] max2_int min2_int max_two min_two max_three min_three max_four min_four   -- for this text's walks alone
set_option linter.unusedVariables false
set_option linter.unusedSimpArgs false

variable {gb : Bool}
/-! ### arena_Slice: function 48 -/
def arena_Slice.f (l0 : List (List Int)) (a1 a2 a3 : Int) : Option (List Int × Bool) := (arena_InBounds.f l0 a1 a2 a3).bind fun t => if t = true then (if 0 ≤ a1 ∧ a1 < (l0.length : Int) ∧ 0 ≤ a2 ∧ 0 ≤ a3 ∧ a2 + a3 ≤ ((rd_L5 l0 a1).length : Int) ∧ a3 < 17592186044416 then some (((rd_L5 l0 a1).drop a2.toNat).take a3.toNat, true) else none) else some ([], false)
set_option maxHeartbeats 1600000 in
set_option maxRecDepth 100000 in
theorem arena_Slice.calls (A0 : Option Addr) (c0 : Nat) (l0 : List (List Int)) (a1 a2 a3 : Int) (r1 : List Int) (r2 : Bool) (w : World) (hr0 : Kd.C (Kd.slice 23 (Kd.int .u64)) w A0 l0.length l0) (hc0 : l0.length ≤ c0) (h : arena_Slice.f l0 a1 a2 a3 = some (r1, r2)) :
    Calls Tryd.prog 48 #[.slice A0 l0.length c0, .int .i64 a1, .int .i64 a2, .int .i64 a3] w fun e w' => ∃ v0_ : Value, e = .returned (.tuple #[v0_, .bool r2]) ∧ Kd.R (Kd.int .u64) 23 w' w.heap.size (fun _ => True) v0_ r1 ∧ Below w.heap.size w w' := by
  have HR0 := Aside0.mk hr0
  have HC0 := Aside0.mk hc0
  clear hr0 hc0
  unfold arena_Slice.f at h
  obtain ⟨t, ht, h⟩ := Option.bind_eq_some_iff.mp h
  have Ht := Aside0.mk ht
  clear ht
  cases t
  · simp only [Bool.false_eq_true, if_false, Option.some.injEq, Prod.mk.injEq] at h
    obtain ⟨rfl, rfl⟩ := h
    go_enter Tryd.func48, Tryd.ntmps48
    go_wp2_with fail
    refine (arena_InBounds.calls _ _ _ _ _ _ _ _ HR0.out HC0.out Ht.out).mono ?_
    rintro e w1 ⟨rfl, hd⟩
    have HB := Aside0.mk hd.below
    clear hd
    go_wp2
    go_ret2
    exact ⟨_, by rfl, Kd.R_nil _ _ _ _ _, HB.out⟩
  · rw [if_pos rfl] at h
    split at h
    · rename_i hc
      obtain ⟨h1, h2, h3, h4, h5, h6⟩ := hc
      simp only [Option.some.injEq, Prod.mk.injEq] at h
      obtain ⟨rfl, rfl⟩ := h
      obtain ⟨m, rfl⟩ := Int.eq_ofNat_of_zero_le h4
      obtain ⟨i, rfl⟩ := Int.eq_ofNat_of_zero_le h1
      obtain ⟨b, rfl⟩ := Int.eq_ofNat_of_zero_le h3
      obtain ⟨ad, A1, c1, rfl, hcell, hle, hC⟩ := at_L5 HR0.out i h1 h2
      have HC := Aside0.mk hC
      clear hC
      obtain ⟨io, hio, _, hsz, _⟩ := info_parts info23
      have hcut := cut_from (P := Tryd.prog) 40 23 .i64 Tryd.underlying40 hio 1 hsz A1 (rd_L5 l0 i).length c1 b (by omega) (by omega)
      have hD := Kd.C_drop (c := c1) HC.out (show b ≤ (rd_L5 l0 i).length by omega) hle
      have hm : m ≤ ((rd_L5 l0 i).drop b).length := by rw [List.length_drop]; omega
      rw [show ((b : Int).toNat * 1) = b * (Kd.int .u64).sz from rfl, Int.toNat_natCast] at hcut
      generalize hA2 : (if c1 = b then A1 else Option.map (fun x => x.add (b * (Kd.int IntKind.u64).sz)) A1) = A2 at hcut hD
      have hl : (rd_L5 l0 i).length - b = ((rd_L5 l0 i).drop b).length := List.length_drop.symm
      rw [hl] at hcut
      generalize hy : (rd_L5 l0 i).drop b = ys at hcut hD hm
      generalize hn : ys.length = n2 at hcut hD hm
      have HD := Aside0.mk hD
      have HM := Aside0.mk (show m < 17592186044416 ∧ m ≤ n2 by omega)
      have HY := Aside0.mk hy
      clear hl hD hA2 hy hn hm
      clear h5 h6 h1 h3 h4 h
      go_enter Tryd.func48, Tryd.ntmps48
      go_wp2_with fail
      refine (arena_InBounds.calls _ _ _ _ _ _ _ _ HR0.out HC0.out Ht.out).mono ?_
      rintro e w1 ⟨rfl, hd⟩
      have HB := Aside0.mk hd.below
      have hs1 := HB.out.size
      clear hd
      go_wp2_with ((with_reducible refine gate_dst (N := 18) rfl ?_); refine Kd.R_make (Kd.int .u64) w.heap.size 23 rfl (N := 18) rfl 40 _ _ rfl m rfl rfl Tryd.underlying40 (.int .u64 0) 8 info23 rfl (by decide) (by omega) 0 (ok := fun _ => True) (okp := fun _ => False) rfl (fun _ hk => hk.elim) trivial (by omega) (by have := HM.out.1; omega) HB.out hs1 ?_)
      intro v1 w2 hR hB2 hg2 hb2 _ _
      have hs2 := hB2.size
      have hc2 := (hB2.cell (p := ad.add i) (by have := World.block_lt_of_cell? _ _ hcell; simpa using this)).trans hcell
      go_wp2_with ((with_reducible refine gate_dst (N := 26) rfl ?_); refine Kd.R_copy (P := Tryd.prog) (h1 := fun _ => rfl) 0 w.heap.size rfl (.tmp 19) (.tmp 25) 40 40 23 rfl Tryd.underlying40 (by kernel_rfl) _ _ _ _ _ _ (fun _ => True) rfl rfl hR (Kd.C_below HD.out hB2) hB2 hs2 ?_)
      intro w3 hR3 hB3 _
      have HR3 := Aside0.mk hR3
      have HB3 := Aside0.mk hB3
      clear hR3 hB3 hR hB2 hg2
      go_wp2
      go_ret2
      refine ⟨_, by rfl, ?_, HB3.out⟩
      have hr := HR3.out
      rw [show min n2 m = m by have := HM.out; omega, Nat.sub_self, List.replicate_zero, List.append_nil] at hr
      rw [show ((b : Nat) : Int).toNat = b from rfl, show ((m : Nat) : Int).toNat = m from rfl, HY.out]
      exact hr
    · exact absurd h (by simp)

end Go.Proofs.YtcjhejopcghgnaaDoor.P

namespace Go.Proofs.YtcjhejopcghgnaaDoor.P
open Go.RowKit Go.Proofs.YtcjhejopcghgnaaDoorW.PrintWords Go.Proofs.YtcjhejopcghgnaaDoorW.PrintLast Go.Proofs.YtcjhejopcghgnaaDoorW.PrintMore
attribute [local go_sem] max2_int min2_int max_two min_two max_three min_three max_four min_four   -- for this text's walks alone
set_option linter.unusedVariables false
set_option linter.unusedSimpArgs false

variable {gb : Bool}
/-! ### far_double: function 35 -/
def far_double.f (l0 : List (List Int)) (a1 : Int) : Option (Int × Int × Int × Int) := (far_Landing.f a1).bind fun bt140 => ((arena_Slice.f l0 bt140.1 bt140.2 2).bind fun bt142 => (if bt142.2 = true then (if 0 < (bt142.1.length : Int) then ((pointer_Decode.f (rd bt142.1 0)).bind fun bt147 => (if 1 < (bt142.1.length : Int) then ((pointer_Decode.f (rd bt142.1 1)).bind fun bt158 => (if bt147.1 = 2 then (if bt147.2.2.2.2.2.2.1 = true then (some (0, 0, 0, 3)) else (if bt158.1 > 1 then (some (0, 0, 0, 3)) else (if bt158.2.1 = 0 then (some (rd bt142.1 1, wrap64 (bt147.2.2.2.2.2.2.2.2.1), bt147.2.2.2.2.2.2.2.1, 0)) else (some (0, 0, 0, 3))))) else (some (0, 0, 0, 3)))) else (none))) else (none)) else (some (0, 0, 0, 2))))
def far_double.T5 : Bool × List (List Nat × List Nat) := (true, [([], []), ([0], [0]), ([1], [1]), ([2], [2]), ([], []), ([4], [4]), ([5], [5]), ([6, 3], [6]), ([], []), ([], []), ([8, 3, 7, 0, 1, 2, 3, 8, 9], [3, 8]), ([9, 7, 10, 0, 1, 2, 3, 4, 5, 6, 7, 8, 9, 10], [7, 9])])
def far_double.B5 : List Nat := [0, 1, 3, 7, 0, 16, 48, 127, 0, 0, 1023, 2047]
theorem far_double.tab5 : rtab .any (opsOf Tryd.f35 5) = far_double.T5 := by kernel_rfl
theorem far_double.bits5 : waitsOk far_double.T5.2 far_double.B5 = true := by kernel_rfl
def far_double.T8 : Bool × List (List Nat × List Nat) := (true, [([], []), ([0], [0]), ([1], [1]), ([], []), ([3], [3]), ([4], [4]), ([], []), ([6], [6]), ([2, 5, 7], [2, 5, 7]), ([8, 0, 1, 2, 3, 4, 5, 6, 7, 8], [8]), ([9, 0, 1, 2, 3, 4, 5, 6, 7, 8, 9], [])])
def far_double.B8 : List Nat := [0, 1, 3, 0, 8, 24, 0, 64, 255, 511, 1023]
theorem far_double.tab8 : rtab .any (opsOf Tryd.f35 8) = far_double.T8 := by kernel_rfl
theorem far_double.bits8 : waitsOk far_double.T8.2 far_double.B8 = true := by kernel_rfl
set_option maxHeartbeats 8000000 in
set_option maxRecDepth 100000 in
theorem far_double.calls (A0 : Option Addr) (c0 : Nat) (l0 : List (List Int)) (a1 r1 r2 r3 r4 : Int) (w : World) (hG : Glob gb w) (hr0 : Kd.C (Kd.slice 23 (Kd.int .u64)) w A0 l0.length l0) (hc0 : l0.length ≤ c0) (h : far_double.f l0 a1 = some (r1, r2, r3, r4)) :
    Calls Tryd.prog 35 #[.slice A0 l0.length c0, .int .u64 a1] w fun e w' => e = .returned (.tuple #[.agg #[.int .u64 r1, .int .i64 r2, .int .i64 r3], .int .i64 r4]) ∧ Below w.heap.size w w' := by
  have HG := Aside0.mk hG
  clear hG
  have HR0 := Aside0.mk hr0
  have HC0 := Aside0.mk hc0
  clear hr0 hc0
  have HB := Aside0.mk (Below.refl w.heap.size w)
  have H := h
  unfold far_double.f at H
  clear h
  replace H := Option.bind_eq_some_iff.mp H
  obtain ⟨⟨t140, t141⟩, A30, H⟩ := H
  dsimp only at H
  have A3 := Aside0.mk A30
  clear A30
  replace H := Option.bind_eq_some_iff.mp H
  obtain ⟨⟨t142, t143⟩, A40, H⟩ := H
  dsimp only at H
  have A4 := Aside0.mk A40
  clear A40
  by_cases c5 : t143 = true
  · subst c5
    have H1 : (if 0 < (t142.length : Int) then ((pointer_Decode.f (rd t142 0)).bind fun bt147 => (if 1 < (t142.length : Int) then ((pointer_Decode.f (rd t142 1)).bind fun bt158 => (if bt147.1 = 2 then (if bt147.2.2.2.2.2.2.1 = true then (some (0, 0, 0, 3)) else (if bt158.1 > 1 then (some (0, 0, 0, 3)) else (if bt158.2.1 = 0 then (some (rd t142 1, wrap64 (bt147.2.2.2.2.2.2.2.2.1), bt147.2.2.2.2.2.2.2.1, 0)) else (some (0, 0, 0, 3))))) else (some (0, 0, 0, 3)))) else (none))) else (none)) = some (r1, r2, r3, r4) := by rw [if_pos rfl] at H; exact H
    clear H
    have H := H1
    clear H1
    by_cases c6 : 0 < (t142.length : Int)
    · rw [if_pos c6] at H
      have c6b0 : decide (0 < (t142.length : Int)) = true := decide_eq_true c6
      clear c6
      replace H := Option.bind_eq_some_iff.mp H
      obtain ⟨⟨t147, t148, t149, t150, t151, t152, t153, t154, t155, t156⟩, A70, H⟩ := H
      dsimp only at H
      have A7 := Aside0.mk A70
      clear A70
      by_cases c8 : 1 < (t142.length : Int)
      · rw [if_pos c8] at H
        have c8b0 : decide (1 < (t142.length : Int)) = true := decide_eq_true c8
        clear c8
        replace H := Option.bind_eq_some_iff.mp H
        obtain ⟨⟨t158, t159, t160, t161, t162, t163, t164, t165, t166, t167⟩, A90, H⟩ := H
        dsimp only at H
        have A9 := Aside0.mk A90
        clear A90
        have HAH := Aside0.mk H
        clear H
        go_enter Tryd.func35, Tryd.ntmps35
        try go_wp2_with (first | ((with_reducible refine gate_dst (N := 4) rfl ?_); refine box_event ?hg (N := 4) ?hd (cs := #[.int .u64 0, .int .i64 0, .int .i64 0]) (t := 60) ?hr ?_; (case hd => rfl); (case hg => rfl); (case hr => (go_simp; done)); intro gb139 hg w160 hbox hb; replace BK139 := Aside0.mk (hbox); replace GE139 := Aside0.mk (ge_of HB.out hg); replace HB := Aside0.mk (below_step HB.out hb); clear hb hbox hg) | ((with_reducible refine gate_callee (f := 18) rfl ?_); refine goesL_ (some 14) rfl rfl Tryd.func18 (by kernel_rfl) rfl #[.int .u64 a1] rfl (by (try simp only [List.map_toArray, List.map_cons, List.map_nil]); rfl) ?_; (with_reducible refine (far_Landing.calls (gb := gb) a1 t140 t141 _ ?side1 A3.out).mono ?_); (case side1 => exact Glob.below HG.out HB.out); rintro e w161 ⟨rfl, hb⟩; refine ⟨_, rfl, ?_⟩; replace BK139 := Aside0.mk (blk_below BK139.out hb); replace HB := Aside0.mk (below_step HB.out hb); (try clear hb)) | ((with_reducible refine gate_callee (f := 48) rfl ?_); refine goesL_ (some 21) rfl rfl Tryd.func48 (by kernel_rfl) rfl #[.slice A0 l0.length c0, .int .i64 t140, .int .i64 t141, .int .i64 2] rfl (by (try simp only [List.map_toArray, List.map_cons, List.map_nil]); rfl) ?_; (with_reducible refine (arena_Slice.calls _ _ l0 t140 t141 2 t142 true _ ?side1 ?side2 A4.out).mono ?_); (case side1 => repeat ((exact (Kd.C_below HR0.out HB.out)))); (case side2 => exact HC0.out); rintro e w162 ⟨v144, rfl, ho0, hb⟩; refine ⟨_, rfl, ?_⟩; replace HO145 := Aside0.mk (Kd.R_lower ho0 (below_size HB.out)); replace BK139 := Aside0.mk (blk_below BK139.out hb); replace HB := Aside0.mk (below_step HB.out hb); (try clear hb); (try clear ho0)))
        have n0_ := Aside0.mk (Kd.R_drew HO145.out)
        have n1_ := Aside0.mk (blk_drew BK139.out)
        have n2_ := Aside0.mk (below_drew1 HB.out)
        clear HO145
        clear BK139
        clear HB
        have HO145 := n0_
        have BK139 := n1_
        have HB := n2_
        (try clear n0_; try clear n1_; try clear n2_)
        obtain ⟨Ao164, co164, eo164⟩ := Kd.R_slice HO145.out
        (subst eo164)
        have p146 : 0 ≤ (0 : Int) := (by omega)
        have q146 : 0 < (t142.length : Int) := of_decide_eq_true (by (with_reducible assumption))
        obtain ⟨ad146, e146, hx146_0⟩ := Kd.at_int (Kd.R_reads' HO145.out).2.2 0 p146 q146
        cases e146
        have qi146 : (0 < t142.length) = True := eq_true (by omega)
        (try rw [show ((0 : Int)).toNat = 0 from rfl] at hx146_0)
        (try rw [Addr.add_zero'] at hx146_0)
        replace p146 := eq_true p146
        replace q146 := eq_true q146
        have p157 : 0 ≤ (1 : Int) := (by omega)
        have q157 : 1 < (t142.length : Int) := of_decide_eq_true (by (with_reducible assumption))
        obtain ⟨ad157, e157, hx157_0⟩ := Kd.at_int (Kd.R_reads' HO145.out).2.2 1 p157 q157
        obtain rfl : ad146 = ad157 := (by injection e157)
        (try simp only [show (1 : Int).toNat = 1 from rfl, Nat.reduceMul, Nat.reduceEqDiff, Go.Addr.add, ↓reduceIte] at hx157_0)
        (skip)
        replace p157 := eq_true p157
        replace q157 := eq_true q157
        refine start_ (n := 12) (S := fun w' => True) (ds := []) #[false, false, false, false, false, false, false, false, false, false, false, false] (by kernel_rfl) rfl rfl trivial (fun hHeld => ?_); refine with_tabW far_double.tab5 far_double.bits5 (fun HT_ HW_ => ?_)
        generalize w162.drew = w163 at HO145 BK139 HB hx146_0 hx157_0 hHeld ⊢
        refine pure_ (i := 0) (N := some 27) (v := ?_) (a' := ?_) #[true, false, false, false, false, false, false, false, false, false, false, false] rfl rfl (any_of HT_.out (by kernel_rfl)) (fun _ _ _ h => h) (Or.inl ⟨by rfl, ?_⟩) ?_ ?_
        rotate_left
        · intro w'
          go_simp
          with_reducible rfl
        rotate_left
        · simp only [Act.put, List.setIfInBounds_toArray, List.set_cons_zero, List.set_cons_succ, i64_w, i32_w]
          rfl
        refine pure_ (i := 4) (N := some 31) (v := ?_) (a' := ?_) #[true, false, false, false, true, false, false, false, false, false, false, false] rfl rfl (any_of HT_.out (by kernel_rfl)) (fun _ _ _ h => h) (Or.inl ⟨by rfl, ?_⟩) ?_ ?_
        rotate_left
        · intro w'
          go_simp
          with_reducible rfl
        rotate_left
        · simp only [Act.put, List.setIfInBounds_toArray, List.set_cons_zero, List.set_cons_succ, i64_w, i32_w]
          rfl
        refine inv_at [1, 2, 3, 5, 6, 7, 8, 9, 10, 11] (fun a0_ b a w' => ∃ (gb168 gb169 : Nat) (m8_ : Value) (m9_ : Value), a = putSel a0_ b [(1, 28, .pointer (some ad146)), (2, 29, .int .u64 (rd t142 0)), (3, 30, .agg #[.int .i64 t147, .int .i64 t148, .int .i64 t149, .int .i64 t150, .int .i64 t151, .int .i64 t152, .bool t153, .int .i64 t154, .int .u32 t155, .int .u32 t156]), (5, 32, .pointer (some (ad146.add 1))), (6, 33, .int .u64 (rd t142 1)), (7, 34, .agg #[.int .i64 t158, .int .i64 t159, .int .i64 t160, .int .i64 t161, .int .i64 t162, .int .i64 t163, .bool t164, .int .i64 t165, .int .u32 t166, .int .u32 t167]), (8, 10, m8_), (9, 11, m9_)] ∧ (Kd.R (Kd.int .u64) 23 w' w.heap.size (fun _ => True) (.slice (some ad146) t142.length co164) t142) ∧ (w'.heap[gb139]? = some (.cells #[.int .u64 0, .int .i64 0, .int .i64 0] 60 (0, 0))) ∧ (Below w.heap.size w w') ∧ (b 8 = true → b 9 = true → gb169 ≠ gb168) ∧ (b 8 = true → b 9 = true → gb168 ≠ gb169) ∧ (b 8 = true → b 10 = false → w'.heap[gb168]? = some (.cells #[.int .i64 0, .int .i64 0, .int .i64 0, .int .i64 0, .int .i64 0, .int .i64 0, .bool false, .int .i64 0, .int .u32 0, .int .u32 0] 39 (0, 0))) ∧ (b 8 = true → w.heap.size ≤ gb168) ∧ (b 8 = true → w.heap.size ≤ gb168) ∧ (b 8 = true → gb139 ≠ gb168) ∧ (b 8 = true → gb168 ≠ gb139) ∧ (b 9 = true → b 11 = false → w'.heap[gb169]? = some (.cells #[.int .i64 0, .int .i64 0, .int .i64 0, .int .i64 0, .int .i64 0, .int .i64 0, .bool false, .int .i64 0, .int .u32 0, .int .u32 0] 39 (0, 0))) ∧ (b 9 = true → w.heap.size ≤ gb169) ∧ (b 9 = true → w.heap.size ≤ gb169) ∧ (b 9 = true → gb139 ≠ gb169) ∧ (b 9 = true → gb169 ≠ gb139) ∧ (b 10 = true → w'.heap[gb168]? = some (.cells #[.int .i64 t147, .int .i64 t148, .int .i64 t149, .int .i64 t150, .int .i64 t151, .int .i64 t152, .bool t153, .int .i64 t154, .int .u32 t155, .int .u32 t156] 39 (0, 0))) ∧ (b 11 = true → w'.heap[gb169]? = some (.cells #[.int .i64 t158, .int .i64 t159, .int .i64 t160, .int .i64 t161, .int .i64 t162, .int .i64 t163, .bool t164, .int .i64 t165, .int .u32 t166, .int .u32 t167] 39 (0, 0))) ∧ (b 8 = true → (m8_ : Value) = .pointer (some ⟨gb168, 0, none⟩)) ∧ (b 9 = true → (m9_ : Value) = .pointer (some ⟨gb169, 0, none⟩))) HT_.out HW_.out (by kernel_rfl) (by kernel_rfl) ?_ ?_ ?_
        · exact ⟨0, 0, .bool false, .bool false, by simp only [putSel, Bool.false_eq_true, if_false], HO145.out, BK139.out, HB.out, fun h_ => absurd h_ (by decide), fun h_ => absurd h_ (by decide), fun h_ => absurd h_ (by decide), fun h_ => absurd h_ (by decide), fun h_ => absurd h_ (by decide), fun h_ => absurd h_ (by decide), fun h_ => absurd h_ (by decide), fun h_ => absurd h_ (by decide), fun h_ => absurd h_ (by decide), fun h_ => absurd h_ (by decide), fun h_ => absurd h_ (by decide), fun h_ => absurd h_ (by decide), fun h_ => absurd h_ (by decide), fun h_ => absurd h_ (by decide), fun h_ => absurd h_ (by decide), fun h_ => absurd h_ (by decide)⟩
        · skip
          clear BK139 HB HO145
          refine steps_cons ?_ ?_
          · rintro b a w' ⟨gb168, gb169, m8_, m9_, ha, Q_HO145, Q_BK139, Q_HB, Q_NB169_168, Q_NB168_169, Q_BK168, Q_GW168, Q_GE168, Q_NB139_168, Q_NB168_139, Q_BK169, Q_GW169, Q_GE169, Q_NB139_169, Q_NB169_139, Q_BK168_e10, Q_BK169_e11, Q_X8_, Q_X9_⟩ hb_ hon hoff
            refine ⟨_, rfl, fun K hK => ?_⟩
            have e27 : a.tmps[27]? = some (.slice (some ad146) t142.length co164) := by rw [ha]; exact (putSel_off rfl).trans rfl
            replace ha := Aside0.mk ha
            have HO145 := Aside0.mk Q_HO145
            have BK139 := Aside0.mk Q_BK139
            have HB := Aside0.mk Q_HB
            refine value_ (w1 := w') (v := .pointer (some ad146)) (by rfl) rfl ?_ ?_
            · go_simp
              (skip)
              skip
            refine hK.out _ _ ⟨gb168, gb169, m8_, m9_, (by rw [ha.out]; exact putSel_upk 0 hb_ rfl rfl rfl), Q_HO145, Q_BK139, Q_HB, Q_NB169_168, Q_NB168_169, Q_BK168, Q_GW168, Q_GE168, Q_NB139_168, Q_NB168_139, Q_BK169, Q_GW169, Q_GE169, Q_NB139_169, Q_NB169_139, fun h0_ => absurd ((hoff 10 (by kernel_rfl)).symm.trans h0_) (by decide), fun h0_ => absurd ((hoff 11 (by kernel_rfl)).symm.trans h0_) (by decide), Q_X8_, Q_X9_⟩
          refine steps_cons ?_ ?_
          · rintro b a w' ⟨gb168, gb169, m8_, m9_, ha, Q_HO145, Q_BK139, Q_HB, Q_NB169_168, Q_NB168_169, Q_BK168, Q_GW168, Q_GE168, Q_NB139_168, Q_NB168_139, Q_BK169, Q_GW169, Q_GE169, Q_NB139_169, Q_NB169_139, Q_BK168_e10, Q_BK169_e11, Q_X8_, Q_X9_⟩ hb_ hon hoff
            refine ⟨_, rfl, fun K hK => ?_⟩
            have e28 : a.tmps[28]? = some (.pointer (some ad146)) := by rw [ha]; exact putSel_on (e := (1, 28, .pointer (some ad146))) 0 rfl rfl (hon 1 (by kernel_rfl)) rfl
            replace ha := Aside0.mk ha
            have HO145 := Aside0.mk Q_HO145
            have BK139 := Aside0.mk Q_BK139
            have HB := Aside0.mk Q_HB
            obtain ⟨ad146_z, e146_z, hx146_0_z⟩ := Kd.at_int (Kd.R_reads' HO145.out).2.2 0 (of_eq_true p146) (of_eq_true q146)
            cases e146_z
            have hs0_ : w'.cell? ad146 = some (.int .u64 (rd t142 0)) := hx146_0_z
            refine value_ (w1 := w') (v := .int .u64 (rd t142 0)) (by rfl) rfl ?_ ?_
            · go_simp
              (skip)
              skip
            refine hK.out _ _ ⟨gb168, gb169, m8_, m9_, (by rw [ha.out]; exact putSel_upk 1 hb_ rfl rfl rfl), Q_HO145, Q_BK139, Q_HB, Q_NB169_168, Q_NB168_169, Q_BK168, Q_GW168, Q_GE168, Q_NB139_168, Q_NB168_139, Q_BK169, Q_GW169, Q_GE169, Q_NB139_169, Q_NB169_139, fun h0_ => absurd ((hoff 10 (by kernel_rfl)).symm.trans h0_) (by decide), fun h0_ => absurd ((hoff 11 (by kernel_rfl)).symm.trans h0_) (by decide), Q_X8_, Q_X9_⟩
          refine steps_cons ?_ ?_
          · rintro b a w' ⟨gb168, gb169, m8_, m9_, ha, Q_HO145, Q_BK139, Q_HB, Q_NB169_168, Q_NB168_169, Q_BK168, Q_GW168, Q_GE168, Q_NB139_168, Q_NB168_139, Q_BK169, Q_GW169, Q_GE169, Q_NB139_169, Q_NB169_139, Q_BK168_e10, Q_BK169_e11, Q_X8_, Q_X9_⟩ hb_ hon hoff
            refine ⟨_, rfl, fun K hK => ?_⟩
            have e29 : a.tmps[29]? = some (.int .u64 (rd t142 0)) := by rw [ha]; exact putSel_on (e := (2, 29, .int .u64 (rd t142 0))) 1 rfl rfl (hon 2 (by kernel_rfl)) rfl
            replace ha := Aside0.mk ha
            have HO145 := Aside0.mk Q_HO145
            have BK139 := Aside0.mk Q_BK139
            have HB := Aside0.mk Q_HB
            refine goes_ Tryd.func34 (by kernel_rfl) rfl #[.int .u64 (rd t142 0)] (by rfl) rfl rfl (by (simp only [List.map_toArray, List.map_cons, List.map_nil, Act.eval, Array.getD_eq_getD_getElem?, Option.getD_some, e29]; done)) ?_
            with_reducible refine (pointer_Decode.calls (gb := gb) (rd t142 0) t147 t148 t149 t150 t151 t152 t153 t154 t155 t156 _ ?side1 A7.out).mono ?_
            (case side1 => exact Glob.below HG.out HB.out)
            rintro e w165 ⟨rfl, hb⟩
            refine ⟨_, rfl, ?_⟩
            have n0_ := Aside0.mk (Kd.R_below HO145.out hb)
            have n1_ := Aside0.mk (blk_below BK139.out hb)
            have n2_ := Aside0.mk (below_step HB.out hb)
            have z_BK168 := fun (h0_ : b 8 = true) (h1_ : b 10 = false) => (show w165.heap[gb168]? = some (.cells #[.int .i64 0, .int .i64 0, .int .i64 0, .int .i64 0, .int .i64 0, .int .i64 0, .bool false, .int .i64 0, .int .u32 0, .int .u32 0] 39 (0, 0)) from by (exact (blk_below (g := gb168) (o := .cells #[.int .i64 0, .int .i64 0, .int .i64 0, .int .i64 0, .int .i64 0, .int .i64 0, .bool false, .int .i64 0, .int .u32 0, .int .u32 0] 39 (0, 0)) (by exact (Q_BK168 h0_ h1_)) hb)))
            have z_BK169 := fun (h0_ : b 9 = true) (h1_ : b 11 = false) => (show w165.heap[gb169]? = some (.cells #[.int .i64 0, .int .i64 0, .int .i64 0, .int .i64 0, .int .i64 0, .int .i64 0, .bool false, .int .i64 0, .int .u32 0, .int .u32 0] 39 (0, 0)) from by (exact (blk_below (g := gb169) (o := .cells #[.int .i64 0, .int .i64 0, .int .i64 0, .int .i64 0, .int .i64 0, .int .i64 0, .bool false, .int .i64 0, .int .u32 0, .int .u32 0] 39 (0, 0)) (by exact (Q_BK169 h0_ h1_)) hb)))
            clear HO145
            clear BK139
            clear HB
            have HO145 := n0_
            have BK139 := n1_
            have HB := n2_
            (try clear n0_; try clear n1_; try clear n2_)
            (try clear hb)
            (skip)
            (skip)
            (skip)
            refine hK.out _ _ ⟨gb168, gb169, m8_, m9_, (by rw [ha.out]; exact putSel_upk 2 hb_ rfl rfl rfl), HO145.out, BK139.out, HB.out, Q_NB169_168, Q_NB168_169, z_BK168, Q_GW168, Q_GE168, Q_NB139_168, Q_NB168_139, z_BK169, Q_GW169, Q_GE169, Q_NB139_169, Q_NB169_139, fun h0_ => absurd ((hoff 10 (by kernel_rfl)).symm.trans h0_) (by decide), fun h0_ => absurd ((hoff 11 (by kernel_rfl)).symm.trans h0_) (by decide), Q_X8_, Q_X9_⟩
          refine steps_cons ?_ ?_
          · rintro b a w' ⟨gb168, gb169, m8_, m9_, ha, Q_HO145, Q_BK139, Q_HB, Q_NB169_168, Q_NB168_169, Q_BK168, Q_GW168, Q_GE168, Q_NB139_168, Q_NB168_139, Q_BK169, Q_GW169, Q_GE169, Q_NB139_169, Q_NB169_139, Q_BK168_e10, Q_BK169_e11, Q_X8_, Q_X9_⟩ hb_ hon hoff
            refine ⟨_, rfl, fun K hK => ?_⟩
            have e31 : a.tmps[31]? = some (.slice (some ad146) t142.length co164) := by rw [ha]; exact (putSel_off rfl).trans rfl
            replace ha := Aside0.mk ha
            have HO145 := Aside0.mk Q_HO145
            have BK139 := Aside0.mk Q_BK139
            have HB := Aside0.mk Q_HB
            refine value_ (w1 := w') (v := .pointer (some (ad146.add 1))) (by rfl) rfl ?_ ?_
            · go_simp
              (skip)
              skip
            refine hK.out _ _ ⟨gb168, gb169, m8_, m9_, (by rw [ha.out]; exact putSel_upk 3 hb_ rfl rfl rfl), Q_HO145, Q_BK139, Q_HB, Q_NB169_168, Q_NB168_169, Q_BK168, Q_GW168, Q_GE168, Q_NB139_168, Q_NB168_139, Q_BK169, Q_GW169, Q_GE169, Q_NB139_169, Q_NB169_139, fun h0_ => absurd ((hoff 10 (by kernel_rfl)).symm.trans h0_) (by decide), fun h0_ => absurd ((hoff 11 (by kernel_rfl)).symm.trans h0_) (by decide), Q_X8_, Q_X9_⟩
          refine steps_cons ?_ ?_
          · rintro b a w' ⟨gb168, gb169, m8_, m9_, ha, Q_HO145, Q_BK139, Q_HB, Q_NB169_168, Q_NB168_169, Q_BK168, Q_GW168, Q_GE168, Q_NB139_168, Q_NB168_139, Q_BK169, Q_GW169, Q_GE169, Q_NB139_169, Q_NB169_139, Q_BK168_e10, Q_BK169_e11, Q_X8_, Q_X9_⟩ hb_ hon hoff
            refine ⟨_, rfl, fun K hK => ?_⟩
            have e32 : a.tmps[32]? = some (.pointer (some (ad146.add 1))) := by rw [ha]; exact putSel_on (e := (5, 32, .pointer (some (ad146.add 1)))) 3 rfl rfl (hon 5 (by kernel_rfl)) rfl
            replace ha := Aside0.mk ha
            have HO145 := Aside0.mk Q_HO145
            have BK139 := Aside0.mk Q_BK139
            have HB := Aside0.mk Q_HB
            obtain ⟨ad157_z, e157_z, hx157_0_z⟩ := Kd.at_int (Kd.R_reads' HO145.out).2.2 1 (of_eq_true p157) (of_eq_true q157)
            cases e157_z
            have hs1_ : w'.cell? ⟨ad146.block, ad146.off + 1, none⟩ = some (.int .u64 (rd t142 1)) := hx157_0_z
            refine value_ (w1 := w') (v := .int .u64 (rd t142 1)) (by rfl) rfl ?_ ?_
            · go_simp
              (skip)
              skip
            refine hK.out _ _ ⟨gb168, gb169, m8_, m9_, (by rw [ha.out]; exact putSel_upk 4 hb_ rfl rfl rfl), Q_HO145, Q_BK139, Q_HB, Q_NB169_168, Q_NB168_169, Q_BK168, Q_GW168, Q_GE168, Q_NB139_168, Q_NB168_139, Q_BK169, Q_GW169, Q_GE169, Q_NB139_169, Q_NB169_139, fun h0_ => absurd ((hoff 10 (by kernel_rfl)).symm.trans h0_) (by decide), fun h0_ => absurd ((hoff 11 (by kernel_rfl)).symm.trans h0_) (by decide), Q_X8_, Q_X9_⟩
          refine steps_cons ?_ ?_
          · rintro b a w' ⟨gb168, gb169, m8_, m9_, ha, Q_HO145, Q_BK139, Q_HB, Q_NB169_168, Q_NB168_169, Q_BK168, Q_GW168, Q_GE168, Q_NB139_168, Q_NB168_139, Q_BK169, Q_GW169, Q_GE169, Q_NB139_169, Q_NB169_139, Q_BK168_e10, Q_BK169_e11, Q_X8_, Q_X9_⟩ hb_ hon hoff
            refine ⟨_, rfl, fun K hK => ?_⟩
            have e33 : a.tmps[33]? = some (.int .u64 (rd t142 1)) := by rw [ha]; exact putSel_on (e := (6, 33, .int .u64 (rd t142 1))) 4 rfl rfl (hon 6 (by kernel_rfl)) rfl
            replace ha := Aside0.mk ha
            have HO145 := Aside0.mk Q_HO145
            have BK139 := Aside0.mk Q_BK139
            have HB := Aside0.mk Q_HB
            refine goes_ Tryd.func34 (by kernel_rfl) rfl #[.int .u64 (rd t142 1)] (by rfl) rfl rfl (by (simp only [List.map_toArray, List.map_cons, List.map_nil, Act.eval, Array.getD_eq_getD_getElem?, Option.getD_some, e33]; done)) ?_
            with_reducible refine (pointer_Decode.calls (gb := gb) (rd t142 1) t158 t159 t160 t161 t162 t163 t164 t165 t166 t167 _ ?side1 A9.out).mono ?_
            (case side1 => exact Glob.below HG.out HB.out)
            rintro e w167 ⟨rfl, hb⟩
            refine ⟨_, rfl, ?_⟩
            have n0_ := Aside0.mk (Kd.R_below HO145.out hb)
            have n1_ := Aside0.mk (blk_below BK139.out hb)
            have n2_ := Aside0.mk (below_step HB.out hb)
            have z_BK168 := fun (h0_ : b 8 = true) (h1_ : b 10 = false) => (show w167.heap[gb168]? = some (.cells #[.int .i64 0, .int .i64 0, .int .i64 0, .int .i64 0, .int .i64 0, .int .i64 0, .bool false, .int .i64 0, .int .u32 0, .int .u32 0] 39 (0, 0)) from by (exact (blk_below (g := gb168) (o := .cells #[.int .i64 0, .int .i64 0, .int .i64 0, .int .i64 0, .int .i64 0, .int .i64 0, .bool false, .int .i64 0, .int .u32 0, .int .u32 0] 39 (0, 0)) (by exact (Q_BK168 h0_ h1_)) hb)))
            have z_BK169 := fun (h0_ : b 9 = true) (h1_ : b 11 = false) => (show w167.heap[gb169]? = some (.cells #[.int .i64 0, .int .i64 0, .int .i64 0, .int .i64 0, .int .i64 0, .int .i64 0, .bool false, .int .i64 0, .int .u32 0, .int .u32 0] 39 (0, 0)) from by (exact (blk_below (g := gb169) (o := .cells #[.int .i64 0, .int .i64 0, .int .i64 0, .int .i64 0, .int .i64 0, .int .i64 0, .bool false, .int .i64 0, .int .u32 0, .int .u32 0] 39 (0, 0)) (by exact (Q_BK169 h0_ h1_)) hb)))
            clear HO145
            clear BK139
            clear HB
            have HO145 := n0_
            have BK139 := n1_
            have HB := n2_
            (try clear n0_; try clear n1_; try clear n2_)
            (try clear hb)
            (skip)
            (skip)
            (skip)
            refine hK.out _ _ ⟨gb168, gb169, m8_, m9_, (by rw [ha.out]; exact putSel_upk 5 hb_ rfl rfl rfl), HO145.out, BK139.out, HB.out, Q_NB169_168, Q_NB168_169, z_BK168, Q_GW168, Q_GE168, Q_NB139_168, Q_NB168_139, z_BK169, Q_GW169, Q_GE169, Q_NB139_169, Q_NB169_139, fun h0_ => absurd ((hoff 10 (by kernel_rfl)).symm.trans h0_) (by decide), fun h0_ => absurd ((hoff 11 (by kernel_rfl)).symm.trans h0_) (by decide), Q_X8_, Q_X9_⟩
          refine steps_cons ?_ ?_
          · rintro b a w' ⟨gb168, gb169, m8_, m9_, ha, Q_HO145, Q_BK139, Q_HB, Q_NB169_168, Q_NB168_169, Q_BK168, Q_GW168, Q_GE168, Q_NB139_168, Q_NB168_139, Q_BK169, Q_GW169, Q_GE169, Q_NB139_169, Q_NB169_139, Q_BK168_e10, Q_BK169_e11, Q_X8_, Q_X9_⟩ hb_ hon hoff
            refine ⟨_, rfl, fun K hK => ?_⟩
            replace ha := Aside0.mk ha
            have HO145 := Aside0.mk Q_HO145
            have BK139 := Aside0.mk Q_BK139
            have HB := Aside0.mk Q_HB
            refine box_step ?hg (N := 10) ?hd (cs := #[.int .i64 0, .int .i64 0, .int .i64 0, .int .i64 0, .int .i64 0, .int .i64 0, .bool false, .int .i64 0, .int .u32 0, .int .u32 0]) (t := 39) ?hr ?_; (case hd => rfl); (case hg => rfl); (case hr => (go_simp; done))
            intro gb168 hg w165 hbox hb
            have n0_ := Aside0.mk (Kd.R_below HO145.out hb)
            have n1_ := Aside0.mk (blk_below BK139.out hb)
            have n2_ := Aside0.mk (below_step HB.out hb)
            have n3_ := Aside0.mk (hbox)
            have n4_ := Aside0.mk (ge_of HB.out hg)
            have n5_ := Aside0.mk (ge_of HB.out hg)
            have n6_ := Aside0.mk (ne_l BK139.out hg)
            have n7_ := Aside0.mk (ne_r BK139.out hg)
            have z_NB169_168 := fun (h0_ : up b 8 8 = true) (h1_ : up b 8 9 = true) => (show gb169 ≠ gb168 from ((by rw [hg]; exact Nat.ne_of_lt (blk_lt (g := gb169) (o := .cells #[.int .i64 0, .int .i64 0, .int .i64 0, .int .i64 0, .int .i64 0, .int .i64 0, .bool false, .int .i64 0, .int .u32 0, .int .u32 0] 39 (0, 0)) (by exact (Q_BK169 (show b 9 = true from h1_) (hoff 11 (by kernel_rfl))))) : gb169 ≠ gb168)))
            have z_NB168_169 := fun (h0_ : up b 8 8 = true) (h1_ : up b 8 9 = true) => (show gb168 ≠ gb169 from ((by rw [hg]; exact Nat.ne_of_gt (blk_lt (g := gb169) (o := .cells #[.int .i64 0, .int .i64 0, .int .i64 0, .int .i64 0, .int .i64 0, .int .i64 0, .bool false, .int .i64 0, .int .u32 0, .int .u32 0] 39 (0, 0)) (by exact (Q_BK169 (show b 9 = true from h1_) (hoff 11 (by kernel_rfl))))) : gb168 ≠ gb169)))
            have z_BK169 := fun (h0_ : b 9 = true) (h1_ : b 11 = false) => (show w165.heap[gb169]? = some (.cells #[.int .i64 0, .int .i64 0, .int .i64 0, .int .i64 0, .int .i64 0, .int .i64 0, .bool false, .int .i64 0, .int .u32 0, .int .u32 0] 39 (0, 0)) from by (exact (blk_below (g := gb169) (o := .cells #[.int .i64 0, .int .i64 0, .int .i64 0, .int .i64 0, .int .i64 0, .int .i64 0, .bool false, .int .i64 0, .int .u32 0, .int .u32 0] 39 (0, 0)) (by exact (Q_BK169 h0_ h1_)) hb)))
            clear HO145
            clear BK139
            clear HB
            have HO145 := n0_
            have BK139 := n1_
            have HB := n2_
            have BK168 := n3_
            have GW168 := n4_
            have GE168 := n5_
            have NB139_168 := n6_
            have NB168_139 := n7_
            (try clear n0_; try clear n1_; try clear n2_; try clear n3_; try clear n4_; try clear n5_; try clear n6_; try clear n7_)
            clear hb hbox hg
            refine hK.out _ _ ⟨gb168, gb169, (.pointer (some ⟨gb168, 0, none⟩)), m9_, (by rw [ha.out]; exact putSel_upk 6 hb_ rfl rfl rfl), HO145.out, BK139.out, HB.out, z_NB169_168, z_NB168_169, fun _ _ => BK168.out, fun _ => GW168.out, fun _ => GE168.out, fun _ => NB139_168.out, fun _ => NB168_139.out, z_BK169, Q_GW169, Q_GE169, Q_NB139_169, Q_NB169_139, fun h0_ => absurd ((hoff 10 (by kernel_rfl)).symm.trans h0_) (by decide), fun h0_ => absurd ((hoff 11 (by kernel_rfl)).symm.trans h0_) (by decide), fun _ => rfl, Q_X9_⟩
          refine steps_cons ?_ ?_
          · rintro b a w' ⟨gb168, gb169, m8_, m9_, ha, Q_HO145, Q_BK139, Q_HB, Q_NB169_168, Q_NB168_169, Q_BK168, Q_GW168, Q_GE168, Q_NB139_168, Q_NB168_139, Q_BK169, Q_GW169, Q_GE169, Q_NB139_169, Q_NB169_139, Q_BK168_e10, Q_BK169_e11, Q_X8_, Q_X9_⟩ hb_ hon hoff
            refine ⟨_, rfl, fun K hK => ?_⟩
            replace ha := Aside0.mk ha
            have HO145 := Aside0.mk Q_HO145
            have BK139 := Aside0.mk Q_BK139
            have HB := Aside0.mk Q_HB
            refine box_step ?hg (N := 11) ?hd (cs := #[.int .i64 0, .int .i64 0, .int .i64 0, .int .i64 0, .int .i64 0, .int .i64 0, .bool false, .int .i64 0, .int .u32 0, .int .u32 0]) (t := 39) ?hr ?_; (case hd => rfl); (case hg => rfl); (case hr => (go_simp; done))
            intro gb169 hg w165 hbox hb
            have n0_ := Aside0.mk (Kd.R_below HO145.out hb)
            have n1_ := Aside0.mk (blk_below BK139.out hb)
            have n2_ := Aside0.mk (below_step HB.out hb)
            have n3_ := Aside0.mk (hbox)
            have n4_ := Aside0.mk (ge_of HB.out hg)
            have n5_ := Aside0.mk (ge_of HB.out hg)
            have n6_ := Aside0.mk (ne_l BK139.out hg)
            have n7_ := Aside0.mk (ne_r BK139.out hg)
            have z_NB169_168 := fun (h0_ : up b 9 8 = true) (h1_ : up b 9 9 = true) => (show gb169 ≠ gb168 from ((by rw [hg]; exact Nat.ne_of_gt (blk_lt (g := gb168) (o := .cells #[.int .i64 0, .int .i64 0, .int .i64 0, .int .i64 0, .int .i64 0, .int .i64 0, .bool false, .int .i64 0, .int .u32 0, .int .u32 0] 39 (0, 0)) (by exact (Q_BK168 (show b 8 = true from h0_) (hoff 10 (by kernel_rfl))))) : gb169 ≠ gb168)))
            have z_NB168_169 := fun (h0_ : up b 9 8 = true) (h1_ : up b 9 9 = true) => (show gb168 ≠ gb169 from ((by rw [hg]; exact Nat.ne_of_lt (blk_lt (g := gb168) (o := .cells #[.int .i64 0, .int .i64 0, .int .i64 0, .int .i64 0, .int .i64 0, .int .i64 0, .bool false, .int .i64 0, .int .u32 0, .int .u32 0] 39 (0, 0)) (by exact (Q_BK168 (show b 8 = true from h0_) (hoff 10 (by kernel_rfl))))) : gb168 ≠ gb169)))
            have z_BK168 := fun (h0_ : b 8 = true) (h1_ : b 10 = false) => (show w165.heap[gb168]? = some (.cells #[.int .i64 0, .int .i64 0, .int .i64 0, .int .i64 0, .int .i64 0, .int .i64 0, .bool false, .int .i64 0, .int .u32 0, .int .u32 0] 39 (0, 0)) from by (exact (blk_below (g := gb168) (o := .cells #[.int .i64 0, .int .i64 0, .int .i64 0, .int .i64 0, .int .i64 0, .int .i64 0, .bool false, .int .i64 0, .int .u32 0, .int .u32 0] 39 (0, 0)) (by exact (Q_BK168 h0_ h1_)) hb)))
            clear HO145
            clear BK139
            clear HB
            have HO145 := n0_
            have BK139 := n1_
            have HB := n2_
            have BK169 := n3_
            have GW169 := n4_
            have GE169 := n5_
            have NB139_169 := n6_
            have NB169_139 := n7_
            (try clear n0_; try clear n1_; try clear n2_; try clear n3_; try clear n4_; try clear n5_; try clear n6_; try clear n7_)
            clear hb hbox hg
            refine hK.out _ _ ⟨gb168, gb169, m8_, (.pointer (some ⟨gb169, 0, none⟩)), (by rw [ha.out]; exact putSel_upk 7 hb_ rfl rfl rfl), HO145.out, BK139.out, HB.out, z_NB169_168, z_NB168_169, z_BK168, Q_GW168, Q_GE168, Q_NB139_168, Q_NB168_139, fun _ _ => BK169.out, fun _ => GW169.out, fun _ => GE169.out, fun _ => NB139_169.out, fun _ => NB169_139.out, fun h0_ => absurd ((hoff 10 (by kernel_rfl)).symm.trans h0_) (by decide), fun h0_ => absurd ((hoff 11 (by kernel_rfl)).symm.trans h0_) (by decide), Q_X8_, fun _ => rfl⟩
          refine steps_cons ?_ ?_
          · rintro b a w' ⟨gb168, gb169, m8_, m9_, ha, Q_HO145, Q_BK139, Q_HB, Q_NB169_168, Q_NB168_169, Q_BK168, Q_GW168, Q_GE168, Q_NB139_168, Q_NB168_139, Q_BK169, Q_GW169, Q_GE169, Q_NB139_169, Q_NB169_139, Q_BK168_e10, Q_BK169_e11, Q_X8_, Q_X9_⟩ hb_ hon hoff
            refine ⟨_, rfl, fun K hK => ?_⟩
            have e10 : a.tmps[10]? = some (m8_) := by rw [ha]; exact putSel_on (e := (8, 10, m8_)) 6 rfl rfl (hon 8 (by kernel_rfl)) rfl
            rw [Q_X8_ (hon 8 (by kernel_rfl))] at e10
            have e30 : a.tmps[30]? = some (.agg #[.int .i64 t147, .int .i64 t148, .int .i64 t149, .int .i64 t150, .int .i64 t151, .int .i64 t152, .bool t153, .int .i64 t154, .int .u32 t155, .int .u32 t156]) := by rw [ha]; exact putSel_on (e := (3, 30, .agg #[.int .i64 t147, .int .i64 t148, .int .i64 t149, .int .i64 t150, .int .i64 t151, .int .i64 t152, .bool t153, .int .i64 t154, .int .u32 t155, .int .u32 t156])) 2 rfl rfl (hon 3 (by kernel_rfl)) rfl
            replace ha := Aside0.mk ha
            have HO145 := Aside0.mk Q_HO145
            have BK139 := Aside0.mk Q_BK139
            have HB := Aside0.mk Q_HB
            have NB169_168 := Aside0.mk (Q_NB169_168 (hon 8 (by kernel_rfl)) (hon 9 (by kernel_rfl)))
            have NB168_169 := Aside0.mk (Q_NB168_169 (hon 8 (by kernel_rfl)) (hon 9 (by kernel_rfl)))
            have BK168 := Aside0.mk (Q_BK168 (hon 8 (by kernel_rfl)) hb_)
            have GW168 := Aside0.mk (Q_GW168 (hon 8 (by kernel_rfl)))
            have GE168 := Aside0.mk (Q_GE168 (hon 8 (by kernel_rfl)))
            have NB139_168 := Aside0.mk (Q_NB139_168 (hon 8 (by kernel_rfl)))
            have NB168_139 := Aside0.mk (Q_NB168_139 (hon 8 (by kernel_rfl)))
            have BK169 := Aside0.mk (Q_BK169 (hon 9 (by kernel_rfl)) (hoff 11 (by kernel_rfl)))
            have GW169 := Aside0.mk (Q_GW169 (hon 9 (by kernel_rfl)))
            have GE169 := Aside0.mk (Q_GE169 (hon 9 (by kernel_rfl)))
            have NB139_169 := Aside0.mk (Q_NB139_169 (hon 9 (by kernel_rfl)))
            have NB169_139 := Aside0.mk (Q_NB169_139 (hon 9 (by kernel_rfl)))
            have hs170 : w'.cell? ⟨gb168, 0, none⟩ = some (.int .i64 0) := (blk_cell BK168.out 0).trans rfl
            have hfs170 := blk_frozen BK168.out 0
            have hs171 : w'.cell? ⟨gb168, 1, none⟩ = some (.int .i64 0) := (blk_cell BK168.out 1).trans rfl
            have hfs171 := blk_frozen BK168.out 1
            have hs172 : w'.cell? ⟨gb168, 2, none⟩ = some (.int .i64 0) := (blk_cell BK168.out 2).trans rfl
            have hfs172 := blk_frozen BK168.out 2
            have hs173 : w'.cell? ⟨gb168, 3, none⟩ = some (.int .i64 0) := (blk_cell BK168.out 3).trans rfl
            have hfs173 := blk_frozen BK168.out 3
            have hs174 : w'.cell? ⟨gb168, 4, none⟩ = some (.int .i64 0) := (blk_cell BK168.out 4).trans rfl
            have hfs174 := blk_frozen BK168.out 4
            have hs175 : w'.cell? ⟨gb168, 5, none⟩ = some (.int .i64 0) := (blk_cell BK168.out 5).trans rfl
            have hfs175 := blk_frozen BK168.out 5
            have hs176 : w'.cell? ⟨gb168, 6, none⟩ = some (.bool false) := (blk_cell BK168.out 6).trans rfl
            have hfs176 := blk_frozen BK168.out 6
            have hs177 : w'.cell? ⟨gb168, 7, none⟩ = some (.int .i64 0) := (blk_cell BK168.out 7).trans rfl
            have hfs177 := blk_frozen BK168.out 7
            have hs178 : w'.cell? ⟨gb168, 8, none⟩ = some (.int .u32 0) := (blk_cell BK168.out 8).trans rfl
            have hfs178 := blk_frozen BK168.out 8
            have hs179 : w'.cell? ⟨gb168, 9, none⟩ = some (.int .u32 0) := (blk_cell BK168.out 9).trans rfl
            have hfs179 := blk_frozen BK168.out 9
            refine skip_ (w1 := ?_) (by rfl) rfl ?_ ?_
            rotate_left
            · go_simp
              rfl
            refine hK.out _ _ ⟨gb168, gb169, m8_, m9_, (by rw [ha.out]; exact putSel_none (v := undef) rfl), (by exact Kd.R_mono (Kd.R_far (p := ⟨gb168, 9, none⟩) (Kd.R_far (p := ⟨gb168, 8, none⟩) (Kd.R_far (p := ⟨gb168, 7, none⟩) (Kd.R_far (p := ⟨gb168, 6, none⟩) (Kd.R_far (p := ⟨gb168, 5, none⟩) (Kd.R_far (p := ⟨gb168, 4, none⟩) (Kd.R_far (p := ⟨gb168, 3, none⟩) (Kd.R_far (p := ⟨gb168, 2, none⟩) (Kd.R_far (p := ⟨gb168, 1, none⟩) (Kd.R_far (p := ⟨gb168, 0, none⟩) (Kd.R_types HO145.out BK168.out (by decide)) (fun _ hk => hk.2) (.int .i64 t147)) (fun _ hk => hk.2) (.int .i64 t148)) (fun _ hk => hk.2) (.int .i64 t149)) (fun _ hk => hk.2) (.int .i64 t150)) (fun _ hk => hk.2) (.int .i64 t151)) (fun _ hk => hk.2) (.int .i64 t152)) (fun _ hk => hk.2) (.bool t153)) (fun _ hk => hk.2) (.int .i64 t154)) (fun _ hk => hk.2) (.int .u32 t155)) (fun _ hk => hk.2) (.int .u32 t156)) (fun _ hk => trivial)), (by (iterate 10 refine blk_far ?_ NB139_168.out _); exact BK139.out), (by repeat ((with_reducible first | exact HB.out | refine below_set ?_ GE168.out))), fun _ _ => NB169_168.out, fun _ _ => NB168_169.out, fun _ h1_ => absurd ((up_self b 10).symm.trans h1_) (by decide), fun _ => GW168.out, fun _ => GE168.out, fun _ => NB139_168.out, fun _ => NB168_139.out, fun _ _ => (by (iterate 10 refine blk_far ?_ NB169_168.out _); exact BK169.out), fun _ => GW169.out, fun _ => GE169.out, fun _ => NB139_169.out, fun _ => NB169_139.out, fun _ => (by exact put10 BK168.out), fun h0_ => absurd ((hoff 11 (by kernel_rfl)).symm.trans h0_) (by decide), Q_X8_, Q_X9_⟩
          refine steps_cons ?_ ?_
          · rintro b a w' ⟨gb168, gb169, m8_, m9_, ha, Q_HO145, Q_BK139, Q_HB, Q_NB169_168, Q_NB168_169, Q_BK168, Q_GW168, Q_GE168, Q_NB139_168, Q_NB168_139, Q_BK169, Q_GW169, Q_GE169, Q_NB139_169, Q_NB169_139, Q_BK168_e10, Q_BK169_e11, Q_X8_, Q_X9_⟩ hb_ hon hoff
            refine ⟨_, rfl, fun K hK => ?_⟩
            have e11 : a.tmps[11]? = some (m9_) := by rw [ha]; exact putSel_on (e := (9, 11, m9_)) 7 rfl rfl (hon 9 (by kernel_rfl)) rfl
            rw [Q_X9_ (hon 9 (by kernel_rfl))] at e11
            have e34 : a.tmps[34]? = some (.agg #[.int .i64 t158, .int .i64 t159, .int .i64 t160, .int .i64 t161, .int .i64 t162, .int .i64 t163, .bool t164, .int .i64 t165, .int .u32 t166, .int .u32 t167]) := by rw [ha]; exact putSel_on (e := (7, 34, .agg #[.int .i64 t158, .int .i64 t159, .int .i64 t160, .int .i64 t161, .int .i64 t162, .int .i64 t163, .bool t164, .int .i64 t165, .int .u32 t166, .int .u32 t167])) 5 rfl rfl (hon 7 (by kernel_rfl)) rfl
            replace ha := Aside0.mk ha
            have HO145 := Aside0.mk Q_HO145
            have BK139 := Aside0.mk Q_BK139
            have HB := Aside0.mk Q_HB
            have NB169_168 := Aside0.mk (Q_NB169_168 (hon 8 (by kernel_rfl)) (hon 9 (by kernel_rfl)))
            have NB168_169 := Aside0.mk (Q_NB168_169 (hon 8 (by kernel_rfl)) (hon 9 (by kernel_rfl)))
            have GW168 := Aside0.mk (Q_GW168 (hon 8 (by kernel_rfl)))
            have GE168 := Aside0.mk (Q_GE168 (hon 8 (by kernel_rfl)))
            have NB139_168 := Aside0.mk (Q_NB139_168 (hon 8 (by kernel_rfl)))
            have NB168_139 := Aside0.mk (Q_NB168_139 (hon 8 (by kernel_rfl)))
            have BK169 := Aside0.mk (Q_BK169 (hon 9 (by kernel_rfl)) hb_)
            have GW169 := Aside0.mk (Q_GW169 (hon 9 (by kernel_rfl)))
            have GE169 := Aside0.mk (Q_GE169 (hon 9 (by kernel_rfl)))
            have NB139_169 := Aside0.mk (Q_NB139_169 (hon 9 (by kernel_rfl)))
            have NB169_139 := Aside0.mk (Q_NB169_139 (hon 9 (by kernel_rfl)))
            have BK168 := Aside0.mk (Q_BK168_e10 (hon 10 (by kernel_rfl)))
            have hs180 : w'.cell? ⟨gb169, 0, none⟩ = some (.int .i64 0) := (blk_cell BK169.out 0).trans rfl
            have hfs180 := blk_frozen BK169.out 0
            have hs181 : w'.cell? ⟨gb169, 1, none⟩ = some (.int .i64 0) := (blk_cell BK169.out 1).trans rfl
            have hfs181 := blk_frozen BK169.out 1
            have hs182 : w'.cell? ⟨gb169, 2, none⟩ = some (.int .i64 0) := (blk_cell BK169.out 2).trans rfl
            have hfs182 := blk_frozen BK169.out 2
            have hs183 : w'.cell? ⟨gb169, 3, none⟩ = some (.int .i64 0) := (blk_cell BK169.out 3).trans rfl
            have hfs183 := blk_frozen BK169.out 3
            have hs184 : w'.cell? ⟨gb169, 4, none⟩ = some (.int .i64 0) := (blk_cell BK169.out 4).trans rfl
            have hfs184 := blk_frozen BK169.out 4
            have hs185 : w'.cell? ⟨gb169, 5, none⟩ = some (.int .i64 0) := (blk_cell BK169.out 5).trans rfl
            have hfs185 := blk_frozen BK169.out 5
            have hs186 : w'.cell? ⟨gb169, 6, none⟩ = some (.bool false) := (blk_cell BK169.out 6).trans rfl
            have hfs186 := blk_frozen BK169.out 6
            have hs187 : w'.cell? ⟨gb169, 7, none⟩ = some (.int .i64 0) := (blk_cell BK169.out 7).trans rfl
            have hfs187 := blk_frozen BK169.out 7
            have hs188 : w'.cell? ⟨gb169, 8, none⟩ = some (.int .u32 0) := (blk_cell BK169.out 8).trans rfl
            have hfs188 := blk_frozen BK169.out 8
            have hs189 : w'.cell? ⟨gb169, 9, none⟩ = some (.int .u32 0) := (blk_cell BK169.out 9).trans rfl
            have hfs189 := blk_frozen BK169.out 9
            refine skip_ (w1 := ?_) (by rfl) rfl ?_ ?_
            rotate_left
            · go_simp
              rfl
            refine hK.out _ _ ⟨gb168, gb169, m8_, m9_, (by rw [ha.out]; exact putSel_none (v := undef) rfl), (by exact Kd.R_mono (Kd.R_far (p := ⟨gb169, 9, none⟩) (Kd.R_far (p := ⟨gb169, 8, none⟩) (Kd.R_far (p := ⟨gb169, 7, none⟩) (Kd.R_far (p := ⟨gb169, 6, none⟩) (Kd.R_far (p := ⟨gb169, 5, none⟩) (Kd.R_far (p := ⟨gb169, 4, none⟩) (Kd.R_far (p := ⟨gb169, 3, none⟩) (Kd.R_far (p := ⟨gb169, 2, none⟩) (Kd.R_far (p := ⟨gb169, 1, none⟩) (Kd.R_far (p := ⟨gb169, 0, none⟩) (Kd.R_types HO145.out BK169.out (by decide)) (fun _ hk => hk.2) (.int .i64 t158)) (fun _ hk => hk.2) (.int .i64 t159)) (fun _ hk => hk.2) (.int .i64 t160)) (fun _ hk => hk.2) (.int .i64 t161)) (fun _ hk => hk.2) (.int .i64 t162)) (fun _ hk => hk.2) (.int .i64 t163)) (fun _ hk => hk.2) (.bool t164)) (fun _ hk => hk.2) (.int .i64 t165)) (fun _ hk => hk.2) (.int .u32 t166)) (fun _ hk => hk.2) (.int .u32 t167)) (fun _ hk => trivial)), (by (iterate 10 refine blk_far ?_ NB139_169.out _); exact BK139.out), (by repeat ((with_reducible first | exact HB.out | refine below_set ?_ GE169.out))), fun _ _ => NB169_168.out, fun _ _ => NB168_169.out, fun _ h1_ => absurd ((hon 10 (by kernel_rfl)).symm.trans h1_) (by decide), fun _ => GW168.out, fun _ => GE168.out, fun _ => NB139_168.out, fun _ => NB168_139.out, fun _ h1_ => absurd ((up_self b 11).symm.trans h1_) (by decide), fun _ => GW169.out, fun _ => GE169.out, fun _ => NB139_169.out, fun _ => NB169_139.out, fun _ => (by (iterate 10 refine blk_far ?_ NB168_169.out _); exact BK168.out), fun _ => (by exact put10 BK169.out), Q_X8_, Q_X9_⟩
          exact steps_nil
        rintro b a w189 hall ⟨gb168, gb169, m8_, m9_, ha, Q_HO145, Q_BK139, Q_HB, Q_NB169_168, Q_NB168_169, Q_BK168, Q_GW168, Q_GE168, Q_NB139_168, Q_NB168_139, Q_BK169, Q_GW169, Q_GE169, Q_NB139_169, Q_NB169_139, Q_BK168_e10, Q_BK169_e11, Q_X8_, Q_X9_⟩
        clear BK139 HB HO145
        have hb1_ := hall 1 (by kernel_rfl)
        have hb2_ := hall 2 (by kernel_rfl)
        have hb3_ := hall 3 (by kernel_rfl)
        have hb5_ := hall 5 (by kernel_rfl)
        have hb6_ := hall 6 (by kernel_rfl)
        have hb7_ := hall 7 (by kernel_rfl)
        have hb8_ := hall 8 (by kernel_rfl)
        have hb9_ := hall 9 (by kernel_rfl)
        have hb10_ := hall 10 (by kernel_rfl)
        have hb11_ := hall 11 (by kernel_rfl)
        subst ha
        obtain rfl := Q_X8_ hb8_
        obtain rfl := Q_X9_ hb9_
        simp only [putSel, hb1_, hb2_, hb3_, hb5_, hb6_, hb7_, hb8_, hb9_, hb10_, hb11_, if_true, Act.put, List.setIfInBounds_toArray, List.set_cons_zero, List.set_cons_succ]
        have HO145 := Aside0.mk Q_HO145
        clear Q_HO145
        have BK139 := Aside0.mk Q_BK139
        clear Q_BK139
        have HB := Aside0.mk Q_HB
        clear Q_HB
        clear Q_NB169_168
        clear Q_NB168_169
        clear Q_BK168
        clear Q_GW168
        clear Q_GE168
        clear Q_NB139_168
        have NB168_139 := Aside0.mk (Q_NB168_139 hb8_)
        clear Q_NB168_139
        clear Q_BK169
        clear Q_GW169
        clear Q_GE169
        clear Q_NB139_169
        clear Q_NB169_139
        have BK168 := Aside0.mk (Q_BK168_e10 hb10_)
        clear Q_BK168_e10
        have BK169 := Aside0.mk (Q_BK169_e11 hb11_)
        clear Q_BK169_e11
        clear hall hb1_ hb2_ hb3_ hb5_ hb6_ hb7_ hb8_ hb9_ hb10_ hb11_
        have H := HAH.out
        clear HAH
        by_cases c10 : t147 = 2
        · rw [if_pos c10] at H
          have c10b1 : (t147 != 2) = false := bne_eq_false_iff_eq.mpr c10
          clear c10
          by_cases c11 : t153 = true
          · subst c11
            have H1 : (some (0, 0, 0, 3)) = some (r1, r2, r3, r4) := by rw [if_pos rfl] at H; exact H
            clear H
            have H := H1
            clear H1
            simp only [Option.some.injEq, Prod.mk.injEq] at H
            obtain ⟨rfl, rfl, rfl, rfl⟩ := H
            have hcz44_0 : w189.cell? ⟨gb168, 0, none⟩ = some (.int .i64 t147) := (blk_cell BK168.out 0).trans rfl
            have hcz44_6 : w189.cell? ⟨gb168, 6, none⟩ = some (.bool true) := (blk_cell BK168.out 6).trans rfl
            have hcz46_0 : w189.cell? ⟨gb139, 0, none⟩ = some (.int .u64 0) := (blk_cell BK139.out 0).trans rfl
            have hcz46_1 : w189.cell? ⟨gb139, 1, none⟩ = some (.int .i64 0) := (blk_cell BK139.out 1).trans rfl
            have hcz46_2 : w189.cell? ⟨gb139, 2, none⟩ = some (.int .i64 0) := (blk_cell BK139.out 2).trans rfl
            have hfz46_0 := blk_frozen BK139.out 0
            have hfz46_1 := blk_frozen BK139.out 1
            have hfz46_2 := blk_frozen BK139.out 2
            try go_wp2
            refine bodyPost_ret (results_ct rfl _ _ gb139 60 #[.int .u64 0, .int .i64 0, .int .i64 0] (0, 0) _ rfl (by refine blk_put (cs := #[.int .u64 0, .int .i64 0, .int .i64 0]) ?_ 2 _ rfl; refine blk_put (cs := #[.int .u64 0, .int .i64 0, .int .i64 0]) ?_ 1 _ rfl; refine blk_put (cs := #[.int .u64 0, .int .i64 0, .int .i64 0]) ?_ 0 _ rfl; exact BK139.out) Tryd.underlying60 rfl (by kernel_rfl)) rfl ?_
            exact ⟨by rfl, by repeat ((with_reducible first | exact HB.out | refine below_set ?_ GE139.out))⟩
          · replace c11 := Bool.eq_false_iff.mpr c11
            subst c11
            have H1 : (if t158 > 1 then (some (0, 0, 0, 3)) else (if t159 = 0 then (some (rd t142 1, wrap64 (t155), t154, 0)) else (some (0, 0, 0, 3)))) = some (r1, r2, r3, r4) := by rw [if_neg (show ¬ (false = true) by decide)] at H; exact H
            clear H
            have H := H1
            clear H1
            by_cases c47 : t158 > 1
            · rw [if_pos c47] at H
              have c47b0 : decide (1 < t158) = true := decide_eq_true c47
              clear c47
              simp only [Option.some.injEq, Prod.mk.injEq] at H
              obtain ⟨rfl, rfl, rfl, rfl⟩ := H
              have hcz80_0 : w189.cell? ⟨gb168, 0, none⟩ = some (.int .i64 t147) := (blk_cell BK168.out 0).trans rfl
              have hcz80_6 : w189.cell? ⟨gb168, 6, none⟩ = some (.bool false) := (blk_cell BK168.out 6).trans rfl
              have hcz82_0 : w189.cell? ⟨gb169, 0, none⟩ = some (.int .i64 t158) := (blk_cell BK169.out 0).trans rfl
              have hcz83_0 : w189.cell? ⟨gb139, 0, none⟩ = some (.int .u64 0) := (blk_cell BK139.out 0).trans rfl
              have hcz83_1 : w189.cell? ⟨gb139, 1, none⟩ = some (.int .i64 0) := (blk_cell BK139.out 1).trans rfl
              have hcz83_2 : w189.cell? ⟨gb139, 2, none⟩ = some (.int .i64 0) := (blk_cell BK139.out 2).trans rfl
              have hfz83_0 := blk_frozen BK139.out 0
              have hfz83_1 := blk_frozen BK139.out 1
              have hfz83_2 := blk_frozen BK139.out 2
              try go_wp2
              refine bodyPost_ret (results_ct rfl _ _ gb139 60 #[.int .u64 0, .int .i64 0, .int .i64 0] (0, 0) _ rfl (by refine blk_put (cs := #[.int .u64 0, .int .i64 0, .int .i64 0]) ?_ 2 _ rfl; refine blk_put (cs := #[.int .u64 0, .int .i64 0, .int .i64 0]) ?_ 1 _ rfl; refine blk_put (cs := #[.int .u64 0, .int .i64 0, .int .i64 0]) ?_ 0 _ rfl; exact BK139.out) Tryd.underlying60 rfl (by kernel_rfl)) rfl ?_
              exact ⟨by rfl, by repeat ((with_reducible first | exact HB.out | refine below_set ?_ GE139.out))⟩
            · rw [if_neg c47] at H
              have c47b0 : decide (1 < t158) = false := decide_eq_false c47
              clear c47
              by_cases c84 : t159 = 0
              · rw [if_pos c84] at H
                have c84b1 : (t159 != 0) = false := bne_eq_false_iff_eq.mpr c84
                clear c84
                simp only [Option.some.injEq, Prod.mk.injEq] at H
                obtain ⟨rfl, rfl, rfl, rfl⟩ := H
                have hcz117_0 : w189.cell? ⟨gb168, 0, none⟩ = some (.int .i64 t147) := (blk_cell BK168.out 0).trans rfl
                have hcz117_6 : w189.cell? ⟨gb168, 6, none⟩ = some (.bool false) := (blk_cell BK168.out 6).trans rfl
                have hcz119_0 : w189.cell? ⟨gb169, 0, none⟩ = some (.int .i64 t158) := (blk_cell BK169.out 0).trans rfl
                have hcz119_1 : w189.cell? ⟨gb169, 1, none⟩ = some (.int .i64 t159) := (blk_cell BK169.out 1).trans rfl
                try go_wp2
                have n0_ := Aside0.mk (Kd.R_drew HO145.out)
                have n1_ := Aside0.mk (blk_drew BK139.out)
                have n2_ := Aside0.mk (blk_drew BK168.out)
                have n3_ := Aside0.mk (blk_drew BK169.out)
                have n4_ := Aside0.mk (below_drew1 HB.out)
                clear HO145
                clear BK139
                clear BK168
                clear BK169
                clear HB
                have HO145 := n0_
                have BK139 := n1_
                have BK168 := n2_
                have BK169 := n3_
                have HB := n4_
                (try clear n0_; try clear n1_; try clear n2_; try clear n3_; try clear n4_)
                have p170 : 0 ≤ (1 : Int) := (by omega)
                have q170 : 1 < (t142.length : Int) := of_decide_eq_true (by (with_reducible assumption))
                obtain ⟨ad170, e170, hx170_0⟩ := Kd.at_int (Kd.R_reads' HO145.out).2.2 1 p170 q170
                obtain rfl : ad146 = ad170 := (by injection e170)
                (try simp only [show (1 : Int).toNat = 1 from rfl, Nat.reduceMul, Nat.reduceEqDiff, Go.Addr.add, ↓reduceIte] at hx170_0)
                (skip)
                replace p170 := eq_true p170
                replace q170 := eq_true q170
                refine start_ (n := 11) (S := fun w' => w'.cell? ⟨gb168, 0, none⟩ = some (.int .i64 t147) ∧ w'.cell? ⟨gb168, 1, none⟩ = some (.int .i64 t148) ∧ w'.cell? ⟨gb168, 2, none⟩ = some (.int .i64 t149) ∧ w'.cell? ⟨gb168, 3, none⟩ = some (.int .i64 t150) ∧ w'.cell? ⟨gb168, 4, none⟩ = some (.int .i64 t151) ∧ w'.cell? ⟨gb168, 5, none⟩ = some (.int .i64 t152) ∧ w'.cell? ⟨gb168, 6, none⟩ = some (.bool false) ∧ w'.cell? ⟨gb168, 7, none⟩ = some (.int .i64 t154) ∧ w'.cell? ⟨gb168, 8, none⟩ = some (.int .u32 t155) ∧ w'.cell? ⟨gb168, 9, none⟩ = some (.int .u32 t156) ∧ w'.cell? ⟨ad146.block, ad146.off + 1, none⟩ = some (.int .u64 (rd t142 1))) (ds := []) #[false, false, false, false, false, false, false, false, false, false, false] (by kernel_rfl) rfl rfl ⟨(blk_cell BK168.out 0).trans rfl, (blk_cell BK168.out 1).trans rfl, (blk_cell BK168.out 2).trans rfl, (blk_cell BK168.out 3).trans rfl, (blk_cell BK168.out 4).trans rfl, (blk_cell BK168.out 5).trans rfl, (blk_cell BK168.out 6).trans rfl, (blk_cell BK168.out 7).trans rfl, (blk_cell BK168.out 8).trans rfl, (blk_cell BK168.out 9).trans rfl, hx170_0⟩ (fun hHeld => ?_); refine with_tabW far_double.tab8 far_double.bits8 (fun HT_ HW_ => ?_)
                generalize w189.drew = w120 at HO145 BK139 BK168 BK169 HB hx170_0 hHeld ⊢
                refine pure_ (i := 0) (N := some 53) (v := ?_) (a' := ?_) #[true, false, false, false, false, false, false, false, false, false, false] rfl rfl (any_of HT_.out (by kernel_rfl)) (fun _ _ _ h => h) (Or.inl ⟨by rfl, ?_⟩) ?_ ?_
                rotate_left
                · intro w'
                  go_simp
                  with_reducible rfl
                rotate_left
                · simp only [Act.put, List.setIfInBounds_toArray, List.set_cons_zero, List.set_cons_succ, i64_w, i32_w]
                  rfl
                refine pure_ (i := 1) (N := some 54) (v := ?_) (a' := ?_) #[true, true, false, false, false, false, false, false, false, false, false] rfl rfl (any_of HT_.out (by kernel_rfl)) (fun _ _ _ h => h) (Or.inl ⟨by rfl, ?_⟩) ?_ ?_
                rotate_left
                · intro w'
                  go_simp
                  with_reducible rfl
                rotate_left
                · simp only [Act.put, List.setIfInBounds_toArray, List.set_cons_zero, List.set_cons_succ, i64_w, i32_w]
                  rfl
                refine pure_ (i := 3) (N := some 56) (v := ?_) (a' := ?_) #[true, true, false, true, false, false, false, false, false, false, false] rfl rfl (any_of HT_.out (by kernel_rfl)) (fun _ _ _ h => h) (Or.inl ⟨by rfl, ?_⟩) ?_ ?_
                rotate_left
                · intro w'
                  go_simp
                  with_reducible rfl
                rotate_left
                · simp only [Act.put, List.setIfInBounds_toArray, List.set_cons_zero, List.set_cons_succ, i64_w, i32_w]
                  rfl
                refine pure_ (i := 6) (N := some 59) (v := ?_) (a' := ?_) #[true, true, false, true, false, false, true, false, false, false, false] rfl rfl (any_of HT_.out (by kernel_rfl)) (fun _ _ _ h => h) (Or.inl ⟨by rfl, ?_⟩) ?_ ?_
                rotate_left
                · intro w'
                  go_simp
                  with_reducible rfl
                rotate_left
                · simp only [Act.put, List.setIfInBounds_toArray, List.set_cons_zero, List.set_cons_succ, i64_w, i32_w]
                  rfl
                refine take_ (i := 2) (N := some 55) (v := ?_) (a' := ?_) #[true, true, true, true, false, false, true, false, false, false, false] rfl rfl (take_ofW HT_.out HW_.out (by kernel_rfl)) (fun _ _ _ h => h) (Or.inl ⟨by rfl, ?_⟩) hHeld ?_ ?_
                rotate_left
                · rintro w' ⟨s0, s1, s2, s3, s4, s5, s6, s7, s8, s9, s10⟩
                  go_simp
                  with_reducible rfl
                rotate_left
                · simp only [Act.put, List.setIfInBounds_toArray, List.set_cons_zero, List.set_cons_succ, i64_w, i32_w]
                  rfl
                refine take_ (i := 4) (N := some 57) (v := ?_) (a' := ?_) #[true, true, true, true, true, false, true, false, false, false, false] rfl rfl (take_ofW HT_.out HW_.out (by kernel_rfl)) (fun _ _ _ h => h) (Or.inl ⟨by rfl, ?_⟩) hHeld ?_ ?_
                rotate_left
                · rintro w' ⟨s0, s1, s2, s3, s4, s5, s6, s7, s8, s9, s10⟩
                  go_simp
                  with_reducible rfl
                rotate_left
                · simp only [Act.put, List.setIfInBounds_toArray, List.set_cons_zero, List.set_cons_succ, i64_w, i32_w]
                  rfl
                refine pure_ (i := 5) (N := some 58) (v := ?_) (a' := ?_) #[true, true, true, true, true, true, true, false, false, false, false] rfl rfl (any_of HT_.out (by kernel_rfl)) (fun _ _ _ h => h) (Or.inl ⟨by rfl, ?_⟩) ?_ ?_
                rotate_left
                · intro w'
                  go_simp
                  with_reducible rfl
                rotate_left
                · simp only [Act.put, List.setIfInBounds_toArray, List.set_cons_zero, List.set_cons_succ, i64_w, i32_w]
                  rfl
                refine take_ (i := 7) (N := some 60) (v := ?_) (a' := ?_) #[true, true, true, true, true, true, true, true, false, false, false] rfl rfl (take_ofW HT_.out HW_.out (by kernel_rfl)) (fun _ _ _ h => h) (Or.inl ⟨by rfl, ?_⟩) hHeld ?_ ?_
                rotate_left
                · rintro w' ⟨s0, s1, s2, s3, s4, s5, s6, s7, s8, s9, s10⟩
                  go_simp
                  with_reducible rfl
                rotate_left
                · simp only [Act.put, List.setIfInBounds_toArray, List.set_cons_zero, List.set_cons_succ, i64_w, i32_w]
                  rfl
                refine pure_ (i := 8) (N := some 61) (v := ?_) (a' := ?_) #[true, true, true, true, true, true, true, true, true, false, false] rfl rfl (any_of HT_.out (by kernel_rfl)) (fun _ _ _ h => h) (Or.inl ⟨by rfl, ?_⟩) ?_ ?_
                rotate_left
                · intro w'
                  go_simp
                  with_reducible rfl
                rotate_left
                · simp only [Act.put, List.setIfInBounds_toArray, List.set_cons_zero, List.set_cons_succ, i64_w, i32_w]
                  rfl
                refine one_ (i := 9) (N := none) #[true, true, true, true, true, true, true, true, true, true, false] rfl rfl (one_of HT_.out (by kernel_rfl)) (by decide) (fun K hK => ?_)
                have hs121 : w120.cell? ⟨gb139, 0, none⟩ = some (.int .u64 0) := (blk_cell BK139.out 0).trans rfl
                have hfs121 := blk_frozen BK139.out 0
                have hs122 : w120.cell? ⟨gb139, 1, none⟩ = some (.int .i64 0) := (blk_cell BK139.out 1).trans rfl
                have hfs122 := blk_frozen BK139.out 1
                have hs123 : w120.cell? ⟨gb139, 2, none⟩ = some (.int .i64 0) := (blk_cell BK139.out 2).trans rfl
                have hfs123 := blk_frozen BK139.out 2
                refine skip_ (w1 := ?_) (by rfl) rfl ?_ ?_
                rotate_left
                · go_simp
                  rfl
                refine hK.out _ _ ⟨((cell_far (p := ⟨gb139, _, none⟩) NB168_139.out _).trans (((cell_far (p := ⟨gb139, _, none⟩) NB168_139.out _).trans (((cell_far (p := ⟨gb139, _, none⟩) NB168_139.out _).trans (hHeld.1)))))), ((cell_far (p := ⟨gb139, _, none⟩) NB168_139.out _).trans (((cell_far (p := ⟨gb139, _, none⟩) NB168_139.out _).trans (((cell_far (p := ⟨gb139, _, none⟩) NB168_139.out _).trans (hHeld.2.1)))))), ((cell_far (p := ⟨gb139, _, none⟩) NB168_139.out _).trans (((cell_far (p := ⟨gb139, _, none⟩) NB168_139.out _).trans (((cell_far (p := ⟨gb139, _, none⟩) NB168_139.out _).trans (hHeld.2.2.1)))))), ((cell_far (p := ⟨gb139, _, none⟩) NB168_139.out _).trans (((cell_far (p := ⟨gb139, _, none⟩) NB168_139.out _).trans (((cell_far (p := ⟨gb139, _, none⟩) NB168_139.out _).trans (hHeld.2.2.2.1)))))), ((cell_far (p := ⟨gb139, _, none⟩) NB168_139.out _).trans (((cell_far (p := ⟨gb139, _, none⟩) NB168_139.out _).trans (((cell_far (p := ⟨gb139, _, none⟩) NB168_139.out _).trans (hHeld.2.2.2.2.1)))))), ((cell_far (p := ⟨gb139, _, none⟩) NB168_139.out _).trans (((cell_far (p := ⟨gb139, _, none⟩) NB168_139.out _).trans (((cell_far (p := ⟨gb139, _, none⟩) NB168_139.out _).trans (hHeld.2.2.2.2.2.1)))))), ((cell_far (p := ⟨gb139, _, none⟩) NB168_139.out _).trans (((cell_far (p := ⟨gb139, _, none⟩) NB168_139.out _).trans (((cell_far (p := ⟨gb139, _, none⟩) NB168_139.out _).trans (hHeld.2.2.2.2.2.2.1)))))), ((cell_far (p := ⟨gb139, _, none⟩) NB168_139.out _).trans (((cell_far (p := ⟨gb139, _, none⟩) NB168_139.out _).trans (((cell_far (p := ⟨gb139, _, none⟩) NB168_139.out _).trans (hHeld.2.2.2.2.2.2.2.1)))))), ((cell_far (p := ⟨gb139, _, none⟩) NB168_139.out _).trans (((cell_far (p := ⟨gb139, _, none⟩) NB168_139.out _).trans (((cell_far (p := ⟨gb139, _, none⟩) NB168_139.out _).trans (hHeld.2.2.2.2.2.2.2.2.1)))))), ((cell_far (p := ⟨gb139, _, none⟩) NB168_139.out _).trans (((cell_far (p := ⟨gb139, _, none⟩) NB168_139.out _).trans (((cell_far (p := ⟨gb139, _, none⟩) NB168_139.out _).trans (hHeld.2.2.2.2.2.2.2.2.2.1)))))), ((cell_far (p := ⟨gb139, _, none⟩) (by (dsimp only; exact Kd.own_blk (Kd.R_ne HO145.out BK139.out (by decide)))) _).trans (((cell_far (p := ⟨gb139, _, none⟩) (by (dsimp only; exact Kd.own_blk (Kd.R_ne HO145.out BK139.out (by decide)))) _).trans (((cell_far (p := ⟨gb139, _, none⟩) (by (dsimp only; exact Kd.own_blk (Kd.R_ne HO145.out BK139.out (by decide)))) _).trans (hHeld.2.2.2.2.2.2.2.2.2.2))))))⟩ (fun hHeld => ?_)
                clear hK K
                refine pure_ (i := 10) (N := some 5) (v := ?_) (a' := ?_) #[true, true, true, true, true, true, true, true, true, true, true] rfl rfl (any_of HT_.out (by kernel_rfl)) (fun _ _ _ h => h) (Or.inl ⟨by rfl, ?_⟩) ?_ ?_
                rotate_left
                · intro w'
                  go_simp
                  with_reducible rfl
                rotate_left
                · simp only [Act.put, List.setIfInBounds_toArray, List.set_cons_zero, List.set_cons_succ, i64_w, i32_w]
                  rfl
                refine done_ (done_of HT_.out (by kernel_rfl)) ?_
                try go_wp2
                refine bodyPost_ret (results_ct rfl _ _ gb139 60 #[.int .u64 (rd t142 1), .int .i64 (wrap64 (t155)), .int .i64 t154] (0, 0) _ rfl (by refine blk_put (cs := #[.int .u64 (rd t142 1), .int .i64 (wrap64 (t155)), .int .i64 0]) ?_ 2 _ rfl; refine blk_put (cs := #[.int .u64 (rd t142 1), .int .i64 0, .int .i64 0]) ?_ 1 _ rfl; refine blk_put (cs := #[.int .u64 0, .int .i64 0, .int .i64 0]) ?_ 0 _ rfl; exact BK139.out) Tryd.underlying60 rfl (by kernel_rfl)) rfl ?_
                exact ⟨by rfl, by repeat ((with_reducible first | exact HB.out | refine below_set ?_ GE139.out))⟩
              · rw [if_neg c84] at H
                have c84b1 : (t159 != 0) = true := bne_iff_ne.mpr c84
                simp only [Option.some.injEq, Prod.mk.injEq] at H
                obtain ⟨rfl, rfl, rfl, rfl⟩ := H
                have hcz156_0 : w189.cell? ⟨gb168, 0, none⟩ = some (.int .i64 t147) := (blk_cell BK168.out 0).trans rfl
                have hcz156_6 : w189.cell? ⟨gb168, 6, none⟩ = some (.bool false) := (blk_cell BK168.out 6).trans rfl
                have hcz158_0 : w189.cell? ⟨gb169, 0, none⟩ = some (.int .i64 t158) := (blk_cell BK169.out 0).trans rfl
                have hcz158_1 : w189.cell? ⟨gb169, 1, none⟩ = some (.int .i64 t159) := (blk_cell BK169.out 1).trans rfl
                have hcz159_0 : w189.cell? ⟨gb139, 0, none⟩ = some (.int .u64 0) := (blk_cell BK139.out 0).trans rfl
                have hcz159_1 : w189.cell? ⟨gb139, 1, none⟩ = some (.int .i64 0) := (blk_cell BK139.out 1).trans rfl
                have hcz159_2 : w189.cell? ⟨gb139, 2, none⟩ = some (.int .i64 0) := (blk_cell BK139.out 2).trans rfl
                have hfz159_0 := blk_frozen BK139.out 0
                have hfz159_1 := blk_frozen BK139.out 1
                have hfz159_2 := blk_frozen BK139.out 2
                try go_wp2
                refine bodyPost_ret (results_ct rfl _ _ gb139 60 #[.int .u64 0, .int .i64 0, .int .i64 0] (0, 0) _ rfl (by refine blk_put (cs := #[.int .u64 0, .int .i64 0, .int .i64 0]) ?_ 2 _ rfl; refine blk_put (cs := #[.int .u64 0, .int .i64 0, .int .i64 0]) ?_ 1 _ rfl; refine blk_put (cs := #[.int .u64 0, .int .i64 0, .int .i64 0]) ?_ 0 _ rfl; exact BK139.out) Tryd.underlying60 rfl (by kernel_rfl)) rfl ?_
                exact ⟨by rfl, by repeat ((with_reducible first | exact HB.out | refine below_set ?_ GE139.out))⟩
        · rw [if_neg c10] at H
          have c10b1 : (t147 != 2) = true := bne_iff_ne.mpr c10
          simp only [Option.some.injEq, Prod.mk.injEq] at H
          obtain ⟨rfl, rfl, rfl, rfl⟩ := H
          have hcz192_0 : w189.cell? ⟨gb168, 0, none⟩ = some (.int .i64 t147) := (blk_cell BK168.out 0).trans rfl
          have hcz194_0 : w189.cell? ⟨gb139, 0, none⟩ = some (.int .u64 0) := (blk_cell BK139.out 0).trans rfl
          have hcz194_1 : w189.cell? ⟨gb139, 1, none⟩ = some (.int .i64 0) := (blk_cell BK139.out 1).trans rfl
          have hcz194_2 : w189.cell? ⟨gb139, 2, none⟩ = some (.int .i64 0) := (blk_cell BK139.out 2).trans rfl
          have hfz194_0 := blk_frozen BK139.out 0
          have hfz194_1 := blk_frozen BK139.out 1
          have hfz194_2 := blk_frozen BK139.out 2
          try go_wp2
          refine bodyPost_ret (results_ct rfl _ _ gb139 60 #[.int .u64 0, .int .i64 0, .int .i64 0] (0, 0) _ rfl (by refine blk_put (cs := #[.int .u64 0, .int .i64 0, .int .i64 0]) ?_ 2 _ rfl; refine blk_put (cs := #[.int .u64 0, .int .i64 0, .int .i64 0]) ?_ 1 _ rfl; refine blk_put (cs := #[.int .u64 0, .int .i64 0, .int .i64 0]) ?_ 0 _ rfl; exact BK139.out) Tryd.underlying60 rfl (by kernel_rfl)) rfl ?_
          exact ⟨by rfl, by repeat ((with_reducible first | exact HB.out | refine below_set ?_ GE139.out))⟩
      · rw [if_neg c8] at H
        exact absurd H (by simp)
    · rw [if_neg c6] at H
      exact absurd H (by simp)
  · replace c5 := Bool.eq_false_iff.mpr c5
    subst c5
    have H1 : (some (0, 0, 0, 2)) = some (r1, r2, r3, r4) := by rw [if_neg (show ¬ (false = true) by decide)] at H; exact H
    clear H
    have H := H1
    clear H1
    simp only [Option.some.injEq, Prod.mk.injEq] at H
    obtain ⟨rfl, rfl, rfl, rfl⟩ := H
    go_enter Tryd.func35, Tryd.ntmps35
    go_wp2_with (first | ((with_reducible refine gate_dst (N := 4) rfl ?_); refine box_event ?hg (N := 4) ?hd (cs := #[.int .u64 0, .int .i64 0, .int .i64 0]) (t := 60) ?hr ?_; (case hd => rfl); (case hg => rfl); (case hr => (go_simp; done)); intro gb139 hg w195 hbox hb; replace BK139 := Aside0.mk (hbox); replace GE139 := Aside0.mk (ge_of HB.out hg); replace HB := Aside0.mk (below_step HB.out hb); clear hb hbox hg) | ((with_reducible refine gate_callee (f := 18) rfl ?_); refine goesL_ (some 14) rfl rfl Tryd.func18 (by kernel_rfl) rfl #[.int .u64 a1] rfl (by (try simp only [List.map_toArray, List.map_cons, List.map_nil]); rfl) ?_; (with_reducible refine (far_Landing.calls (gb := gb) a1 t140 t141 _ ?side1 A3.out).mono ?_); (case side1 => exact Glob.below HG.out HB.out); rintro e w196 ⟨rfl, hb⟩; refine ⟨_, rfl, ?_⟩; replace BK139 := Aside0.mk (blk_below BK139.out hb); replace HB := Aside0.mk (below_step HB.out hb); (try clear hb)) | ((with_reducible refine gate_callee (f := 48) rfl ?_); refine goesL_ (some 21) rfl rfl Tryd.func48 (by kernel_rfl) rfl #[.slice A0 l0.length c0, .int .i64 t140, .int .i64 t141, .int .i64 2] rfl (by (try simp only [List.map_toArray, List.map_cons, List.map_nil]); rfl) ?_; (with_reducible refine (arena_Slice.calls _ _ l0 t140 t141 2 t142 false _ ?side1 ?side2 A4.out).mono ?_); (case side1 => repeat ((exact (Kd.C_below HR0.out HB.out)))); (case side2 => exact HC0.out); rintro e w197 ⟨v144, rfl, ho0, hb⟩; refine ⟨_, rfl, ?_⟩; replace HO145 := Aside0.mk (Kd.R_lower ho0 (below_size HB.out)); replace BK139 := Aside0.mk (blk_below BK139.out hb); replace HB := Aside0.mk (below_step HB.out hb); (try clear hb); (try clear ho0); have hcz198_0 : w197.cell? ⟨gb139, 0, none⟩ = some (.int .u64 0) := (blk_cell BK139.out 0).trans rfl; have hcz198_1 : w197.cell? ⟨gb139, 1, none⟩ = some (.int .i64 0) := (blk_cell BK139.out 1).trans rfl; have hcz198_2 : w197.cell? ⟨gb139, 2, none⟩ = some (.int .i64 0) := (blk_cell BK139.out 2).trans rfl; have hfz198_0 := blk_frozen BK139.out 0; have hfz198_1 := blk_frozen BK139.out 1; have hfz198_2 := blk_frozen BK139.out 2))
    refine bodyPost_ret (results_ct rfl _ _ gb139 60 #[.int .u64 0, .int .i64 0, .int .i64 0] (0, 0) _ rfl (by refine blk_put (cs := #[.int .u64 0, .int .i64 0, .int .i64 0]) ?_ 2 _ rfl; refine blk_put (cs := #[.int .u64 0, .int .i64 0, .int .i64 0]) ?_ 1 _ rfl; refine blk_put (cs := #[.int .u64 0, .int .i64 0, .int .i64 0]) ?_ 0 _ rfl; exact BK139.out) Tryd.underlying60 rfl (by kernel_rfl)) rfl ?_
    exact ⟨by rfl, by repeat ((with_reducible first | exact HB.out | refine below_set ?_ GE139.out))⟩


end Go.Proofs.YtcjhejopcghgnaaDoor.P

namespace Go.Proofs.YtcjhejopcghgnaaDoor.P
open Go.RowKit Go.Proofs.YtcjhejopcghgnaaDoorW.PrintWords Go.Proofs.YtcjhejopcghgnaaDoorW.PrintLast Go.Proofs.YtcjhejopcghgnaaDoorW.PrintMore
attribute [local go_sem] max2_int min2_int max_two min_two max_three min_three max_four min_four   -- for this text's walks alone
set_option linter.unusedVariables false
set_option linter.unusedSimpArgs false

variable {gb : Bool}
attribute [local go_sem high] eqA60
/-! ### far_Follow: function 14 -/
def far_Follow.f (l0 : List (List Int)) (a1 a2 : Int) : Option (Int × Int × Int × Int) := (arena_Word.f l0 a1 a2).bind fun bt139 => (if bt139.2 = true then ((far_IsFar.f bt139.1).bind fun t142 => (if t142 = true then ((pointer_Decode.f bt139.1).bind fun bt143 => (if bt143.2.2.2.2.2.2.1 = true then ((far_double.f l0 bt139.1).bind fun bt153 => (if (bt153.1 == 0 && (bt153.2.1 == 0 && (bt153.2.2.1 == 0))) = true then (if bt153.2.2.2 = 0 then (some (bt153.1, bt153.2.1, bt153.2.2.1, 0)) else (some (0, 0, 0, bt153.2.2.2))) else (some (bt153.1, bt153.2.1, bt153.2.2.1, 0)))) else ((far_single.f l0 bt139.1).bind fun bt157 => (if (bt157.1 == 0 && (bt157.2.1 == 0 && (bt157.2.2.1 == 0))) = true then (if bt157.2.2.2 = 0 then (some (bt157.1, bt157.2.1, bt157.2.2.1, 0)) else (some (0, 0, 0, bt157.2.2.2))) else (some (bt157.1, bt157.2.1, bt157.2.2.1, 0)))))) else (if (bt139.1 == 0 && (a1 == 0 && ((wrap64 (a2 + 1)) == 0))) = true then (if 0 = 0 then (some (bt139.1, a1, wrap64 (a2 + 1), 0)) else (some (0, 0, 0, 0))) else (some (bt139.1, a1, wrap64 (a2 + 1), 0))))) else (some (0, 0, 0, 2)))
set_option maxHeartbeats 8000000 in
set_option maxRecDepth 100000 in
theorem far_Follow.calls (A0 : Option Addr) (c0 : Nat) (l0 : List (List Int)) (a1 a2 r1 r2 r3 r4 : Int) (w : World) (hG : Glob gb w) (hr0 : Kd.C (Kd.slice 23 (Kd.int .u64)) w A0 l0.length l0) (hc0 : l0.length ≤ c0) (h : far_Follow.f l0 a1 a2 = some (r1, r2, r3, r4)) :
    Calls Tryd.prog 14 #[.slice A0 l0.length c0, .int .i64 a1, .int .i64 a2] w fun e w' => e = .returned (.tuple #[.int .u64 r1, .int .i64 r2, .int .i64 r3, .int .i64 r4]) ∧ Below w.heap.size w w' := by
  have hfp : ∀ (p1 p2 p3 p4 p5 p6 : Int) (p7 : Bool) (p8 p9 p10 : Int) (W : World), (Instr.field 39 (Value.agg #[.int .i64 p1, .int .i64 p2, .int .i64 p3, .int .i64 p4, .int .i64 p5, .int .i64 p6, .bool p7, .int .i64 p8, .int .u32 p9, .int .u32 p10]) 6).run Tryd.prog W = .ok (.bool p7) W := fun p1 p2 p3 p4 p5 p6 p7 p8 p9 p10 W => by kernel_rfl
  have HG := Aside0.mk hG
  clear hG
  have HR0 := Aside0.mk hr0
  have HC0 := Aside0.mk hc0
  clear hr0 hc0
  have HB := Aside0.mk (Below.refl w.heap.size w)
  have H := h
  unfold far_Follow.f at H
  clear h
  replace H := Option.bind_eq_some_iff.mp H
  obtain ⟨⟨t139, t140⟩, A40, H⟩ := H
  dsimp only at H
  have A4 := Aside0.mk A40
  clear A40
  by_cases c5 : t140 = true
  · subst c5
    have H1 : ((far_IsFar.f t139).bind fun t142 => (if t142 = true then ((pointer_Decode.f t139).bind fun bt143 => (if bt143.2.2.2.2.2.2.1 = true then ((far_double.f l0 t139).bind fun bt153 => (if (bt153.1 == 0 && (bt153.2.1 == 0 && (bt153.2.2.1 == 0))) = true then (if bt153.2.2.2 = 0 then (some (bt153.1, bt153.2.1, bt153.2.2.1, 0)) else (some (0, 0, 0, bt153.2.2.2))) else (some (bt153.1, bt153.2.1, bt153.2.2.1, 0)))) else ((far_single.f l0 t139).bind fun bt157 => (if (bt157.1 == 0 && (bt157.2.1 == 0 && (bt157.2.2.1 == 0))) = true then (if bt157.2.2.2 = 0 then (some (bt157.1, bt157.2.1, bt157.2.2.1, 0)) else (some (0, 0, 0, bt157.2.2.2))) else (some (bt157.1, bt157.2.1, bt157.2.2.1, 0)))))) else (if (t139 == 0 && (a1 == 0 && ((wrap64 (a2 + 1)) == 0))) = true then (if 0 = 0 then (some (t139, a1, wrap64 (a2 + 1), 0)) else (some (0, 0, 0, 0))) else (some (t139, a1, wrap64 (a2 + 1), 0))))) = some (r1, r2, r3, r4) := by rw [if_pos rfl] at H; exact H
    clear H
    have H := H1
    clear H1
    replace H := Option.bind_eq_some_iff.mp H
    obtain ⟨t142, A60, H⟩ := H
    have A6 := Aside0.mk A60
    clear A60
    by_cases c7 : t142 = true
    · subst c7
      have H1 : ((pointer_Decode.f t139).bind fun bt143 => (if bt143.2.2.2.2.2.2.1 = true then ((far_double.f l0 t139).bind fun bt153 => (if (bt153.1 == 0 && (bt153.2.1 == 0 && (bt153.2.2.1 == 0))) = true then (if bt153.2.2.2 = 0 then (some (bt153.1, bt153.2.1, bt153.2.2.1, 0)) else (some (0, 0, 0, bt153.2.2.2))) else (some (bt153.1, bt153.2.1, bt153.2.2.1, 0)))) else ((far_single.f l0 t139).bind fun bt157 => (if (bt157.1 == 0 && (bt157.2.1 == 0 && (bt157.2.2.1 == 0))) = true then (if bt157.2.2.2 = 0 then (some (bt157.1, bt157.2.1, bt157.2.2.1, 0)) else (some (0, 0, 0, bt157.2.2.2))) else (some (bt157.1, bt157.2.1, bt157.2.2.1, 0)))))) = some (r1, r2, r3, r4) := by rw [if_pos rfl] at H; exact H
      clear H
      have H := H1
      clear H1
      replace H := Option.bind_eq_some_iff.mp H
      obtain ⟨⟨t143, t144, t145, t146, t147, t148, t149, t150, t151, t152⟩, A80, H⟩ := H
      dsimp only at H
      have A8 := Aside0.mk A80
      clear A80
      by_cases c9 : t149 = true
      · subst c9
        have H1 : ((far_double.f l0 t139).bind fun bt153 => (if (bt153.1 == 0 && (bt153.2.1 == 0 && (bt153.2.2.1 == 0))) = true then (if bt153.2.2.2 = 0 then (some (bt153.1, bt153.2.1, bt153.2.2.1, 0)) else (some (0, 0, 0, bt153.2.2.2))) else (some (bt153.1, bt153.2.1, bt153.2.2.1, 0)))) = some (r1, r2, r3, r4) := by rw [if_pos rfl] at H; exact H
        clear H
        have H := H1
        clear H1
        replace H := Option.bind_eq_some_iff.mp H
        obtain ⟨⟨t153, t154, t155, t156⟩, A100, H⟩ := H
        dsimp only at H
        have A10 := Aside0.mk A100
        clear A100
        by_cases c11 : (t153 == 0 && (t154 == 0 && (t155 == 0))) = true
        · rw [if_pos c11] at H
          have c11b0 : (t153 == 0 && (t154 == 0 && (t155 == 0))) = true := c11
          (try (skip))
          (try (skip))
          clear c11
          by_cases c12 : t156 = 0
          · rw [if_pos c12] at H
            have c12b1 : (t156 != 0) = false := bne_eq_false_iff_eq.mpr c12
            clear c12
            simp only [Option.some.injEq, Prod.mk.injEq] at H
            obtain ⟨rfl, rfl, rfl, rfl⟩ := H
            go_enter Tryd.func14, Tryd.ntmps14
            go_wp2_with (first | (go_at_call 32; (with_reducible refine (arena_Word.calls _ _ l0 a1 a2 t139 true _ ?side1 ?side2 A4.out).mono ?_); (case side1 => repeat (exact HR0.out)); (case side2 => exact HC0.out); rintro e w' ⟨rfl, ⟨nd, rfl⟩⟩; (try fail)) | ((with_reducible refine gate_dst (N := 12) rfl ?_); refine box_event ?hg (N := 12) ?hd (cs := #[.int .u64 0, .int .i64 0, .int .i64 0]) (t := 60) ?hr ?_; (case hd => rfl); (case hg => rfl); (case hr => (go_simp; done)); intro gb141 hg w13 hbox hb; replace BK141 := Aside0.mk (hbox); replace GE141 := Aside0.mk ((by rw [hg]; exact (below_size (by repeat ((with_reducible first | exact HB.out | apply pw_below_drewN)))) : w.heap.size ≤ gb141)); replace HB := Aside0.mk (below_step (by repeat ((with_reducible first | exact HB.out | apply pw_below_drewN))) hb); clear hb hbox hg; have hcz14_0 : w13.cell? ⟨gb141, 0, none⟩ = some (.int .u64 0) := (blk_cell BK141.out 0).trans rfl; have hcz14_1 : w13.cell? ⟨gb141, 1, none⟩ = some (.int .i64 0) := (blk_cell BK141.out 1).trans rfl; have hcz14_2 : w13.cell? ⟨gb141, 2, none⟩ = some (.int .i64 0) := (blk_cell BK141.out 2).trans rfl; have hfz14_0 := blk_frozen BK141.out 0; have hfz14_1 := blk_frozen BK141.out 1; have hfz14_2 := blk_frozen BK141.out 2) | (go_at_call 16; (with_reducible refine (far_IsFar.calls (gb := gb) t139 true _ ?side1 A6.out).mono ?_); (case side1 => exact Glob.below HG.out (by repeat ((with_reducible first | exact HB.out | refine below_set ?_ GE141.out)))); rintro e w15 ⟨rfl, hb⟩; replace BK141 := Aside0.mk (blk_below (g := gb141) (o := .cells #[.int .u64 t139, .int .i64 a1, .int .i64 (wrap64 (a2 + 1))] 60 (0, 0)) (by refine blk_put (cs := #[.int .u64 t139, .int .i64 a1, .int .i64 0]) ?_ 2 _ rfl; refine blk_put (cs := #[.int .u64 t139, .int .i64 0, .int .i64 0]) ?_ 1 _ rfl; refine blk_put (cs := #[.int .u64 0, .int .i64 0, .int .i64 0]) ?_ 0 _ rfl; exact BK141.out) hb); replace HB := Aside0.mk (below_step (by repeat ((with_reducible first | exact HB.out | refine below_set ?_ GE141.out))) hb); (try clear hb)) | (go_at_call 34; (with_reducible refine (pointer_Decode.calls (gb := gb) t139 t143 t144 t145 t146 t147 t148 true t150 t151 t152 _ ?side1 A8.out).mono ?_); (case side1 => exact Glob.below HG.out HB.out); rintro e w16 ⟨rfl, hb⟩; replace BK141 := Aside0.mk (blk_below BK141.out hb); replace HB := Aside0.mk (below_step HB.out hb); (try clear hb)) | (go_at_call 35; (with_reducible refine (far_double.calls (gb := gb) _ _ l0 t139 t153 t154 t155 t156 _ ?side1 ?side2 ?side3 A10.out).mono ?_); (case side1 => exact Glob.below HG.out HB.out); (case side2 => repeat ((exact (Kd.C_below HR0.out HB.out)))); (case side3 => exact HC0.out); rintro e w17 ⟨rfl, hb⟩; replace BK141 := Aside0.mk (blk_below BK141.out hb); replace HB := Aside0.mk (below_step HB.out hb); (try clear hb); have hcz18_0 : w17.cell? ⟨gb141, 0, none⟩ = some (.int .u64 t139) := (blk_cell BK141.out 0).trans rfl; have hcz18_1 : w17.cell? ⟨gb141, 1, none⟩ = some (.int .i64 a1) := (blk_cell BK141.out 1).trans rfl; have hcz18_2 : w17.cell? ⟨gb141, 2, none⟩ = some (.int .i64 (wrap64 (a2 + 1))) := (blk_cell BK141.out 2).trans rfl; have hfz18_0 := blk_frozen BK141.out 0; have hfz18_1 := blk_frozen BK141.out 1; have hfz18_2 := blk_frozen BK141.out 2))
            repeat (go_quiet (fail); try go_wp2_with (fail))
            refine bodyPost_ret (results_list (rs := [.tmp 6, .tmp 7, .tmp 8, .tmp 9]) rfl (by simp) (.tmp (.tmp (.tmp (.tmp .nil))))) rfl ?_
            exact ⟨by rfl, by repeat ((with_reducible first | exact HB.out | apply pw_below_drewN | refine below_set ?_ GE141.out))⟩
          · rw [if_neg c12] at H
            have c12b1 : (t156 != 0) = true := bne_iff_ne.mpr c12
            simp only [Option.some.injEq, Prod.mk.injEq] at H
            obtain ⟨rfl, rfl, rfl, rfl⟩ := H
            go_enter Tryd.func14, Tryd.ntmps14
            go_wp2_with (first | (go_at_call 32; (with_reducible refine (arena_Word.calls _ _ l0 a1 a2 t139 true _ ?side1 ?side2 A4.out).mono ?_); (case side1 => repeat (exact HR0.out)); (case side2 => exact HC0.out); rintro e w' ⟨rfl, ⟨nd, rfl⟩⟩; (try fail)) | ((with_reducible refine gate_dst (N := 12) rfl ?_); refine box_event ?hg (N := 12) ?hd (cs := #[.int .u64 0, .int .i64 0, .int .i64 0]) (t := 60) ?hr ?_; (case hd => rfl); (case hg => rfl); (case hr => (go_simp; done)); intro gb141 hg w19 hbox hb; replace BK141 := Aside0.mk (hbox); replace GE141 := Aside0.mk ((by rw [hg]; exact (below_size (by repeat ((with_reducible first | exact HB.out | apply pw_below_drewN)))) : w.heap.size ≤ gb141)); replace HB := Aside0.mk (below_step (by repeat ((with_reducible first | exact HB.out | apply pw_below_drewN))) hb); clear hb hbox hg; have hcz20_0 : w19.cell? ⟨gb141, 0, none⟩ = some (.int .u64 0) := (blk_cell BK141.out 0).trans rfl; have hcz20_1 : w19.cell? ⟨gb141, 1, none⟩ = some (.int .i64 0) := (blk_cell BK141.out 1).trans rfl; have hcz20_2 : w19.cell? ⟨gb141, 2, none⟩ = some (.int .i64 0) := (blk_cell BK141.out 2).trans rfl; have hfz20_0 := blk_frozen BK141.out 0; have hfz20_1 := blk_frozen BK141.out 1; have hfz20_2 := blk_frozen BK141.out 2) | (go_at_call 16; (with_reducible refine (far_IsFar.calls (gb := gb) t139 true _ ?side1 A6.out).mono ?_); (case side1 => exact Glob.below HG.out (by repeat ((with_reducible first | exact HB.out | refine below_set ?_ GE141.out)))); rintro e w21 ⟨rfl, hb⟩; replace BK141 := Aside0.mk (blk_below (g := gb141) (o := .cells #[.int .u64 t139, .int .i64 a1, .int .i64 (wrap64 (a2 + 1))] 60 (0, 0)) (by refine blk_put (cs := #[.int .u64 t139, .int .i64 a1, .int .i64 0]) ?_ 2 _ rfl; refine blk_put (cs := #[.int .u64 t139, .int .i64 0, .int .i64 0]) ?_ 1 _ rfl; refine blk_put (cs := #[.int .u64 0, .int .i64 0, .int .i64 0]) ?_ 0 _ rfl; exact BK141.out) hb); replace HB := Aside0.mk (below_step (by repeat ((with_reducible first | exact HB.out | refine below_set ?_ GE141.out))) hb); (try clear hb)) | (go_at_call 34; (with_reducible refine (pointer_Decode.calls (gb := gb) t139 t143 t144 t145 t146 t147 t148 true t150 t151 t152 _ ?side1 A8.out).mono ?_); (case side1 => exact Glob.below HG.out HB.out); rintro e w22 ⟨rfl, hb⟩; replace BK141 := Aside0.mk (blk_below BK141.out hb); replace HB := Aside0.mk (below_step HB.out hb); (try clear hb)) | (go_at_call 35; (with_reducible refine (far_double.calls (gb := gb) _ _ l0 t139 t153 t154 t155 t156 _ ?side1 ?side2 ?side3 A10.out).mono ?_); (case side1 => exact Glob.below HG.out HB.out); (case side2 => repeat ((exact (Kd.C_below HR0.out HB.out)))); (case side3 => exact HC0.out); rintro e w23 ⟨rfl, hb⟩; replace BK141 := Aside0.mk (blk_below BK141.out hb); replace HB := Aside0.mk (below_step HB.out hb); (try clear hb); have hcz24_0 : w23.cell? ⟨gb141, 0, none⟩ = some (.int .u64 t139) := (blk_cell BK141.out 0).trans rfl; have hcz24_1 : w23.cell? ⟨gb141, 1, none⟩ = some (.int .i64 a1) := (blk_cell BK141.out 1).trans rfl; have hcz24_2 : w23.cell? ⟨gb141, 2, none⟩ = some (.int .i64 (wrap64 (a2 + 1))) := (blk_cell BK141.out 2).trans rfl; have hfz24_0 := blk_frozen BK141.out 0; have hfz24_1 := blk_frozen BK141.out 1; have hfz24_2 := blk_frozen BK141.out 2))
            repeat (go_quiet (fail); try go_wp2_with (fail))
            refine bodyPost_ret (results_list (rs := [.tmp 6, .tmp 7, .tmp 8, .tmp 9]) rfl (by simp) (.tmp (.tmp (.tmp (.tmp .nil))))) rfl ?_
            exact ⟨by rfl, by repeat ((with_reducible first | exact HB.out | refine below_set ?_ GE141.out))⟩
        · rw [if_neg c11] at H
          have c11b0 : (t153 == 0 && (t154 == 0 && (t155 == 0))) = false := by simpa using c11
          (try (skip))
          (try (skip))
          (try (skip))
          clear c11
          simp only [Option.some.injEq, Prod.mk.injEq] at H
          obtain ⟨rfl, rfl, rfl, rfl⟩ := H
          go_enter Tryd.func14, Tryd.ntmps14
          go_wp2_with (first | (go_at_call 32; (with_reducible refine (arena_Word.calls _ _ l0 a1 a2 t139 true _ ?side1 ?side2 A4.out).mono ?_); (case side1 => repeat (exact HR0.out)); (case side2 => exact HC0.out); rintro e w' ⟨rfl, ⟨nd, rfl⟩⟩; (try fail)) | ((with_reducible refine gate_dst (N := 12) rfl ?_); refine box_event ?hg (N := 12) ?hd (cs := #[.int .u64 0, .int .i64 0, .int .i64 0]) (t := 60) ?hr ?_; (case hd => rfl); (case hg => rfl); (case hr => (go_simp; done)); intro gb141 hg w25 hbox hb; replace BK141 := Aside0.mk (hbox); replace GE141 := Aside0.mk ((by rw [hg]; exact (below_size (by repeat ((with_reducible first | exact HB.out | apply pw_below_drewN)))) : w.heap.size ≤ gb141)); replace HB := Aside0.mk (below_step (by repeat ((with_reducible first | exact HB.out | apply pw_below_drewN))) hb); clear hb hbox hg; have hcz26_0 : w25.cell? ⟨gb141, 0, none⟩ = some (.int .u64 0) := (blk_cell BK141.out 0).trans rfl; have hcz26_1 : w25.cell? ⟨gb141, 1, none⟩ = some (.int .i64 0) := (blk_cell BK141.out 1).trans rfl; have hcz26_2 : w25.cell? ⟨gb141, 2, none⟩ = some (.int .i64 0) := (blk_cell BK141.out 2).trans rfl; have hfz26_0 := blk_frozen BK141.out 0; have hfz26_1 := blk_frozen BK141.out 1; have hfz26_2 := blk_frozen BK141.out 2) | (go_at_call 16; (with_reducible refine (far_IsFar.calls (gb := gb) t139 true _ ?side1 A6.out).mono ?_); (case side1 => exact Glob.below HG.out (by repeat ((with_reducible first | exact HB.out | refine below_set ?_ GE141.out)))); rintro e w27 ⟨rfl, hb⟩; replace BK141 := Aside0.mk (blk_below (g := gb141) (o := .cells #[.int .u64 t139, .int .i64 a1, .int .i64 (wrap64 (a2 + 1))] 60 (0, 0)) (by refine blk_put (cs := #[.int .u64 t139, .int .i64 a1, .int .i64 0]) ?_ 2 _ rfl; refine blk_put (cs := #[.int .u64 t139, .int .i64 0, .int .i64 0]) ?_ 1 _ rfl; refine blk_put (cs := #[.int .u64 0, .int .i64 0, .int .i64 0]) ?_ 0 _ rfl; exact BK141.out) hb); replace HB := Aside0.mk (below_step (by repeat ((with_reducible first | exact HB.out | refine below_set ?_ GE141.out))) hb); (try clear hb)) | (go_at_call 34; (with_reducible refine (pointer_Decode.calls (gb := gb) t139 t143 t144 t145 t146 t147 t148 true t150 t151 t152 _ ?side1 A8.out).mono ?_); (case side1 => exact Glob.below HG.out HB.out); rintro e w28 ⟨rfl, hb⟩; replace BK141 := Aside0.mk (blk_below BK141.out hb); replace HB := Aside0.mk (below_step HB.out hb); (try clear hb)) | (go_at_call 35; (with_reducible refine (far_double.calls (gb := gb) _ _ l0 t139 t153 t154 t155 t156 _ ?side1 ?side2 ?side3 A10.out).mono ?_); (case side1 => exact Glob.below HG.out HB.out); (case side2 => repeat ((exact (Kd.C_below HR0.out HB.out)))); (case side3 => exact HC0.out); rintro e w29 ⟨rfl, hb⟩; replace BK141 := Aside0.mk (blk_below BK141.out hb); replace HB := Aside0.mk (below_step HB.out hb); (try clear hb); have hcz30_0 : w29.cell? ⟨gb141, 0, none⟩ = some (.int .u64 t139) := (blk_cell BK141.out 0).trans rfl; have hcz30_1 : w29.cell? ⟨gb141, 1, none⟩ = some (.int .i64 a1) := (blk_cell BK141.out 1).trans rfl; have hcz30_2 : w29.cell? ⟨gb141, 2, none⟩ = some (.int .i64 (wrap64 (a2 + 1))) := (blk_cell BK141.out 2).trans rfl; have hfz30_0 := blk_frozen BK141.out 0; have hfz30_1 := blk_frozen BK141.out 1; have hfz30_2 := blk_frozen BK141.out 2))
          repeat (go_quiet (fail); try go_wp2_with (fail))
          refine bodyPost_ret (results_list (rs := [.tmp 6, .tmp 7, .tmp 8, .tmp 9]) rfl (by simp) (.tmp (.tmp (.tmp (.tmp .nil))))) rfl ?_
          exact ⟨by rfl, by repeat ((with_reducible first | exact HB.out | apply pw_below_drewN | refine below_set ?_ GE141.out))⟩
      · replace c9 := Bool.eq_false_iff.mpr c9
        subst c9
        have H1 : ((far_single.f l0 t139).bind fun bt157 => (if (bt157.1 == 0 && (bt157.2.1 == 0 && (bt157.2.2.1 == 0))) = true then (if bt157.2.2.2 = 0 then (some (bt157.1, bt157.2.1, bt157.2.2.1, 0)) else (some (0, 0, 0, bt157.2.2.2))) else (some (bt157.1, bt157.2.1, bt157.2.2.1, 0)))) = some (r1, r2, r3, r4) := by rw [if_neg (show ¬ (false = true) by decide)] at H; exact H
        clear H
        have H := H1
        clear H1
        replace H := Option.bind_eq_some_iff.mp H
        obtain ⟨⟨t157, t158, t159, t160⟩, A310, H⟩ := H
        dsimp only at H
        have A31 := Aside0.mk A310
        clear A310
        by_cases c32 : (t157 == 0 && (t158 == 0 && (t159 == 0))) = true
        · rw [if_pos c32] at H
          have c32b0 : (t157 == 0 && (t158 == 0 && (t159 == 0))) = true := c32
          (try (skip))
          (try (skip))
          clear c32
          by_cases c33 : t160 = 0
          · rw [if_pos c33] at H
            have c33b1 : (t160 != 0) = false := bne_eq_false_iff_eq.mpr c33
            clear c33
            simp only [Option.some.injEq, Prod.mk.injEq] at H
            obtain ⟨rfl, rfl, rfl, rfl⟩ := H
            go_enter Tryd.func14, Tryd.ntmps14
            go_wp2_with (first | (go_at_call 32; (with_reducible refine (arena_Word.calls _ _ l0 a1 a2 t139 true _ ?side1 ?side2 A4.out).mono ?_); (case side1 => repeat (exact HR0.out)); (case side2 => exact HC0.out); rintro e w' ⟨rfl, ⟨nd, rfl⟩⟩; (try fail)) | ((with_reducible refine gate_dst (N := 12) rfl ?_); refine box_event ?hg (N := 12) ?hd (cs := #[.int .u64 0, .int .i64 0, .int .i64 0]) (t := 60) ?hr ?_; (case hd => rfl); (case hg => rfl); (case hr => (go_simp; done)); intro gb141 hg w34 hbox hb; replace BK141 := Aside0.mk (hbox); replace GE141 := Aside0.mk ((by rw [hg]; exact (below_size (by repeat ((with_reducible first | exact HB.out | apply pw_below_drewN)))) : w.heap.size ≤ gb141)); replace HB := Aside0.mk (below_step (by repeat ((with_reducible first | exact HB.out | apply pw_below_drewN))) hb); clear hb hbox hg; have hcz35_0 : w34.cell? ⟨gb141, 0, none⟩ = some (.int .u64 0) := (blk_cell BK141.out 0).trans rfl; have hcz35_1 : w34.cell? ⟨gb141, 1, none⟩ = some (.int .i64 0) := (blk_cell BK141.out 1).trans rfl; have hcz35_2 : w34.cell? ⟨gb141, 2, none⟩ = some (.int .i64 0) := (blk_cell BK141.out 2).trans rfl; have hfz35_0 := blk_frozen BK141.out 0; have hfz35_1 := blk_frozen BK141.out 1; have hfz35_2 := blk_frozen BK141.out 2) | (go_at_call 16; (with_reducible refine (far_IsFar.calls (gb := gb) t139 true _ ?side1 A6.out).mono ?_); (case side1 => exact Glob.below HG.out (by repeat ((with_reducible first | exact HB.out | refine below_set ?_ GE141.out)))); rintro e w36 ⟨rfl, hb⟩; replace BK141 := Aside0.mk (blk_below (g := gb141) (o := .cells #[.int .u64 t139, .int .i64 a1, .int .i64 (wrap64 (a2 + 1))] 60 (0, 0)) (by refine blk_put (cs := #[.int .u64 t139, .int .i64 a1, .int .i64 0]) ?_ 2 _ rfl; refine blk_put (cs := #[.int .u64 t139, .int .i64 0, .int .i64 0]) ?_ 1 _ rfl; refine blk_put (cs := #[.int .u64 0, .int .i64 0, .int .i64 0]) ?_ 0 _ rfl; exact BK141.out) hb); replace HB := Aside0.mk (below_step (by repeat ((with_reducible first | exact HB.out | refine below_set ?_ GE141.out))) hb); (try clear hb)) | (go_at_call 34; (with_reducible refine (pointer_Decode.calls (gb := gb) t139 t143 t144 t145 t146 t147 t148 false t150 t151 t152 _ ?side1 A8.out).mono ?_); (case side1 => exact Glob.below HG.out HB.out); rintro e w37 ⟨rfl, hb⟩; replace BK141 := Aside0.mk (blk_below BK141.out hb); replace HB := Aside0.mk (below_step HB.out hb); (try clear hb)) | (go_at_call 33; (with_reducible refine (far_single.calls (gb := gb) _ _ l0 t139 t157 t158 t159 t160 _ ?side1 ?side2 ?side3 A31.out).mono ?_); (case side1 => exact Glob.below HG.out HB.out); (case side2 => repeat ((exact (Kd.C_below HR0.out HB.out)))); (case side3 => exact HC0.out); rintro e w38 ⟨rfl, hb⟩; replace BK141 := Aside0.mk (blk_below BK141.out hb); replace HB := Aside0.mk (below_step HB.out hb); (try clear hb); have hcz39_0 : w38.cell? ⟨gb141, 0, none⟩ = some (.int .u64 t139) := (blk_cell BK141.out 0).trans rfl; have hcz39_1 : w38.cell? ⟨gb141, 1, none⟩ = some (.int .i64 a1) := (blk_cell BK141.out 1).trans rfl; have hcz39_2 : w38.cell? ⟨gb141, 2, none⟩ = some (.int .i64 (wrap64 (a2 + 1))) := (blk_cell BK141.out 2).trans rfl; have hfz39_0 := blk_frozen BK141.out 0; have hfz39_1 := blk_frozen BK141.out 1; have hfz39_2 := blk_frozen BK141.out 2))
            repeat (go_quiet (fail); try go_wp2_with (fail))
            refine bodyPost_ret (results_list (rs := [.tmp 6, .tmp 7, .tmp 8, .tmp 9]) rfl (by simp) (.tmp (.tmp (.tmp (.tmp .nil))))) rfl ?_
            exact ⟨by rfl, by repeat ((with_reducible first | exact HB.out | apply pw_below_drewN | refine below_set ?_ GE141.out))⟩
          · rw [if_neg c33] at H
            have c33b1 : (t160 != 0) = true := bne_iff_ne.mpr c33
            simp only [Option.some.injEq, Prod.mk.injEq] at H
            obtain ⟨rfl, rfl, rfl, rfl⟩ := H
            go_enter Tryd.func14, Tryd.ntmps14
            go_wp2_with (first | (go_at_call 32; (with_reducible refine (arena_Word.calls _ _ l0 a1 a2 t139 true _ ?side1 ?side2 A4.out).mono ?_); (case side1 => repeat (exact HR0.out)); (case side2 => exact HC0.out); rintro e w' ⟨rfl, ⟨nd, rfl⟩⟩; (try fail)) | ((with_reducible refine gate_dst (N := 12) rfl ?_); refine box_event ?hg (N := 12) ?hd (cs := #[.int .u64 0, .int .i64 0, .int .i64 0]) (t := 60) ?hr ?_; (case hd => rfl); (case hg => rfl); (case hr => (go_simp; done)); intro gb141 hg w40 hbox hb; replace BK141 := Aside0.mk (hbox); replace GE141 := Aside0.mk ((by rw [hg]; exact (below_size (by repeat ((with_reducible first | exact HB.out | apply pw_below_drewN)))) : w.heap.size ≤ gb141)); replace HB := Aside0.mk (below_step (by repeat ((with_reducible first | exact HB.out | apply pw_below_drewN))) hb); clear hb hbox hg; have hcz41_0 : w40.cell? ⟨gb141, 0, none⟩ = some (.int .u64 0) := (blk_cell BK141.out 0).trans rfl; have hcz41_1 : w40.cell? ⟨gb141, 1, none⟩ = some (.int .i64 0) := (blk_cell BK141.out 1).trans rfl; have hcz41_2 : w40.cell? ⟨gb141, 2, none⟩ = some (.int .i64 0) := (blk_cell BK141.out 2).trans rfl; have hfz41_0 := blk_frozen BK141.out 0; have hfz41_1 := blk_frozen BK141.out 1; have hfz41_2 := blk_frozen BK141.out 2) | (go_at_call 16; (with_reducible refine (far_IsFar.calls (gb := gb) t139 true _ ?side1 A6.out).mono ?_); (case side1 => exact Glob.below HG.out (by repeat ((with_reducible first | exact HB.out | refine below_set ?_ GE141.out)))); rintro e w42 ⟨rfl, hb⟩; replace BK141 := Aside0.mk (blk_below (g := gb141) (o := .cells #[.int .u64 t139, .int .i64 a1, .int .i64 (wrap64 (a2 + 1))] 60 (0, 0)) (by refine blk_put (cs := #[.int .u64 t139, .int .i64 a1, .int .i64 0]) ?_ 2 _ rfl; refine blk_put (cs := #[.int .u64 t139, .int .i64 0, .int .i64 0]) ?_ 1 _ rfl; refine blk_put (cs := #[.int .u64 0, .int .i64 0, .int .i64 0]) ?_ 0 _ rfl; exact BK141.out) hb); replace HB := Aside0.mk (below_step (by repeat ((with_reducible first | exact HB.out | refine below_set ?_ GE141.out))) hb); (try clear hb)) | (go_at_call 34; (with_reducible refine (pointer_Decode.calls (gb := gb) t139 t143 t144 t145 t146 t147 t148 false t150 t151 t152 _ ?side1 A8.out).mono ?_); (case side1 => exact Glob.below HG.out HB.out); rintro e w43 ⟨rfl, hb⟩; replace BK141 := Aside0.mk (blk_below BK141.out hb); replace HB := Aside0.mk (below_step HB.out hb); (try clear hb)) | (go_at_call 33; (with_reducible refine (far_single.calls (gb := gb) _ _ l0 t139 t157 t158 t159 t160 _ ?side1 ?side2 ?side3 A31.out).mono ?_); (case side1 => exact Glob.below HG.out HB.out); (case side2 => repeat ((exact (Kd.C_below HR0.out HB.out)))); (case side3 => exact HC0.out); rintro e w44 ⟨rfl, hb⟩; replace BK141 := Aside0.mk (blk_below BK141.out hb); replace HB := Aside0.mk (below_step HB.out hb); (try clear hb); have hcz45_0 : w44.cell? ⟨gb141, 0, none⟩ = some (.int .u64 t139) := (blk_cell BK141.out 0).trans rfl; have hcz45_1 : w44.cell? ⟨gb141, 1, none⟩ = some (.int .i64 a1) := (blk_cell BK141.out 1).trans rfl; have hcz45_2 : w44.cell? ⟨gb141, 2, none⟩ = some (.int .i64 (wrap64 (a2 + 1))) := (blk_cell BK141.out 2).trans rfl; have hfz45_0 := blk_frozen BK141.out 0; have hfz45_1 := blk_frozen BK141.out 1; have hfz45_2 := blk_frozen BK141.out 2))
            repeat (go_quiet (fail); try go_wp2_with (fail))
            refine bodyPost_ret (results_list (rs := [.tmp 6, .tmp 7, .tmp 8, .tmp 9]) rfl (by simp) (.tmp (.tmp (.tmp (.tmp .nil))))) rfl ?_
            exact ⟨by rfl, by repeat ((with_reducible first | exact HB.out | refine below_set ?_ GE141.out))⟩
        · rw [if_neg c32] at H
          have c32b0 : (t157 == 0 && (t158 == 0 && (t159 == 0))) = false := by simpa using c32
          (try (skip))
          (try (skip))
          (try (skip))
          clear c32
          simp only [Option.some.injEq, Prod.mk.injEq] at H
          obtain ⟨rfl, rfl, rfl, rfl⟩ := H
          go_enter Tryd.func14, Tryd.ntmps14
          go_wp2_with (first | (go_at_call 32; (with_reducible refine (arena_Word.calls _ _ l0 a1 a2 t139 true _ ?side1 ?side2 A4.out).mono ?_); (case side1 => repeat (exact HR0.out)); (case side2 => exact HC0.out); rintro e w' ⟨rfl, ⟨nd, rfl⟩⟩; (try fail)) | ((with_reducible refine gate_dst (N := 12) rfl ?_); refine box_event ?hg (N := 12) ?hd (cs := #[.int .u64 0, .int .i64 0, .int .i64 0]) (t := 60) ?hr ?_; (case hd => rfl); (case hg => rfl); (case hr => (go_simp; done)); intro gb141 hg w46 hbox hb; replace BK141 := Aside0.mk (hbox); replace GE141 := Aside0.mk ((by rw [hg]; exact (below_size (by repeat ((with_reducible first | exact HB.out | apply pw_below_drewN)))) : w.heap.size ≤ gb141)); replace HB := Aside0.mk (below_step (by repeat ((with_reducible first | exact HB.out | apply pw_below_drewN))) hb); clear hb hbox hg; have hcz47_0 : w46.cell? ⟨gb141, 0, none⟩ = some (.int .u64 0) := (blk_cell BK141.out 0).trans rfl; have hcz47_1 : w46.cell? ⟨gb141, 1, none⟩ = some (.int .i64 0) := (blk_cell BK141.out 1).trans rfl; have hcz47_2 : w46.cell? ⟨gb141, 2, none⟩ = some (.int .i64 0) := (blk_cell BK141.out 2).trans rfl; have hfz47_0 := blk_frozen BK141.out 0; have hfz47_1 := blk_frozen BK141.out 1; have hfz47_2 := blk_frozen BK141.out 2) | (go_at_call 16; (with_reducible refine (far_IsFar.calls (gb := gb) t139 true _ ?side1 A6.out).mono ?_); (case side1 => exact Glob.below HG.out (by repeat ((with_reducible first | exact HB.out | refine below_set ?_ GE141.out)))); rintro e w48 ⟨rfl, hb⟩; replace BK141 := Aside0.mk (blk_below (g := gb141) (o := .cells #[.int .u64 t139, .int .i64 a1, .int .i64 (wrap64 (a2 + 1))] 60 (0, 0)) (by refine blk_put (cs := #[.int .u64 t139, .int .i64 a1, .int .i64 0]) ?_ 2 _ rfl; refine blk_put (cs := #[.int .u64 t139, .int .i64 0, .int .i64 0]) ?_ 1 _ rfl; refine blk_put (cs := #[.int .u64 0, .int .i64 0, .int .i64 0]) ?_ 0 _ rfl; exact BK141.out) hb); replace HB := Aside0.mk (below_step (by repeat ((with_reducible first | exact HB.out | refine below_set ?_ GE141.out))) hb); (try clear hb)) | (go_at_call 34; (with_reducible refine (pointer_Decode.calls (gb := gb) t139 t143 t144 t145 t146 t147 t148 false t150 t151 t152 _ ?side1 A8.out).mono ?_); (case side1 => exact Glob.below HG.out HB.out); rintro e w49 ⟨rfl, hb⟩; replace BK141 := Aside0.mk (blk_below BK141.out hb); replace HB := Aside0.mk (below_step HB.out hb); (try clear hb)) | (go_at_call 33; (with_reducible refine (far_single.calls (gb := gb) _ _ l0 t139 t157 t158 t159 t160 _ ?side1 ?side2 ?side3 A31.out).mono ?_); (case side1 => exact Glob.below HG.out HB.out); (case side2 => repeat ((exact (Kd.C_below HR0.out HB.out)))); (case side3 => exact HC0.out); rintro e w50 ⟨rfl, hb⟩; replace BK141 := Aside0.mk (blk_below BK141.out hb); replace HB := Aside0.mk (below_step HB.out hb); (try clear hb); have hcz51_0 : w50.cell? ⟨gb141, 0, none⟩ = some (.int .u64 t139) := (blk_cell BK141.out 0).trans rfl; have hcz51_1 : w50.cell? ⟨gb141, 1, none⟩ = some (.int .i64 a1) := (blk_cell BK141.out 1).trans rfl; have hcz51_2 : w50.cell? ⟨gb141, 2, none⟩ = some (.int .i64 (wrap64 (a2 + 1))) := (blk_cell BK141.out 2).trans rfl; have hfz51_0 := blk_frozen BK141.out 0; have hfz51_1 := blk_frozen BK141.out 1; have hfz51_2 := blk_frozen BK141.out 2))
          repeat (go_quiet (fail); try go_wp2_with (fail))
          refine bodyPost_ret (results_list (rs := [.tmp 6, .tmp 7, .tmp 8, .tmp 9]) rfl (by simp) (.tmp (.tmp (.tmp (.tmp .nil))))) rfl ?_
          exact ⟨by rfl, by repeat ((with_reducible first | exact HB.out | apply pw_below_drewN | refine below_set ?_ GE141.out))⟩
    · replace c7 := Bool.eq_false_iff.mpr c7
      subst c7
      have H1 : (if (t139 == 0 && (a1 == 0 && ((wrap64 (a2 + 1)) == 0))) = true then (if 0 = 0 then (some (t139, a1, wrap64 (a2 + 1), 0)) else (some (0, 0, 0, 0))) else (some (t139, a1, wrap64 (a2 + 1), 0))) = some (r1, r2, r3, r4) := by rw [if_neg (show ¬ (false = true) by decide)] at H; exact H
      clear H
      have H := H1
      clear H1
      by_cases c52 : (t139 == 0 && (a1 == 0 && ((wrap64 (a2 + 1)) == 0))) = true
      · rw [if_pos c52] at H
        have c52b0 : (t139 == 0 && (a1 == 0 && ((wrap64 (a2 + 1)) == 0))) = true := c52
        (try (skip))
        (try (skip))
        clear c52
        by_cases c53 : 0 = 0
        · rw [if_pos c53] at H
          clear c53
          simp only [Option.some.injEq, Prod.mk.injEq] at H
          obtain ⟨rfl, rfl, rfl, rfl⟩ := H
          go_enter Tryd.func14, Tryd.ntmps14
          go_wp2_with (first | (go_at_call 32; (with_reducible refine (arena_Word.calls _ _ l0 a1 a2 t139 true _ ?side1 ?side2 A4.out).mono ?_); (case side1 => repeat (exact HR0.out)); (case side2 => exact HC0.out); rintro e w' ⟨rfl, ⟨nd, rfl⟩⟩; (try fail)) | ((with_reducible refine gate_dst (N := 12) rfl ?_); refine box_event ?hg (N := 12) ?hd (cs := #[.int .u64 0, .int .i64 0, .int .i64 0]) (t := 60) ?hr ?_; (case hd => rfl); (case hg => rfl); (case hr => (go_simp; done)); intro gb141 hg w54 hbox hb; replace BK141 := Aside0.mk (hbox); replace GE141 := Aside0.mk ((by rw [hg]; exact (below_size (by repeat ((with_reducible first | exact HB.out | apply pw_below_drewN)))) : w.heap.size ≤ gb141)); replace HB := Aside0.mk (below_step (by repeat ((with_reducible first | exact HB.out | apply pw_below_drewN))) hb); clear hb hbox hg; have hcz55_0 : w54.cell? ⟨gb141, 0, none⟩ = some (.int .u64 0) := (blk_cell BK141.out 0).trans rfl; have hcz55_1 : w54.cell? ⟨gb141, 1, none⟩ = some (.int .i64 0) := (blk_cell BK141.out 1).trans rfl; have hcz55_2 : w54.cell? ⟨gb141, 2, none⟩ = some (.int .i64 0) := (blk_cell BK141.out 2).trans rfl; have hfz55_0 := blk_frozen BK141.out 0; have hfz55_1 := blk_frozen BK141.out 1; have hfz55_2 := blk_frozen BK141.out 2) | (go_at_call 16; (with_reducible refine (far_IsFar.calls (gb := gb) t139 false _ ?side1 A6.out).mono ?_); (case side1 => exact Glob.below HG.out (by repeat ((with_reducible first | exact HB.out | refine below_set ?_ GE141.out)))); rintro e w56 ⟨rfl, hb⟩; replace BK141 := Aside0.mk (blk_below (g := gb141) (o := .cells #[.int .u64 t139, .int .i64 a1, .int .i64 (wrap64 (a2 + 1))] 60 (0, 0)) (by refine blk_put (cs := #[.int .u64 t139, .int .i64 a1, .int .i64 0]) ?_ 2 _ rfl; refine blk_put (cs := #[.int .u64 t139, .int .i64 0, .int .i64 0]) ?_ 1 _ rfl; refine blk_put (cs := #[.int .u64 0, .int .i64 0, .int .i64 0]) ?_ 0 _ rfl; exact BK141.out) hb); replace HB := Aside0.mk (below_step (by repeat ((with_reducible first | exact HB.out | refine below_set ?_ GE141.out))) hb); (try clear hb); have hcz57_0 : w56.cell? ⟨gb141, 0, none⟩ = some (.int .u64 t139) := (blk_cell BK141.out 0).trans rfl; have hcz57_1 : w56.cell? ⟨gb141, 1, none⟩ = some (.int .i64 a1) := (blk_cell BK141.out 1).trans rfl; have hcz57_2 : w56.cell? ⟨gb141, 2, none⟩ = some (.int .i64 (wrap64 (a2 + 1))) := (blk_cell BK141.out 2).trans rfl))
          repeat (go_quiet (fail); try go_wp2_with (fail))
          refine bodyPost_ret (results_list (rs := [.tmp 6, .tmp 7, .tmp 8, .tmp 9]) rfl (by simp) (.tmp (.tmp (.tmp (.tmp .nil))))) rfl ?_
          exact ⟨by rfl, by repeat ((with_reducible first | exact HB.out | apply pw_below_drewN))⟩
        · exact absurd rfl c53
      · rw [if_neg c52] at H
        have c52b0 : (t139 == 0 && (a1 == 0 && ((wrap64 (a2 + 1)) == 0))) = false := by simpa using c52
        (try (skip))
        (try (skip))
        (try (skip))
        clear c52
        simp only [Option.some.injEq, Prod.mk.injEq] at H
        obtain ⟨rfl, rfl, rfl, rfl⟩ := H
        go_enter Tryd.func14, Tryd.ntmps14
        go_wp2_with (first | (go_at_call 32; (with_reducible refine (arena_Word.calls _ _ l0 a1 a2 t139 true _ ?side1 ?side2 A4.out).mono ?_); (case side1 => repeat (exact HR0.out)); (case side2 => exact HC0.out); rintro e w' ⟨rfl, ⟨nd, rfl⟩⟩; (try fail)) | ((with_reducible refine gate_dst (N := 12) rfl ?_); refine box_event ?hg (N := 12) ?hd (cs := #[.int .u64 0, .int .i64 0, .int .i64 0]) (t := 60) ?hr ?_; (case hd => rfl); (case hg => rfl); (case hr => (go_simp; done)); intro gb141 hg w62 hbox hb; replace BK141 := Aside0.mk (hbox); replace GE141 := Aside0.mk ((by rw [hg]; exact (below_size (by repeat ((with_reducible first | exact HB.out | apply pw_below_drewN)))) : w.heap.size ≤ gb141)); replace HB := Aside0.mk (below_step (by repeat ((with_reducible first | exact HB.out | apply pw_below_drewN))) hb); clear hb hbox hg; have hcz63_0 : w62.cell? ⟨gb141, 0, none⟩ = some (.int .u64 0) := (blk_cell BK141.out 0).trans rfl; have hcz63_1 : w62.cell? ⟨gb141, 1, none⟩ = some (.int .i64 0) := (blk_cell BK141.out 1).trans rfl; have hcz63_2 : w62.cell? ⟨gb141, 2, none⟩ = some (.int .i64 0) := (blk_cell BK141.out 2).trans rfl; have hfz63_0 := blk_frozen BK141.out 0; have hfz63_1 := blk_frozen BK141.out 1; have hfz63_2 := blk_frozen BK141.out 2) | (go_at_call 16; (with_reducible refine (far_IsFar.calls (gb := gb) t139 false _ ?side1 A6.out).mono ?_); (case side1 => exact Glob.below HG.out (by repeat ((with_reducible first | exact HB.out | refine below_set ?_ GE141.out)))); rintro e w64 ⟨rfl, hb⟩; replace BK141 := Aside0.mk (blk_below (g := gb141) (o := .cells #[.int .u64 t139, .int .i64 a1, .int .i64 (wrap64 (a2 + 1))] 60 (0, 0)) (by refine blk_put (cs := #[.int .u64 t139, .int .i64 a1, .int .i64 0]) ?_ 2 _ rfl; refine blk_put (cs := #[.int .u64 t139, .int .i64 0, .int .i64 0]) ?_ 1 _ rfl; refine blk_put (cs := #[.int .u64 0, .int .i64 0, .int .i64 0]) ?_ 0 _ rfl; exact BK141.out) hb); replace HB := Aside0.mk (below_step (by repeat ((with_reducible first | exact HB.out | refine below_set ?_ GE141.out))) hb); (try clear hb); have hcz65_0 : w64.cell? ⟨gb141, 0, none⟩ = some (.int .u64 t139) := (blk_cell BK141.out 0).trans rfl; have hcz65_1 : w64.cell? ⟨gb141, 1, none⟩ = some (.int .i64 a1) := (blk_cell BK141.out 1).trans rfl; have hcz65_2 : w64.cell? ⟨gb141, 2, none⟩ = some (.int .i64 (wrap64 (a2 + 1))) := (blk_cell BK141.out 2).trans rfl))
        repeat (go_quiet (fail); try go_wp2_with (fail))
        refine bodyPost_ret (results_list (rs := [.tmp 6, .tmp 7, .tmp 8, .tmp 9]) rfl (by simp) (.tmp (.tmp (.tmp (.tmp .nil))))) rfl ?_
        exact ⟨by rfl, by repeat ((with_reducible first | exact HB.out | apply pw_below_drewN))⟩
  · replace c5 := Bool.eq_false_iff.mpr c5
    subst c5
    have H1 : (some (0, 0, 0, 2)) = some (r1, r2, r3, r4) := by rw [if_neg (show ¬ (false = true) by decide)] at H; exact H
    clear H
    have H := H1
    clear H1
    simp only [Option.some.injEq, Prod.mk.injEq] at H
    obtain ⟨rfl, rfl, rfl, rfl⟩ := H
    go_enter Tryd.func14, Tryd.ntmps14
    go_wp2_with ((go_at_call 32; (with_reducible refine (arena_Word.calls _ _ l0 a1 a2 t139 false _ ?side1 ?side2 A4.out).mono ?_); (case side1 => repeat (exact HR0.out)); (case side2 => exact HC0.out); rintro e w' ⟨rfl, ⟨nd, rfl⟩⟩; (try fail)))
    repeat (go_quiet (fail); try go_wp2_with (fail))
    refine bodyPost_ret (results_list (rs := [.tmp 6, .tmp 7, .tmp 8, .tmp 9]) rfl (by simp) (.tmp (.tmp (.tmp (.tmp .nil))))) rfl ?_
    exact ⟨by rfl, by repeat ((with_reducible first | exact HB.out | apply pw_below_drewN))⟩

end Go.Proofs.YtcjhejopcghgnaaDoor.P

namespace Go.Proofs.YtcjhejopcghgnaaDoor.P
open Go.RowKit Go.Proofs.YtcjhejopcghgnaaDoorW.PrintWords Go.Proofs.YtcjhejopcghgnaaDoorW.PrintLast Go.Proofs.YtcjhejopcghgnaaDoorW.PrintMore
attribute [local go_sem] max2_int min2_int max_two min_two max_three min_three max_four min_four   -- for this text's walks alone
set_option linter.unusedVariables false
set_option linter.unusedSimpArgs false

variable {gb : Bool}
theorem eqA39 (d : Nat) (w : World) (x0 y0 : Int) (x1 y1 : Int) (x2 y2 : Int) (x3 y3 : Int) (x4 y4 : Int) (x5 y5 : Int) (x6 y6 : Bool) (x7 y7 : Int) (x8 y8 : Int) (x9 y9 : Int) :
    (Op.equalIn (d + 2) 39 (.agg #[.int .i64 x0, .int .i64 x1, .int .i64 x2, .int .i64 x3, .int .i64 x4, .int .i64 x5, .bool x6, .int .i64 x7, .int .u32 x8, .int .u32 x9]) (.agg #[.int .i64 y0, .int .i64 y1, .int .i64 y2, .int .i64 y3, .int .i64 y4, .int .i64 y5, .bool y6, .int .i64 y7, .int .u32 y8, .int .u32 y9])).run Tryd.prog w = .ok (x0 == y0 && (x1 == y1 && (x2 == y2 && (x3 == y3 && (x4 == y4 && (x5 == y5 && (x6 == y6 && (x7 == y7 && (x8 == y8 && (x9 == y9)))))))))) w := by
  refine eqA_of Tryd.underlying39 (by kernel_rfl) ?_
  refine eqf_cons (by rfl) (by go_simp; rfl) (by go_simp; rfl) (by go_simp) ?_
  refine eqf_cons (by rfl) (by go_simp; rfl) (by go_simp; rfl) (by go_simp) ?_
  refine eqf_cons (by rfl) (by go_simp; rfl) (by go_simp; rfl) (by go_simp) ?_
  refine eqf_cons (by rfl) (by go_simp; rfl) (by go_simp; rfl) (by go_simp) ?_
  refine eqf_cons (by rfl) (by go_simp; rfl) (by go_simp; rfl) (by go_simp) ?_
  refine eqf_cons (by rfl) (by go_simp; rfl) (by go_simp; rfl) (by go_simp) ?_
  refine eqf_cons (by rfl) (by go_simp; rfl) (by go_simp; rfl) (by go_simp) ?_
  refine eqf_cons (by rfl) (by go_simp; rfl) (by go_simp; rfl) (by go_simp) ?_
  refine eqf_cons (by rfl) (by go_simp; rfl) (by go_simp; rfl) (by go_simp) ?_
  exact eqf_last (by rfl) (by go_simp; rfl) (by go_simp; rfl) (by go_simp)
end Go.Proofs.YtcjhejopcghgnaaDoor.P

namespace Go.Proofs.YtcjhejopcghgnaaDoor.P
open Go.RowKit Go.Proofs.YtcjhejopcghgnaaDoorW.PrintWords Go.Proofs.YtcjhejopcghgnaaDoorW.PrintLast Go.Proofs.YtcjhejopcghgnaaDoorW.PrintMore
attribute [local go_sem] max2_int min2_int max_two min_two max_three min_three max_four min_four   -- for this text's walks alone
set_option linter.unusedVariables false
set_option linter.unusedSimpArgs false

variable {gb : Bool}
/-! ### capnpref02_offset: function 57 -/
def capnpref02_offset.f (a0 : Int) : Option (Bool) := if a0 ≥ (-536870912) then (some (decide (a0 ≤ 536870911))) else (some false)
set_option maxHeartbeats 8000000 in
set_option maxRecDepth 100000 in
theorem capnpref02_offset.calls (a0 : Int) (r : Bool) (w : World) (h : capnpref02_offset.f a0 = some r) :
    Calls Tryd.prog 57 #[.int .i64 a0] w fun e w' => e = .returned (.bool r) ∧ Drawn0 w w' := by
  have H : (if a0 ≥ (-536870912) then (some (decide (a0 ≤ 536870911))) else (some false)) = some r := h
  clear h
  by_cases c2 : a0 ≥ (-536870912)
  · rw [if_pos c2] at H
    have c2b0 : decide ((-536870912) ≤ a0) = true := decide_eq_true c2
    clear c2
    obtain rfl := Option.some.inj H
    go_enter Tryd.func57, Tryd.ntmps57
    go_wp2
    go_ret
    exact ⟨by rfl, by repeat (exact Drawn0.refl _)⟩
  · rw [if_neg c2] at H
    have c2b0 : decide ((-536870912) ≤ a0) = false := decide_eq_false c2
    clear c2
    obtain rfl := Option.some.inj H
    go_enter Tryd.func57, Tryd.ntmps57
    go_wp2
    go_ret
    exact ⟨by rfl, by repeat (exact Drawn0.refl _)⟩

end Go.Proofs.YtcjhejopcghgnaaDoor.P

namespace Go.Proofs.YtcjhejopcghgnaaDoor.P
open Go.RowKit Go.Proofs.YtcjhejopcghgnaaDoorW.PrintWords Go.Proofs.YtcjhejopcghgnaaDoorW.PrintLast Go.Proofs.YtcjhejopcghgnaaDoorW.PrintMore
attribute [local go_sem] max2_int min2_int max_two min_two max_three min_three max_four min_four   -- for this text's walks alone
set_option linter.unusedVariables false
set_option linter.unusedSimpArgs false

variable {gb : Bool}
attribute [local go_sem high] eqA39
/-! ### capnpref02_Valid: function 49 -/
def capnpref02_Valid.f (a0_0 a0_1 a0_2 a0_3 a0_4 a0_5 : Int) (a0_6 : Bool) (a0_7 a0_8 a0_9 : Int) : Option (Bool) := if a0_0 = 0 then (if (0 == a0_4 && (0 == a0_5 && (!a0_6 && (0 == a0_7 && (0 == a0_8 && (0 == a0_9)))))) = true then ((capnpref02_offset.f a0_1).bind fun t163 => (if t163 = true then (if a0_2 ≥ 0 then (if a0_2 ≤ 65535 then (if a0_3 ≥ 0 then (some (decide (a0_3 ≤ 65535))) else (some false)) else (some false)) else (some false)) else (some false))) else (some false)) else (if a0_0 = 1 then (if (0 == a0_2 && (0 == a0_3 && (!a0_6 && (0 == a0_7 && (0 == a0_8 && (0 == a0_9)))))) = true then ((capnpref02_offset.f a0_1).bind fun t164 => (if t164 = true then (if a0_4 ≥ 0 then (if a0_4 ≤ 7 then (if a0_5 ≥ 0 then (some (decide (a0_5 ≤ 536870911))) else (some false)) else (some false)) else (some false)) else (some false))) else (some false)) else (if a0_0 = 2 then (if (0 == a0_1 && (0 == a0_2 && (0 == a0_3 && (0 == a0_4 && (0 == a0_5 && (0 == a0_9)))))) = true then (if a0_7 ≥ 0 then (some (decide (a0_7 ≤ 536870911))) else (some false)) else (some false)) else (if a0_0 = 3 then (if (0 == a0_1 && (0 == a0_2 && (0 == a0_3 && (0 == a0_4 && (0 == a0_5 && (!a0_6 && (0 == a0_7))))))) = true then (some (decide (a0_9 ≤ 1073741823))) else (some false)) else (some false))))
set_option maxHeartbeats 8000000 in
set_option maxRecDepth 100000 in
theorem capnpref02_Valid.calls (a0_0 a0_1 a0_2 a0_3 a0_4 a0_5 : Int) (a0_6 : Bool) (a0_7 a0_8 a0_9 : Int) (r : Bool) (w : World) (h : capnpref02_Valid.f a0_0 a0_1 a0_2 a0_3 a0_4 a0_5 a0_6 a0_7 a0_8 a0_9 = some r) :
    Calls Tryd.prog 49 #[.agg #[.int .i64 a0_0, .int .i64 a0_1, .int .i64 a0_2, .int .i64 a0_3, .int .i64 a0_4, .int .i64 a0_5, .bool a0_6, .int .i64 a0_7, .int .u32 a0_8, .int .u32 a0_9]] w fun e w' => e = .returned (.bool r) ∧ Below w.heap.size w w' := by
  have HB := Aside0.mk (Below.refl w.heap.size w)
  have H := h
  unfold capnpref02_Valid.f at H
  clear h
  by_cases c2 : a0_0 = 0
  · rw [if_pos c2] at H
    have c2b0 : (a0_0 == 0) = true := beq_iff_eq.mpr c2
    clear c2
    by_cases c3 : (0 == a0_4 && (0 == a0_5 && (!a0_6 && (0 == a0_7 && (0 == a0_8 && (0 == a0_9)))))) = true
    · rw [if_pos c3] at H
      have c3b0 : (0 == a0_4 && (0 == a0_5 && (!a0_6 && (0 == a0_7 && (0 == a0_8 && (0 == a0_9)))))) = true := c3
      (try (skip))
      (try (skip))
      clear c3
      replace H := Option.bind_eq_some_iff.mp H
      obtain ⟨t163, A40, H⟩ := H
      have A4 := Aside0.mk A40
      clear A40
      by_cases c5 : t163 = true
      · subst c5
        have H1 : (if a0_2 ≥ 0 then (if a0_2 ≤ 65535 then (if a0_3 ≥ 0 then (some (decide (a0_3 ≤ 65535))) else (some false)) else (some false)) else (some false)) = some r := by rw [if_pos rfl] at H; exact H
        clear H
        have H := H1
        clear H1
        by_cases c6 : a0_2 ≥ 0
        · rw [if_pos c6] at H
          have c6b0 : decide (0 ≤ a0_2) = true := decide_eq_true c6
          clear c6
          by_cases c7 : a0_2 ≤ 65535
          · rw [if_pos c7] at H
            have c7b0 : decide (a0_2 ≤ 65535) = true := decide_eq_true c7
            clear c7
            by_cases c8 : a0_3 ≥ 0
            · rw [if_pos c8] at H
              have c8b0 : decide (0 ≤ a0_3) = true := decide_eq_true c8
              clear c8
              obtain rfl := Option.some.inj H
              go_enter Tryd.func49, Tryd.ntmps49
              go_wp2_with (first | ((with_reducible refine gate_dst (N := 1) rfl ?_); refine box_event ?hg (N := 1) ?hd (cs := #[.int .i64 a0_0, .int .i64 a0_1, .int .i64 a0_2, .int .i64 a0_3, .int .i64 a0_4, .int .i64 a0_5, .bool a0_6, .int .i64 a0_7, .int .u32 a0_8, .int .u32 a0_9]) (t := 39) ?hr ?_; (case hd => rfl); (case hg => rfl); (case hr => (go_simp; done)); intro gb161 hg w9 hbox hb; replace HB := Aside0.mk (below_step HB.out hb); replace BK161 := Aside0.mk (hbox); clear hb hbox hg) | ((with_reducible refine gate_dst (N := 3) rfl ?_); refine box_event ?hg (N := 3) ?hd (cs := #[.int .i64 0, .int .i64 0, .int .i64 0, .int .i64 0, .int .i64 0, .int .i64 0, .bool false, .int .i64 0, .int .u32 0, .int .u32 0]) (t := 39) ?hr ?_; (case hd => rfl); (case hg => rfl); (case hr => (go_simp; done)); intro gb162 hg w10 hbox hb; replace BK162 := Aside0.mk (hbox); replace GE162 := Aside0.mk (ge_of HB.out hg); replace HB := Aside0.mk (below_step HB.out hb); replace NB162_161 := Aside0.mk (ne_r BK161.out hg); replace BK161 := Aside0.mk (blk_below BK161.out hb); clear hb hbox hg; have hnc11 := NB162_161.out; obtain ⟨hcz12_0, hcz12_1, hcz12_2, hcz12_3, hcz12_4, hcz12_5, hcz12_6, hcz12_7, hcz12_8, hcz12_9⟩ := cells10 BK161.out; obtain ⟨hcz13_0, hcz13_1, hcz13_2, hcz13_3, hcz13_4, hcz13_5, hcz13_6, hcz13_7, hcz13_8, hcz13_9⟩ := cells10 BK162.out; obtain ⟨hfz13_0, hfz13_1, hfz13_2, hfz13_3, -, -, -, -, -, -⟩ := frz10 BK162.out) | (go_at_call 57; (with_reducible refine (capnpref02_offset.calls a0_1 true _ A4.out).mono ?_); rintro e w' ⟨rfl, ⟨nd, rfl⟩⟩))
              go_ret
              exact ⟨by rfl, by repeat ((with_reducible first | exact HB.out | apply pw_below_drewN | refine below_set ?_ GE162.out))⟩
            · rw [if_neg c8] at H
              have c8b0 : decide (0 ≤ a0_3) = false := decide_eq_false c8
              clear c8
              obtain rfl := Option.some.inj H
              go_enter Tryd.func49, Tryd.ntmps49
              go_wp2_with (first | ((with_reducible refine gate_dst (N := 1) rfl ?_); refine box_event ?hg (N := 1) ?hd (cs := #[.int .i64 a0_0, .int .i64 a0_1, .int .i64 a0_2, .int .i64 a0_3, .int .i64 a0_4, .int .i64 a0_5, .bool a0_6, .int .i64 a0_7, .int .u32 a0_8, .int .u32 a0_9]) (t := 39) ?hr ?_; (case hd => rfl); (case hg => rfl); (case hr => (go_simp; done)); intro gb161 hg w14 hbox hb; replace HB := Aside0.mk (below_step HB.out hb); replace BK161 := Aside0.mk (hbox); clear hb hbox hg) | ((with_reducible refine gate_dst (N := 3) rfl ?_); refine box_event ?hg (N := 3) ?hd (cs := #[.int .i64 0, .int .i64 0, .int .i64 0, .int .i64 0, .int .i64 0, .int .i64 0, .bool false, .int .i64 0, .int .u32 0, .int .u32 0]) (t := 39) ?hr ?_; (case hd => rfl); (case hg => rfl); (case hr => (go_simp; done)); intro gb162 hg w15 hbox hb; replace BK162 := Aside0.mk (hbox); replace GE162 := Aside0.mk (ge_of HB.out hg); replace HB := Aside0.mk (below_step HB.out hb); replace NB162_161 := Aside0.mk (ne_r BK161.out hg); replace BK161 := Aside0.mk (blk_below BK161.out hb); clear hb hbox hg; have hnc16 := NB162_161.out; obtain ⟨hcz17_0, hcz17_1, hcz17_2, hcz17_3, hcz17_4, hcz17_5, hcz17_6, hcz17_7, hcz17_8, hcz17_9⟩ := cells10 BK161.out; obtain ⟨hcz18_0, hcz18_1, hcz18_2, hcz18_3, hcz18_4, hcz18_5, hcz18_6, hcz18_7, hcz18_8, hcz18_9⟩ := cells10 BK162.out; obtain ⟨hfz18_0, hfz18_1, hfz18_2, hfz18_3, -, -, -, -, -, -⟩ := frz10 BK162.out) | (go_at_call 57; (with_reducible refine (capnpref02_offset.calls a0_1 true _ A4.out).mono ?_); rintro e w' ⟨rfl, ⟨nd, rfl⟩⟩))
              go_ret
              exact ⟨by rfl, by repeat ((with_reducible first | exact HB.out | apply pw_below_drewN | refine below_set ?_ GE162.out))⟩
          · rw [if_neg c7] at H
            have c7b0 : decide (a0_2 ≤ 65535) = false := decide_eq_false c7
            clear c7
            obtain rfl := Option.some.inj H
            go_enter Tryd.func49, Tryd.ntmps49
            go_wp2_with (first | ((with_reducible refine gate_dst (N := 1) rfl ?_); refine box_event ?hg (N := 1) ?hd (cs := #[.int .i64 a0_0, .int .i64 a0_1, .int .i64 a0_2, .int .i64 a0_3, .int .i64 a0_4, .int .i64 a0_5, .bool a0_6, .int .i64 a0_7, .int .u32 a0_8, .int .u32 a0_9]) (t := 39) ?hr ?_; (case hd => rfl); (case hg => rfl); (case hr => (go_simp; done)); intro gb161 hg w19 hbox hb; replace HB := Aside0.mk (below_step HB.out hb); replace BK161 := Aside0.mk (hbox); clear hb hbox hg) | ((with_reducible refine gate_dst (N := 3) rfl ?_); refine box_event ?hg (N := 3) ?hd (cs := #[.int .i64 0, .int .i64 0, .int .i64 0, .int .i64 0, .int .i64 0, .int .i64 0, .bool false, .int .i64 0, .int .u32 0, .int .u32 0]) (t := 39) ?hr ?_; (case hd => rfl); (case hg => rfl); (case hr => (go_simp; done)); intro gb162 hg w20 hbox hb; replace BK162 := Aside0.mk (hbox); replace GE162 := Aside0.mk (ge_of HB.out hg); replace HB := Aside0.mk (below_step HB.out hb); replace NB162_161 := Aside0.mk (ne_r BK161.out hg); replace BK161 := Aside0.mk (blk_below BK161.out hb); clear hb hbox hg; have hnc21 := NB162_161.out; obtain ⟨hcz22_0, hcz22_1, hcz22_2, hcz22_3, hcz22_4, hcz22_5, hcz22_6, hcz22_7, hcz22_8, hcz22_9⟩ := cells10 BK161.out; obtain ⟨hcz23_0, hcz23_1, hcz23_2, hcz23_3, hcz23_4, hcz23_5, hcz23_6, hcz23_7, hcz23_8, hcz23_9⟩ := cells10 BK162.out; obtain ⟨hfz23_0, hfz23_1, hfz23_2, hfz23_3, -, -, -, -, -, -⟩ := frz10 BK162.out) | (go_at_call 57; (with_reducible refine (capnpref02_offset.calls a0_1 true _ A4.out).mono ?_); rintro e w' ⟨rfl, ⟨nd, rfl⟩⟩))
            go_ret
            exact ⟨by rfl, by repeat ((with_reducible first | exact HB.out | apply pw_below_drewN | refine below_set ?_ GE162.out))⟩
        · rw [if_neg c6] at H
          have c6b0 : decide (0 ≤ a0_2) = false := decide_eq_false c6
          clear c6
          obtain rfl := Option.some.inj H
          go_enter Tryd.func49, Tryd.ntmps49
          go_wp2_with (first | ((with_reducible refine gate_dst (N := 1) rfl ?_); refine box_event ?hg (N := 1) ?hd (cs := #[.int .i64 a0_0, .int .i64 a0_1, .int .i64 a0_2, .int .i64 a0_3, .int .i64 a0_4, .int .i64 a0_5, .bool a0_6, .int .i64 a0_7, .int .u32 a0_8, .int .u32 a0_9]) (t := 39) ?hr ?_; (case hd => rfl); (case hg => rfl); (case hr => (go_simp; done)); intro gb161 hg w24 hbox hb; replace HB := Aside0.mk (below_step HB.out hb); replace BK161 := Aside0.mk (hbox); clear hb hbox hg) | ((with_reducible refine gate_dst (N := 3) rfl ?_); refine box_event ?hg (N := 3) ?hd (cs := #[.int .i64 0, .int .i64 0, .int .i64 0, .int .i64 0, .int .i64 0, .int .i64 0, .bool false, .int .i64 0, .int .u32 0, .int .u32 0]) (t := 39) ?hr ?_; (case hd => rfl); (case hg => rfl); (case hr => (go_simp; done)); intro gb162 hg w25 hbox hb; replace BK162 := Aside0.mk (hbox); replace GE162 := Aside0.mk (ge_of HB.out hg); replace HB := Aside0.mk (below_step HB.out hb); replace NB162_161 := Aside0.mk (ne_r BK161.out hg); replace BK161 := Aside0.mk (blk_below BK161.out hb); clear hb hbox hg; have hnc26 := NB162_161.out; obtain ⟨hcz27_0, hcz27_1, hcz27_2, hcz27_3, hcz27_4, hcz27_5, hcz27_6, hcz27_7, hcz27_8, hcz27_9⟩ := cells10 BK161.out; obtain ⟨hcz28_0, hcz28_1, hcz28_2, hcz28_3, hcz28_4, hcz28_5, hcz28_6, hcz28_7, hcz28_8, hcz28_9⟩ := cells10 BK162.out; obtain ⟨hfz28_0, hfz28_1, hfz28_2, hfz28_3, -, -, -, -, -, -⟩ := frz10 BK162.out) | (go_at_call 57; (with_reducible refine (capnpref02_offset.calls a0_1 true _ A4.out).mono ?_); rintro e w' ⟨rfl, ⟨nd, rfl⟩⟩))
          go_ret
          exact ⟨by rfl, by repeat ((with_reducible first | exact HB.out | apply pw_below_drewN | refine below_set ?_ GE162.out))⟩
      · replace c5 := Bool.eq_false_iff.mpr c5
        subst c5
        have H1 : (some false) = some r := by rw [if_neg (show ¬ (false = true) by decide)] at H; exact H
        clear H
        have H := H1
        clear H1
        obtain rfl := Option.some.inj H
        go_enter Tryd.func49, Tryd.ntmps49
        go_wp2_with (first | ((with_reducible refine gate_dst (N := 1) rfl ?_); refine box_event ?hg (N := 1) ?hd (cs := #[.int .i64 a0_0, .int .i64 a0_1, .int .i64 a0_2, .int .i64 a0_3, .int .i64 a0_4, .int .i64 a0_5, .bool a0_6, .int .i64 a0_7, .int .u32 a0_8, .int .u32 a0_9]) (t := 39) ?hr ?_; (case hd => rfl); (case hg => rfl); (case hr => (go_simp; done)); intro gb161 hg w29 hbox hb; replace HB := Aside0.mk (below_step HB.out hb); replace BK161 := Aside0.mk (hbox); clear hb hbox hg) | ((with_reducible refine gate_dst (N := 3) rfl ?_); refine box_event ?hg (N := 3) ?hd (cs := #[.int .i64 0, .int .i64 0, .int .i64 0, .int .i64 0, .int .i64 0, .int .i64 0, .bool false, .int .i64 0, .int .u32 0, .int .u32 0]) (t := 39) ?hr ?_; (case hd => rfl); (case hg => rfl); (case hr => (go_simp; done)); intro gb162 hg w30 hbox hb; replace BK162 := Aside0.mk (hbox); replace GE162 := Aside0.mk (ge_of HB.out hg); replace HB := Aside0.mk (below_step HB.out hb); replace NB162_161 := Aside0.mk (ne_r BK161.out hg); replace BK161 := Aside0.mk (blk_below BK161.out hb); clear hb hbox hg; have hnc31 := NB162_161.out; obtain ⟨hcz32_0, hcz32_1, hcz32_2, hcz32_3, hcz32_4, hcz32_5, hcz32_6, hcz32_7, hcz32_8, hcz32_9⟩ := cells10 BK161.out; obtain ⟨hcz33_0, hcz33_1, hcz33_2, hcz33_3, hcz33_4, hcz33_5, hcz33_6, hcz33_7, hcz33_8, hcz33_9⟩ := cells10 BK162.out; obtain ⟨hfz33_0, hfz33_1, hfz33_2, hfz33_3, -, -, -, -, -, -⟩ := frz10 BK162.out) | (go_at_call 57; (with_reducible refine (capnpref02_offset.calls a0_1 false _ A4.out).mono ?_); rintro e w' ⟨rfl, ⟨nd, rfl⟩⟩))
        go_ret
        exact ⟨by rfl, by repeat ((with_reducible first | exact HB.out | apply pw_below_drewN | refine below_set ?_ GE162.out))⟩
    · rw [if_neg c3] at H
      have c3b0 : (0 == a0_4 && (0 == a0_5 && (!a0_6 && (0 == a0_7 && (0 == a0_8 && (0 == a0_9)))))) = false := by simpa using c3
      (try (skip))
      (try (skip))
      (try (skip))
      clear c3
      obtain rfl := Option.some.inj H
      go_enter Tryd.func49, Tryd.ntmps49
      go_wp2_with (first | ((with_reducible refine gate_dst (N := 1) rfl ?_); refine box_event ?hg (N := 1) ?hd (cs := #[.int .i64 a0_0, .int .i64 a0_1, .int .i64 a0_2, .int .i64 a0_3, .int .i64 a0_4, .int .i64 a0_5, .bool a0_6, .int .i64 a0_7, .int .u32 a0_8, .int .u32 a0_9]) (t := 39) ?hr ?_; (case hd => rfl); (case hg => rfl); (case hr => (go_simp; done)); intro gb161 hg w34 hbox hb; replace HB := Aside0.mk (below_step HB.out hb); replace BK161 := Aside0.mk (hbox); clear hb hbox hg) | ((with_reducible refine gate_dst (N := 3) rfl ?_); refine box_event ?hg (N := 3) ?hd (cs := #[.int .i64 0, .int .i64 0, .int .i64 0, .int .i64 0, .int .i64 0, .int .i64 0, .bool false, .int .i64 0, .int .u32 0, .int .u32 0]) (t := 39) ?hr ?_; (case hd => rfl); (case hg => rfl); (case hr => (go_simp; done)); intro gb162 hg w35 hbox hb; replace BK162 := Aside0.mk (hbox); replace GE162 := Aside0.mk (ge_of HB.out hg); replace HB := Aside0.mk (below_step HB.out hb); replace NB162_161 := Aside0.mk (ne_r BK161.out hg); replace BK161 := Aside0.mk (blk_below BK161.out hb); clear hb hbox hg; have hnc36 := NB162_161.out; obtain ⟨hcz37_0, hcz37_1, hcz37_2, hcz37_3, hcz37_4, hcz37_5, hcz37_6, hcz37_7, hcz37_8, hcz37_9⟩ := cells10 BK161.out; obtain ⟨hcz38_0, hcz38_1, hcz38_2, hcz38_3, hcz38_4, hcz38_5, hcz38_6, hcz38_7, hcz38_8, hcz38_9⟩ := cells10 BK162.out; obtain ⟨hfz38_0, hfz38_1, hfz38_2, hfz38_3, -, -, -, -, -, -⟩ := frz10 BK162.out))
      go_ret
      exact ⟨by rfl, by repeat ((with_reducible first | exact HB.out | refine below_set ?_ GE162.out))⟩
  · rw [if_neg c2] at H
    have c2b0 : (a0_0 == 0) = false := beq_eq_false_iff_ne.mpr c2
    by_cases c39 : a0_0 = 1
    · rw [if_pos c39] at H
      have c39b0 : (a0_0 == 1) = true := beq_iff_eq.mpr c39
      clear c39
      by_cases c40 : (0 == a0_2 && (0 == a0_3 && (!a0_6 && (0 == a0_7 && (0 == a0_8 && (0 == a0_9)))))) = true
      · rw [if_pos c40] at H
        have c40b0 : (0 == a0_2 && (0 == a0_3 && (!a0_6 && (0 == a0_7 && (0 == a0_8 && (0 == a0_9)))))) = true := c40
        (try (skip))
        (try (skip))
        clear c40
        replace H := Option.bind_eq_some_iff.mp H
        obtain ⟨t164, A410, H⟩ := H
        have A41 := Aside0.mk A410
        clear A410
        by_cases c42 : t164 = true
        · subst c42
          have H1 : (if a0_4 ≥ 0 then (if a0_4 ≤ 7 then (if a0_5 ≥ 0 then (some (decide (a0_5 ≤ 536870911))) else (some false)) else (some false)) else (some false)) = some r := by rw [if_pos rfl] at H; exact H
          clear H
          have H := H1
          clear H1
          by_cases c43 : a0_4 ≥ 0
          · rw [if_pos c43] at H
            have c43b0 : decide (0 ≤ a0_4) = true := decide_eq_true c43
            clear c43
            by_cases c44 : a0_4 ≤ 7
            · rw [if_pos c44] at H
              have c44b0 : decide (a0_4 ≤ 7) = true := decide_eq_true c44
              clear c44
              by_cases c45 : a0_5 ≥ 0
              · rw [if_pos c45] at H
                have c45b0 : decide (0 ≤ a0_5) = true := decide_eq_true c45
                clear c45
                obtain rfl := Option.some.inj H
                go_enter Tryd.func49, Tryd.ntmps49
                go_wp2_with (first | ((with_reducible refine gate_dst (N := 1) rfl ?_); refine box_event ?hg (N := 1) ?hd (cs := #[.int .i64 a0_0, .int .i64 a0_1, .int .i64 a0_2, .int .i64 a0_3, .int .i64 a0_4, .int .i64 a0_5, .bool a0_6, .int .i64 a0_7, .int .u32 a0_8, .int .u32 a0_9]) (t := 39) ?hr ?_; (case hd => rfl); (case hg => rfl); (case hr => (go_simp; done)); intro gb161 hg w46 hbox hb; replace HB := Aside0.mk (below_step HB.out hb); replace BK161 := Aside0.mk (hbox); clear hb hbox hg) | ((with_reducible refine gate_dst (N := 3) rfl ?_); refine box_event ?hg (N := 3) ?hd (cs := #[.int .i64 0, .int .i64 0, .int .i64 0, .int .i64 0, .int .i64 0, .int .i64 0, .bool false, .int .i64 0, .int .u32 0, .int .u32 0]) (t := 39) ?hr ?_; (case hd => rfl); (case hg => rfl); (case hr => (go_simp; done)); intro gb162 hg w47 hbox hb; replace BK162 := Aside0.mk (hbox); replace GE162 := Aside0.mk (ge_of HB.out hg); replace HB := Aside0.mk (below_step HB.out hb); replace NB162_161 := Aside0.mk (ne_r BK161.out hg); replace BK161 := Aside0.mk (blk_below BK161.out hb); clear hb hbox hg; have hnc48 := NB162_161.out; obtain ⟨hcz49_0, hcz49_1, hcz49_2, hcz49_3, hcz49_4, hcz49_5, hcz49_6, hcz49_7, hcz49_8, hcz49_9⟩ := cells10 BK161.out; obtain ⟨hcz50_0, hcz50_1, hcz50_2, hcz50_3, hcz50_4, hcz50_5, hcz50_6, hcz50_7, hcz50_8, hcz50_9⟩ := cells10 BK162.out; obtain ⟨hfz50_0, hfz50_1, -, -, hfz50_4, hfz50_5, -, -, -, -⟩ := frz10 BK162.out) | (go_at_call 57; (with_reducible refine (capnpref02_offset.calls a0_1 true _ A41.out).mono ?_); rintro e w' ⟨rfl, ⟨nd, rfl⟩⟩))
                go_ret
                exact ⟨by rfl, by repeat ((with_reducible first | exact HB.out | apply pw_below_drewN | refine below_set ?_ GE162.out))⟩
              · rw [if_neg c45] at H
                have c45b0 : decide (0 ≤ a0_5) = false := decide_eq_false c45
                clear c45
                obtain rfl := Option.some.inj H
                go_enter Tryd.func49, Tryd.ntmps49
                go_wp2_with (first | ((with_reducible refine gate_dst (N := 1) rfl ?_); refine box_event ?hg (N := 1) ?hd (cs := #[.int .i64 a0_0, .int .i64 a0_1, .int .i64 a0_2, .int .i64 a0_3, .int .i64 a0_4, .int .i64 a0_5, .bool a0_6, .int .i64 a0_7, .int .u32 a0_8, .int .u32 a0_9]) (t := 39) ?hr ?_; (case hd => rfl); (case hg => rfl); (case hr => (go_simp; done)); intro gb161 hg w51 hbox hb; replace HB := Aside0.mk (below_step HB.out hb); replace BK161 := Aside0.mk (hbox); clear hb hbox hg) | ((with_reducible refine gate_dst (N := 3) rfl ?_); refine box_event ?hg (N := 3) ?hd (cs := #[.int .i64 0, .int .i64 0, .int .i64 0, .int .i64 0, .int .i64 0, .int .i64 0, .bool false, .int .i64 0, .int .u32 0, .int .u32 0]) (t := 39) ?hr ?_; (case hd => rfl); (case hg => rfl); (case hr => (go_simp; done)); intro gb162 hg w52 hbox hb; replace BK162 := Aside0.mk (hbox); replace GE162 := Aside0.mk (ge_of HB.out hg); replace HB := Aside0.mk (below_step HB.out hb); replace NB162_161 := Aside0.mk (ne_r BK161.out hg); replace BK161 := Aside0.mk (blk_below BK161.out hb); clear hb hbox hg; have hnc53 := NB162_161.out; obtain ⟨hcz54_0, hcz54_1, hcz54_2, hcz54_3, hcz54_4, hcz54_5, hcz54_6, hcz54_7, hcz54_8, hcz54_9⟩ := cells10 BK161.out; obtain ⟨hcz55_0, hcz55_1, hcz55_2, hcz55_3, hcz55_4, hcz55_5, hcz55_6, hcz55_7, hcz55_8, hcz55_9⟩ := cells10 BK162.out; obtain ⟨hfz55_0, hfz55_1, -, -, hfz55_4, hfz55_5, -, -, -, -⟩ := frz10 BK162.out) | (go_at_call 57; (with_reducible refine (capnpref02_offset.calls a0_1 true _ A41.out).mono ?_); rintro e w' ⟨rfl, ⟨nd, rfl⟩⟩))
                go_ret
                exact ⟨by rfl, by repeat ((with_reducible first | exact HB.out | apply pw_below_drewN | refine below_set ?_ GE162.out))⟩
            · rw [if_neg c44] at H
              have c44b0 : decide (a0_4 ≤ 7) = false := decide_eq_false c44
              clear c44
              obtain rfl := Option.some.inj H
              go_enter Tryd.func49, Tryd.ntmps49
              go_wp2_with (first | ((with_reducible refine gate_dst (N := 1) rfl ?_); refine box_event ?hg (N := 1) ?hd (cs := #[.int .i64 a0_0, .int .i64 a0_1, .int .i64 a0_2, .int .i64 a0_3, .int .i64 a0_4, .int .i64 a0_5, .bool a0_6, .int .i64 a0_7, .int .u32 a0_8, .int .u32 a0_9]) (t := 39) ?hr ?_; (case hd => rfl); (case hg => rfl); (case hr => (go_simp; done)); intro gb161 hg w56 hbox hb; replace HB := Aside0.mk (below_step HB.out hb); replace BK161 := Aside0.mk (hbox); clear hb hbox hg) | ((with_reducible refine gate_dst (N := 3) rfl ?_); refine box_event ?hg (N := 3) ?hd (cs := #[.int .i64 0, .int .i64 0, .int .i64 0, .int .i64 0, .int .i64 0, .int .i64 0, .bool false, .int .i64 0, .int .u32 0, .int .u32 0]) (t := 39) ?hr ?_; (case hd => rfl); (case hg => rfl); (case hr => (go_simp; done)); intro gb162 hg w57 hbox hb; replace BK162 := Aside0.mk (hbox); replace GE162 := Aside0.mk (ge_of HB.out hg); replace HB := Aside0.mk (below_step HB.out hb); replace NB162_161 := Aside0.mk (ne_r BK161.out hg); replace BK161 := Aside0.mk (blk_below BK161.out hb); clear hb hbox hg; have hnc58 := NB162_161.out; obtain ⟨hcz59_0, hcz59_1, hcz59_2, hcz59_3, hcz59_4, hcz59_5, hcz59_6, hcz59_7, hcz59_8, hcz59_9⟩ := cells10 BK161.out; obtain ⟨hcz60_0, hcz60_1, hcz60_2, hcz60_3, hcz60_4, hcz60_5, hcz60_6, hcz60_7, hcz60_8, hcz60_9⟩ := cells10 BK162.out; obtain ⟨hfz60_0, hfz60_1, -, -, hfz60_4, hfz60_5, -, -, -, -⟩ := frz10 BK162.out) | (go_at_call 57; (with_reducible refine (capnpref02_offset.calls a0_1 true _ A41.out).mono ?_); rintro e w' ⟨rfl, ⟨nd, rfl⟩⟩))
              go_ret
              exact ⟨by rfl, by repeat ((with_reducible first | exact HB.out | apply pw_below_drewN | refine below_set ?_ GE162.out))⟩
          · rw [if_neg c43] at H
            have c43b0 : decide (0 ≤ a0_4) = false := decide_eq_false c43
            clear c43
            obtain rfl := Option.some.inj H
            go_enter Tryd.func49, Tryd.ntmps49
            go_wp2_with (first | ((with_reducible refine gate_dst (N := 1) rfl ?_); refine box_event ?hg (N := 1) ?hd (cs := #[.int .i64 a0_0, .int .i64 a0_1, .int .i64 a0_2, .int .i64 a0_3, .int .i64 a0_4, .int .i64 a0_5, .bool a0_6, .int .i64 a0_7, .int .u32 a0_8, .int .u32 a0_9]) (t := 39) ?hr ?_; (case hd => rfl); (case hg => rfl); (case hr => (go_simp; done)); intro gb161 hg w61 hbox hb; replace HB := Aside0.mk (below_step HB.out hb); replace BK161 := Aside0.mk (hbox); clear hb hbox hg) | ((with_reducible refine gate_dst (N := 3) rfl ?_); refine box_event ?hg (N := 3) ?hd (cs := #[.int .i64 0, .int .i64 0, .int .i64 0, .int .i64 0, .int .i64 0, .int .i64 0, .bool false, .int .i64 0, .int .u32 0, .int .u32 0]) (t := 39) ?hr ?_; (case hd => rfl); (case hg => rfl); (case hr => (go_simp; done)); intro gb162 hg w62 hbox hb; replace BK162 := Aside0.mk (hbox); replace GE162 := Aside0.mk (ge_of HB.out hg); replace HB := Aside0.mk (below_step HB.out hb); replace NB162_161 := Aside0.mk (ne_r BK161.out hg); replace BK161 := Aside0.mk (blk_below BK161.out hb); clear hb hbox hg; have hnc63 := NB162_161.out; obtain ⟨hcz64_0, hcz64_1, hcz64_2, hcz64_3, hcz64_4, hcz64_5, hcz64_6, hcz64_7, hcz64_8, hcz64_9⟩ := cells10 BK161.out; obtain ⟨hcz65_0, hcz65_1, hcz65_2, hcz65_3, hcz65_4, hcz65_5, hcz65_6, hcz65_7, hcz65_8, hcz65_9⟩ := cells10 BK162.out; obtain ⟨hfz65_0, hfz65_1, -, -, hfz65_4, hfz65_5, -, -, -, -⟩ := frz10 BK162.out) | (go_at_call 57; (with_reducible refine (capnpref02_offset.calls a0_1 true _ A41.out).mono ?_); rintro e w' ⟨rfl, ⟨nd, rfl⟩⟩))
            go_ret
            exact ⟨by rfl, by repeat ((with_reducible first | exact HB.out | apply pw_below_drewN | refine below_set ?_ GE162.out))⟩
        · replace c42 := Bool.eq_false_iff.mpr c42
          subst c42
          have H1 : (some false) = some r := by rw [if_neg (show ¬ (false = true) by decide)] at H; exact H
          clear H
          have H := H1
          clear H1
          obtain rfl := Option.some.inj H
          go_enter Tryd.func49, Tryd.ntmps49
          go_wp2_with (first | ((with_reducible refine gate_dst (N := 1) rfl ?_); refine box_event ?hg (N := 1) ?hd (cs := #[.int .i64 a0_0, .int .i64 a0_1, .int .i64 a0_2, .int .i64 a0_3, .int .i64 a0_4, .int .i64 a0_5, .bool a0_6, .int .i64 a0_7, .int .u32 a0_8, .int .u32 a0_9]) (t := 39) ?hr ?_; (case hd => rfl); (case hg => rfl); (case hr => (go_simp; done)); intro gb161 hg w66 hbox hb; replace HB := Aside0.mk (below_step HB.out hb); replace BK161 := Aside0.mk (hbox); clear hb hbox hg) | ((with_reducible refine gate_dst (N := 3) rfl ?_); refine box_event ?hg (N := 3) ?hd (cs := #[.int .i64 0, .int .i64 0, .int .i64 0, .int .i64 0, .int .i64 0, .int .i64 0, .bool false, .int .i64 0, .int .u32 0, .int .u32 0]) (t := 39) ?hr ?_; (case hd => rfl); (case hg => rfl); (case hr => (go_simp; done)); intro gb162 hg w67 hbox hb; replace BK162 := Aside0.mk (hbox); replace GE162 := Aside0.mk (ge_of HB.out hg); replace HB := Aside0.mk (below_step HB.out hb); replace NB162_161 := Aside0.mk (ne_r BK161.out hg); replace BK161 := Aside0.mk (blk_below BK161.out hb); clear hb hbox hg; have hnc68 := NB162_161.out; obtain ⟨hcz69_0, hcz69_1, hcz69_2, hcz69_3, hcz69_4, hcz69_5, hcz69_6, hcz69_7, hcz69_8, hcz69_9⟩ := cells10 BK161.out; obtain ⟨hcz70_0, hcz70_1, hcz70_2, hcz70_3, hcz70_4, hcz70_5, hcz70_6, hcz70_7, hcz70_8, hcz70_9⟩ := cells10 BK162.out; obtain ⟨hfz70_0, hfz70_1, -, -, hfz70_4, hfz70_5, -, -, -, -⟩ := frz10 BK162.out) | (go_at_call 57; (with_reducible refine (capnpref02_offset.calls a0_1 false _ A41.out).mono ?_); rintro e w' ⟨rfl, ⟨nd, rfl⟩⟩))
          go_ret
          exact ⟨by rfl, by repeat ((with_reducible first | exact HB.out | apply pw_below_drewN | refine below_set ?_ GE162.out))⟩
      · rw [if_neg c40] at H
        have c40b0 : (0 == a0_2 && (0 == a0_3 && (!a0_6 && (0 == a0_7 && (0 == a0_8 && (0 == a0_9)))))) = false := by simpa using c40
        (try (skip))
        (try (skip))
        (try (skip))
        clear c40
        obtain rfl := Option.some.inj H
        go_enter Tryd.func49, Tryd.ntmps49
        go_wp2_with (first | ((with_reducible refine gate_dst (N := 1) rfl ?_); refine box_event ?hg (N := 1) ?hd (cs := #[.int .i64 a0_0, .int .i64 a0_1, .int .i64 a0_2, .int .i64 a0_3, .int .i64 a0_4, .int .i64 a0_5, .bool a0_6, .int .i64 a0_7, .int .u32 a0_8, .int .u32 a0_9]) (t := 39) ?hr ?_; (case hd => rfl); (case hg => rfl); (case hr => (go_simp; done)); intro gb161 hg w71 hbox hb; replace HB := Aside0.mk (below_step HB.out hb); replace BK161 := Aside0.mk (hbox); clear hb hbox hg) | ((with_reducible refine gate_dst (N := 3) rfl ?_); refine box_event ?hg (N := 3) ?hd (cs := #[.int .i64 0, .int .i64 0, .int .i64 0, .int .i64 0, .int .i64 0, .int .i64 0, .bool false, .int .i64 0, .int .u32 0, .int .u32 0]) (t := 39) ?hr ?_; (case hd => rfl); (case hg => rfl); (case hr => (go_simp; done)); intro gb162 hg w72 hbox hb; replace BK162 := Aside0.mk (hbox); replace GE162 := Aside0.mk (ge_of HB.out hg); replace HB := Aside0.mk (below_step HB.out hb); replace NB162_161 := Aside0.mk (ne_r BK161.out hg); replace BK161 := Aside0.mk (blk_below BK161.out hb); clear hb hbox hg; have hnc73 := NB162_161.out; obtain ⟨hcz74_0, hcz74_1, hcz74_2, hcz74_3, hcz74_4, hcz74_5, hcz74_6, hcz74_7, hcz74_8, hcz74_9⟩ := cells10 BK161.out; obtain ⟨hcz75_0, hcz75_1, hcz75_2, hcz75_3, hcz75_4, hcz75_5, hcz75_6, hcz75_7, hcz75_8, hcz75_9⟩ := cells10 BK162.out; obtain ⟨hfz75_0, hfz75_1, -, -, hfz75_4, hfz75_5, -, -, -, -⟩ := frz10 BK162.out))
        go_ret
        exact ⟨by rfl, by repeat ((with_reducible first | exact HB.out | refine below_set ?_ GE162.out))⟩
    · rw [if_neg c39] at H
      have c39b0 : (a0_0 == 1) = false := beq_eq_false_iff_ne.mpr c39
      by_cases c76 : a0_0 = 2
      · rw [if_pos c76] at H
        have c76b0 : (a0_0 == 2) = true := beq_iff_eq.mpr c76
        clear c76
        by_cases c77 : (0 == a0_1 && (0 == a0_2 && (0 == a0_3 && (0 == a0_4 && (0 == a0_5 && (0 == a0_9)))))) = true
        · rw [if_pos c77] at H
          have c77b0 : (0 == a0_1 && (0 == a0_2 && (0 == a0_3 && (0 == a0_4 && (0 == a0_5 && (0 == a0_9)))))) = true := c77
          (try (skip))
          (try (skip))
          clear c77
          by_cases c78 : a0_7 ≥ 0
          · rw [if_pos c78] at H
            have c78b0 : decide (0 ≤ a0_7) = true := decide_eq_true c78
            clear c78
            obtain rfl := Option.some.inj H
            go_enter Tryd.func49, Tryd.ntmps49
            go_wp2_with (first | ((with_reducible refine gate_dst (N := 1) rfl ?_); refine box_event ?hg (N := 1) ?hd (cs := #[.int .i64 a0_0, .int .i64 a0_1, .int .i64 a0_2, .int .i64 a0_3, .int .i64 a0_4, .int .i64 a0_5, .bool a0_6, .int .i64 a0_7, .int .u32 a0_8, .int .u32 a0_9]) (t := 39) ?hr ?_; (case hd => rfl); (case hg => rfl); (case hr => (go_simp; done)); intro gb161 hg w79 hbox hb; replace HB := Aside0.mk (below_step HB.out hb); replace BK161 := Aside0.mk (hbox); clear hb hbox hg) | ((with_reducible refine gate_dst (N := 3) rfl ?_); refine box_event ?hg (N := 3) ?hd (cs := #[.int .i64 0, .int .i64 0, .int .i64 0, .int .i64 0, .int .i64 0, .int .i64 0, .bool false, .int .i64 0, .int .u32 0, .int .u32 0]) (t := 39) ?hr ?_; (case hd => rfl); (case hg => rfl); (case hr => (go_simp; done)); intro gb162 hg w80 hbox hb; replace BK162 := Aside0.mk (hbox); replace GE162 := Aside0.mk (ge_of HB.out hg); replace HB := Aside0.mk (below_step HB.out hb); replace NB162_161 := Aside0.mk (ne_r BK161.out hg); replace BK161 := Aside0.mk (blk_below BK161.out hb); clear hb hbox hg; have hnc81 := NB162_161.out; obtain ⟨hcz82_0, hcz82_1, hcz82_2, hcz82_3, hcz82_4, hcz82_5, hcz82_6, hcz82_7, hcz82_8, hcz82_9⟩ := cells10 BK161.out; obtain ⟨hcz83_0, hcz83_1, hcz83_2, hcz83_3, hcz83_4, hcz83_5, hcz83_6, hcz83_7, hcz83_8, hcz83_9⟩ := cells10 BK162.out; obtain ⟨hfz83_0, -, -, -, -, -, hfz83_6, hfz83_7, hfz83_8, -⟩ := frz10 BK162.out))
            go_ret
            exact ⟨by rfl, by repeat ((with_reducible first | exact HB.out | refine below_set ?_ GE162.out))⟩
          · rw [if_neg c78] at H
            have c78b0 : decide (0 ≤ a0_7) = false := decide_eq_false c78
            clear c78
            obtain rfl := Option.some.inj H
            go_enter Tryd.func49, Tryd.ntmps49
            go_wp2_with (first | ((with_reducible refine gate_dst (N := 1) rfl ?_); refine box_event ?hg (N := 1) ?hd (cs := #[.int .i64 a0_0, .int .i64 a0_1, .int .i64 a0_2, .int .i64 a0_3, .int .i64 a0_4, .int .i64 a0_5, .bool a0_6, .int .i64 a0_7, .int .u32 a0_8, .int .u32 a0_9]) (t := 39) ?hr ?_; (case hd => rfl); (case hg => rfl); (case hr => (go_simp; done)); intro gb161 hg w84 hbox hb; replace HB := Aside0.mk (below_step HB.out hb); replace BK161 := Aside0.mk (hbox); clear hb hbox hg) | ((with_reducible refine gate_dst (N := 3) rfl ?_); refine box_event ?hg (N := 3) ?hd (cs := #[.int .i64 0, .int .i64 0, .int .i64 0, .int .i64 0, .int .i64 0, .int .i64 0, .bool false, .int .i64 0, .int .u32 0, .int .u32 0]) (t := 39) ?hr ?_; (case hd => rfl); (case hg => rfl); (case hr => (go_simp; done)); intro gb162 hg w85 hbox hb; replace BK162 := Aside0.mk (hbox); replace GE162 := Aside0.mk (ge_of HB.out hg); replace HB := Aside0.mk (below_step HB.out hb); replace NB162_161 := Aside0.mk (ne_r BK161.out hg); replace BK161 := Aside0.mk (blk_below BK161.out hb); clear hb hbox hg; have hnc86 := NB162_161.out; obtain ⟨hcz87_0, hcz87_1, hcz87_2, hcz87_3, hcz87_4, hcz87_5, hcz87_6, hcz87_7, hcz87_8, hcz87_9⟩ := cells10 BK161.out; obtain ⟨hcz88_0, hcz88_1, hcz88_2, hcz88_3, hcz88_4, hcz88_5, hcz88_6, hcz88_7, hcz88_8, hcz88_9⟩ := cells10 BK162.out; obtain ⟨hfz88_0, -, -, -, -, -, hfz88_6, hfz88_7, hfz88_8, -⟩ := frz10 BK162.out))
            go_ret
            exact ⟨by rfl, by repeat ((with_reducible first | exact HB.out | refine below_set ?_ GE162.out))⟩
        · rw [if_neg c77] at H
          have c77b0 : (0 == a0_1 && (0 == a0_2 && (0 == a0_3 && (0 == a0_4 && (0 == a0_5 && (0 == a0_9)))))) = false := by simpa using c77
          (try (skip))
          (try (skip))
          (try (skip))
          clear c77
          obtain rfl := Option.some.inj H
          go_enter Tryd.func49, Tryd.ntmps49
          go_wp2_with (first | ((with_reducible refine gate_dst (N := 1) rfl ?_); refine box_event ?hg (N := 1) ?hd (cs := #[.int .i64 a0_0, .int .i64 a0_1, .int .i64 a0_2, .int .i64 a0_3, .int .i64 a0_4, .int .i64 a0_5, .bool a0_6, .int .i64 a0_7, .int .u32 a0_8, .int .u32 a0_9]) (t := 39) ?hr ?_; (case hd => rfl); (case hg => rfl); (case hr => (go_simp; done)); intro gb161 hg w89 hbox hb; replace HB := Aside0.mk (below_step HB.out hb); replace BK161 := Aside0.mk (hbox); clear hb hbox hg) | ((with_reducible refine gate_dst (N := 3) rfl ?_); refine box_event ?hg (N := 3) ?hd (cs := #[.int .i64 0, .int .i64 0, .int .i64 0, .int .i64 0, .int .i64 0, .int .i64 0, .bool false, .int .i64 0, .int .u32 0, .int .u32 0]) (t := 39) ?hr ?_; (case hd => rfl); (case hg => rfl); (case hr => (go_simp; done)); intro gb162 hg w90 hbox hb; replace BK162 := Aside0.mk (hbox); replace GE162 := Aside0.mk (ge_of HB.out hg); replace HB := Aside0.mk (below_step HB.out hb); replace NB162_161 := Aside0.mk (ne_r BK161.out hg); replace BK161 := Aside0.mk (blk_below BK161.out hb); clear hb hbox hg; have hnc91 := NB162_161.out; obtain ⟨hcz92_0, hcz92_1, hcz92_2, hcz92_3, hcz92_4, hcz92_5, hcz92_6, hcz92_7, hcz92_8, hcz92_9⟩ := cells10 BK161.out; obtain ⟨hcz93_0, hcz93_1, hcz93_2, hcz93_3, hcz93_4, hcz93_5, hcz93_6, hcz93_7, hcz93_8, hcz93_9⟩ := cells10 BK162.out; obtain ⟨hfz93_0, -, -, -, -, -, hfz93_6, hfz93_7, hfz93_8, -⟩ := frz10 BK162.out))
          go_ret
          exact ⟨by rfl, by repeat ((with_reducible first | exact HB.out | refine below_set ?_ GE162.out))⟩
      · rw [if_neg c76] at H
        have c76b0 : (a0_0 == 2) = false := beq_eq_false_iff_ne.mpr c76
        by_cases c94 : a0_0 = 3
        · rw [if_pos c94] at H
          have c94b0 : (a0_0 == 3) = true := beq_iff_eq.mpr c94
          clear c94
          by_cases c95 : (0 == a0_1 && (0 == a0_2 && (0 == a0_3 && (0 == a0_4 && (0 == a0_5 && (!a0_6 && (0 == a0_7))))))) = true
          · rw [if_pos c95] at H
            have c95b0 : (0 == a0_1 && (0 == a0_2 && (0 == a0_3 && (0 == a0_4 && (0 == a0_5 && (!a0_6 && (0 == a0_7))))))) = true := c95
            (try (skip))
            (try (skip))
            clear c95
            obtain rfl := Option.some.inj H
            go_enter Tryd.func49, Tryd.ntmps49
            go_wp2_with (first | ((with_reducible refine gate_dst (N := 1) rfl ?_); refine box_event ?hg (N := 1) ?hd (cs := #[.int .i64 a0_0, .int .i64 a0_1, .int .i64 a0_2, .int .i64 a0_3, .int .i64 a0_4, .int .i64 a0_5, .bool a0_6, .int .i64 a0_7, .int .u32 a0_8, .int .u32 a0_9]) (t := 39) ?hr ?_; (case hd => rfl); (case hg => rfl); (case hr => (go_simp; done)); intro gb161 hg w96 hbox hb; replace HB := Aside0.mk (below_step HB.out hb); replace BK161 := Aside0.mk (hbox); clear hb hbox hg) | ((with_reducible refine gate_dst (N := 3) rfl ?_); refine box_event ?hg (N := 3) ?hd (cs := #[.int .i64 0, .int .i64 0, .int .i64 0, .int .i64 0, .int .i64 0, .int .i64 0, .bool false, .int .i64 0, .int .u32 0, .int .u32 0]) (t := 39) ?hr ?_; (case hd => rfl); (case hg => rfl); (case hr => (go_simp; done)); intro gb162 hg w97 hbox hb; replace BK162 := Aside0.mk (hbox); replace GE162 := Aside0.mk (ge_of HB.out hg); replace HB := Aside0.mk (below_step HB.out hb); replace NB162_161 := Aside0.mk (ne_r BK161.out hg); replace BK161 := Aside0.mk (blk_below BK161.out hb); clear hb hbox hg; have hnc98 := NB162_161.out; obtain ⟨hcz99_0, hcz99_1, hcz99_2, hcz99_3, hcz99_4, hcz99_5, hcz99_6, hcz99_7, hcz99_8, hcz99_9⟩ := cells10 BK161.out; obtain ⟨hcz100_0, hcz100_1, hcz100_2, hcz100_3, hcz100_4, hcz100_5, hcz100_6, hcz100_7, hcz100_8, hcz100_9⟩ := cells10 BK162.out; obtain ⟨hfz100_0, -, -, -, -, -, -, -, hfz100_8, hfz100_9⟩ := frz10 BK162.out))
            go_ret
            exact ⟨by rfl, by repeat ((with_reducible first | exact HB.out | refine below_set ?_ GE162.out))⟩
          · rw [if_neg c95] at H
            have c95b0 : (0 == a0_1 && (0 == a0_2 && (0 == a0_3 && (0 == a0_4 && (0 == a0_5 && (!a0_6 && (0 == a0_7))))))) = false := by simpa using c95
            (try (skip))
            (try (skip))
            (try (skip))
            clear c95
            obtain rfl := Option.some.inj H
            go_enter Tryd.func49, Tryd.ntmps49
            go_wp2_with (first | ((with_reducible refine gate_dst (N := 1) rfl ?_); refine box_event ?hg (N := 1) ?hd (cs := #[.int .i64 a0_0, .int .i64 a0_1, .int .i64 a0_2, .int .i64 a0_3, .int .i64 a0_4, .int .i64 a0_5, .bool a0_6, .int .i64 a0_7, .int .u32 a0_8, .int .u32 a0_9]) (t := 39) ?hr ?_; (case hd => rfl); (case hg => rfl); (case hr => (go_simp; done)); intro gb161 hg w101 hbox hb; replace HB := Aside0.mk (below_step HB.out hb); replace BK161 := Aside0.mk (hbox); clear hb hbox hg) | ((with_reducible refine gate_dst (N := 3) rfl ?_); refine box_event ?hg (N := 3) ?hd (cs := #[.int .i64 0, .int .i64 0, .int .i64 0, .int .i64 0, .int .i64 0, .int .i64 0, .bool false, .int .i64 0, .int .u32 0, .int .u32 0]) (t := 39) ?hr ?_; (case hd => rfl); (case hg => rfl); (case hr => (go_simp; done)); intro gb162 hg w102 hbox hb; replace BK162 := Aside0.mk (hbox); replace GE162 := Aside0.mk (ge_of HB.out hg); replace HB := Aside0.mk (below_step HB.out hb); replace NB162_161 := Aside0.mk (ne_r BK161.out hg); replace BK161 := Aside0.mk (blk_below BK161.out hb); clear hb hbox hg; have hnc103 := NB162_161.out; obtain ⟨hcz104_0, hcz104_1, hcz104_2, hcz104_3, hcz104_4, hcz104_5, hcz104_6, hcz104_7, hcz104_8, hcz104_9⟩ := cells10 BK161.out; obtain ⟨hcz105_0, hcz105_1, hcz105_2, hcz105_3, hcz105_4, hcz105_5, hcz105_6, hcz105_7, hcz105_8, hcz105_9⟩ := cells10 BK162.out; obtain ⟨hfz105_0, -, -, -, -, -, -, -, hfz105_8, hfz105_9⟩ := frz10 BK162.out))
            go_ret
            exact ⟨by rfl, by repeat ((with_reducible first | exact HB.out | refine below_set ?_ GE162.out))⟩
        · rw [if_neg c94] at H
          have c94b0 : (a0_0 == 3) = false := beq_eq_false_iff_ne.mpr c94
          obtain rfl := Option.some.inj H
          go_enter Tryd.func49, Tryd.ntmps49
          go_wp2_with (first | ((with_reducible refine gate_dst (N := 1) rfl ?_); refine box_event ?hg (N := 1) ?hd (cs := #[.int .i64 a0_0, .int .i64 a0_1, .int .i64 a0_2, .int .i64 a0_3, .int .i64 a0_4, .int .i64 a0_5, .bool a0_6, .int .i64 a0_7, .int .u32 a0_8, .int .u32 a0_9]) (t := 39) ?hr ?_; (case hd => rfl); (case hg => rfl); (case hr => (go_simp; done)); intro gb161 hg w106 hbox hb; replace HB := Aside0.mk (below_step HB.out hb); replace BK161 := Aside0.mk (hbox); clear hb hbox hg) | ((with_reducible refine gate_dst (N := 3) rfl ?_); refine box_event ?hg (N := 3) ?hd (cs := #[.int .i64 0, .int .i64 0, .int .i64 0, .int .i64 0, .int .i64 0, .int .i64 0, .bool false, .int .i64 0, .int .u32 0, .int .u32 0]) (t := 39) ?hr ?_; (case hd => rfl); (case hg => rfl); (case hr => (go_simp; done)); intro gb162 hg w107 hbox hb; replace BK162 := Aside0.mk (hbox); replace GE162 := Aside0.mk (ge_of HB.out hg); replace HB := Aside0.mk (below_step HB.out hb); replace NB162_161 := Aside0.mk (ne_r BK161.out hg); replace BK161 := Aside0.mk (blk_below BK161.out hb); clear hb hbox hg; have hnc108 := NB162_161.out; have hcz109_0 : w107.cell? ⟨gb161, 0, none⟩ = some (.int .i64 a0_0) := (blk_cell BK161.out 0).trans rfl; have hcz110_0 : w107.cell? ⟨gb162, 0, none⟩ = some (.int .i64 0) := (blk_cell BK162.out 0).trans rfl; have hfz110_0 := blk_frozen BK162.out 0))
          go_ret
          exact ⟨by rfl, by repeat ((with_reducible first | exact HB.out | refine below_set ?_ GE162.out))⟩

end Go.Proofs.YtcjhejopcghgnaaDoor.P

namespace Go.Proofs.YtcjhejopcghgnaaDoor.P
open Go.RowKit Go.Proofs.YtcjhejopcghgnaaDoorW.PrintWords Go.Proofs.YtcjhejopcghgnaaDoorW.PrintLast Go.Proofs.YtcjhejopcghgnaaDoorW.PrintMore
attribute [local go_sem] max2_int min2_int max_two min_two max_three min_three max_four min_four   -- for this text's walks alone
set_option linter.unusedVariables false
set_option linter.unusedSimpArgs false

variable {gb : Bool}
/-! ### capnpref02_Encode: function 37 -/
def capnpref02_Encode.j0 : Nat → Int → Int → Int → Int → Int → Int → Int → Int → Bool → Int → Int → Int → Option (Int × Bool)
  | 0, _, _, _, _, _, _, _, _, _, _, _, _ => none
  | k + 1, x4, x5, x166000, x166001, x166002, x166003, x166004, x166005, x166006, x166007, x166008, x166009 => if x166000 = 0 then (some (IntKind.u64.wrap ((IntKind.u64.wrap ((IntKind.u64.wrap (x4 + (IntKind.u64.wrap (4 * (IntKind.u64.wrap (x5)))))) + (IntKind.u64.wrap (4294967296 * (IntKind.u64.wrap (x166002)))))) + (IntKind.u64.wrap (281474976710656 * (IntKind.u64.wrap (x166003))))), true)) else (if x166000 = 1 then (some (IntKind.u64.wrap ((IntKind.u64.wrap ((IntKind.u64.wrap (x4 + (IntKind.u64.wrap (4 * (IntKind.u64.wrap (x5)))))) + (IntKind.u64.wrap (4294967296 * (IntKind.u64.wrap (x166004)))))) + (IntKind.u64.wrap (34359738368 * (IntKind.u64.wrap (x166005))))), true)) else (if x166000 = 2 then (if x166006 = true then (some (IntKind.u64.wrap ((IntKind.u64.wrap ((IntKind.u64.wrap (x4 + 4)) + (IntKind.u64.wrap (8 * (IntKind.u64.wrap (x166007)))))) + (IntKind.u64.wrap (4294967296 * (IntKind.u64.wrap (x166008))))), true)) else (some (IntKind.u64.wrap ((IntKind.u64.wrap (x4 + (IntKind.u64.wrap (8 * (IntKind.u64.wrap (x166007)))))) + (IntKind.u64.wrap (4294967296 * (IntKind.u64.wrap (x166008))))), true))) else (some (IntKind.u64.wrap ((IntKind.u64.wrap (x4 + (IntKind.u64.wrap (4 * (IntKind.u64.wrap (x166009)))))) + (IntKind.u64.wrap (4294967296 * (IntKind.u64.wrap (x166008))))), true))))
def capnpref02_Encode.f (k : Nat) (a0_0 a0_1 a0_2 a0_3 a0_4 a0_5 : Int) (a0_6 : Bool) (a0_7 a0_8 a0_9 : Int) : Option (Int × Bool) := (capnpref02_Valid.f a0_0 a0_1 a0_2 a0_3 a0_4 a0_5 a0_6 a0_7 a0_8 a0_9).bind fun t166 => (if t166 = true then (if a0_1 < 0 then (capnpref02_Encode.j0 k (IntKind.u64.wrap (a0_0)) (wrap64 (a0_1 + 1073741824)) a0_0 a0_1 a0_2 a0_3 a0_4 a0_5 a0_6 a0_7 a0_8 a0_9) else (capnpref02_Encode.j0 k (IntKind.u64.wrap (a0_0)) a0_1 a0_0 a0_1 a0_2 a0_3 a0_4 a0_5 a0_6 a0_7 a0_8 a0_9)) else (some (0, false)))
theorem capnpref02_Encode.mono_l : ∀ k, (∀ y0 y1 y2 y3 y4 y5 y6 y7 y8 y9 y10 y11, LeO (capnpref02_Encode.j0 k y0 y1 y2 y3 y4 y5 y6 y7 y8 y9 y10 y11) (capnpref02_Encode.j0 (k + 1) y0 y1 y2 y3 y4 y5 y6 y7 y8 y9 y10 y11))
  | 0 => fun _ _ _ _ _ _ _ _ _ _ _ _ r h => by simp [capnpref02_Encode.j0] at h
  | k + 1 => by
    · intro y0 y1 y2 y3 y4 y5 y6 y7 y8 y9 y10 y11
      unfold capnpref02_Encode.j0
      repeat' (with_reducible exact LeO.refl _)
theorem capnpref02_Encode.mono : ∀ a0 a1 a2 a3 a4 a5 a6 a7 a8 a9 k, LeO (capnpref02_Encode.f k a0 a1 a2 a3 a4 a5 a6 a7 a8 a9) (capnpref02_Encode.f (k + 1) a0 a1 a2 a3 a4 a5 a6 a7 a8 a9) := by
  intro a0 a1 a2 a3 a4 a5 a6 a7 a8 a9 k
  have ih0 := capnpref02_Encode.mono_l k
  unfold capnpref02_Encode.f
  repeat' first
      | (with_reducible apply ih0)
      | (with_reducible exact LeO.refl _)
      | (with_reducible refine LeO.ite ?_ ?_)
      | (with_reducible refine LeO.bind ?_ (fun _ => ?_))
set_option maxHeartbeats 8000000 in
set_option maxRecDepth 100000 in
theorem capnpref02_Encode.calls (k : Nat) (a0_0 a0_1 a0_2 a0_3 a0_4 a0_5 : Int) (a0_6 : Bool) (a0_7 a0_8 a0_9 r1 : Int) (r2 : Bool) (w : World) (h : capnpref02_Encode.f k a0_0 a0_1 a0_2 a0_3 a0_4 a0_5 a0_6 a0_7 a0_8 a0_9 = some (r1, r2)) :
    Calls Tryd.prog 37 #[.agg #[.int .i64 a0_0, .int .i64 a0_1, .int .i64 a0_2, .int .i64 a0_3, .int .i64 a0_4, .int .i64 a0_5, .bool a0_6, .int .i64 a0_7, .int .u32 a0_8, .int .u32 a0_9]] w fun e w' => e = .returned (.tuple #[.int .u64 r1, .bool r2]) ∧ Below w.heap.size w w' := by
  have HB := Aside0.mk (Below.refl w.heap.size w)
  have H := h
  unfold capnpref02_Encode.f at H
  clear h
  replace H := Option.bind_eq_some_iff.mp H
  obtain ⟨t166, A20, H⟩ := H
  have A2 := Aside0.mk A20
  clear A20
  by_cases c3 : t166 = true
  · subst c3
    have H1 : (if a0_1 < 0 then (capnpref02_Encode.j0 k (IntKind.u64.wrap (a0_0)) (wrap64 (a0_1 + 1073741824)) a0_0 a0_1 a0_2 a0_3 a0_4 a0_5 a0_6 a0_7 a0_8 a0_9) else (capnpref02_Encode.j0 k (IntKind.u64.wrap (a0_0)) a0_1 a0_0 a0_1 a0_2 a0_3 a0_4 a0_5 a0_6 a0_7 a0_8 a0_9)) = some (r1, r2) := by rw [if_pos rfl] at H; exact H
    clear H
    have H := H1
    clear H1
    have HC4 := Aside0.mk H
    clear H
    go_enter Tryd.func37, Tryd.ntmps37
    go_upto_if 15 with (first | ((with_reducible refine gate_dst (N := 1) rfl ?_); refine box_event ?hg (N := 1) ?hd (cs := #[.int .i64 a0_0, .int .i64 a0_1, .int .i64 a0_2, .int .i64 a0_3, .int .i64 a0_4, .int .i64 a0_5, .bool a0_6, .int .i64 a0_7, .int .u32 a0_8, .int .u32 a0_9]) (t := 39) ?hr ?_; (case hd => rfl); (case hg => rfl); (case hr => (go_simp; done)); intro gb165 hg w5 hbox hb; replace HB := Aside0.mk (below_step HB.out hb); replace BK165 := Aside0.mk (hbox); clear hb hbox hg; obtain ⟨hcz6_0, hcz6_1, hcz6_2, hcz6_3, hcz6_4, hcz6_5, hcz6_6, hcz6_7, hcz6_8, hcz6_9⟩ := cells10 BK165.out) | ((with_reducible refine gate_callee (f := 49) rfl ?_); refine goesL_ (some 7) rfl rfl Tryd.func49 (by kernel_rfl) rfl #[.agg #[.int .i64 a0_0, .int .i64 a0_1, .int .i64 a0_2, .int .i64 a0_3, .int .i64 a0_4, .int .i64 a0_5, .bool a0_6, .int .i64 a0_7, .int .u32 a0_8, .int .u32 a0_9]] rfl (by (try simp only [List.map_toArray, List.map_cons, List.map_nil]); rfl) ?_; (with_reducible refine (capnpref02_Valid.calls a0_0 a0_1 a0_2 a0_3 a0_4 a0_5 a0_6 a0_7 a0_8 a0_9 true _ A2.out).mono ?_); rintro e w7 ⟨rfl, hb⟩; refine ⟨_, rfl, ?_⟩; replace BK165 := Aside0.mk (blk_below BK165.out hb); replace HB := Aside0.mk (below_step HB.out hb); (try clear hb); obtain ⟨hcz8_0, hcz8_1, -, -, -, -, -, -, -, -⟩ := cells10 BK165.out))
    (skip)
    go_cut [5] (fun v5 wc => ∃ (kq : Nat) (x5_3 : Int), v5 = .int .i64 x5_3 ∧ Aside0 (capnpref02_Encode.j0 kq (IntKind.u64.wrap (a0_0)) x5_3 a0_0 a0_1 a0_2 a0_3 a0_4 a0_5 a0_6 a0_7 a0_8 a0_9 = some (r1, r2)) ∧ Aside0 (kq ≤ k) ∧ Aside0 (wc.heap[gb165]? = some (.cells #[.int .i64 a0_0, .int .i64 a0_1, .int .i64 a0_2, .int .i64 a0_3, .int .i64 a0_4, .int .i64 a0_5, .bool a0_6, .int .i64 a0_7, .int .u32 a0_8, .int .u32 a0_9] 39 (0, 0))) ∧ Aside0 (Below w.heap.size w wc))
    case first =>
      have H := HC4.out
      clear HC4
      by_cases c9 : a0_1 < 0
      · rw [if_pos c9] at H
        have c9b0 : decide (a0_1 < 0) = true := decide_eq_true c9
        clear c9
        (rw [c9b0])
        have H' := Aside0.mk H
        clear H
        go_wp2
        go_meet
        case rel => exact ⟨_, (wrap64 (a0_1 + 1073741824)), (by rfl), H', ⟨by omega⟩, ⟨by exact BK165.out⟩, ⟨by repeat ((with_reducible exact HB.out))⟩⟩
      · rw [if_neg c9] at H
        have c9b0 : decide (a0_1 < 0) = false := decide_eq_false c9
        clear c9
        (rw [c9b0])
        have H' := Aside0.mk H
        clear H
        go_wp2
        go_meet
        case rel => exact ⟨_, (a0_1), (by rfl), H', ⟨by omega⟩, ⟨by exact BK165.out⟩, ⟨by repeat ((with_reducible exact HB.out))⟩⟩
    case rest =>
      clear HC4
      skip
      skip
      skip
      skip
      skip
      skip
      try clear hcz6_0
      try clear hcz6_1
      try clear hcz6_2
      try clear hcz6_3
      try clear hcz6_4
      try clear hcz6_5
      try clear hcz6_6
      try clear hcz6_7
      try clear hcz6_8
      try clear hcz6_9
      try clear hcz8_0
      try clear hcz8_1
      try clear hcz8_2
      try clear hcz8_3
      try clear hcz8_4
      try clear hcz8_5
      try clear hcz8_6
      try clear hcz8_7
      try clear hcz8_8
      try clear hcz8_9
      try clear hfz6_0
      try clear hfz6_1
      try clear hfz6_2
      try clear hfz6_3
      try clear hfz6_4
      try clear hfz6_5
      try clear hfz6_6
      try clear hfz6_7
      try clear hfz6_8
      try clear hfz6_9
      try clear hfz8_0
      try clear hfz8_1
      try clear hfz8_2
      try clear hfz8_3
      try clear hfz8_4
      try clear hfz8_5
      try clear hfz8_6
      try clear hfz8_7
      try clear hfz8_8
      try clear hfz8_9
      obtain ⟨kq, x5_3, rfl, HA, HJ3, BK165, HB⟩ := hcut
      cases kq with
      | zero => exact absurd HA.out (by simp [capnpref02_Encode.j0])
      | succ kj3 =>
        have H := HA.out
        clear HA
        simp only [capnpref02_Encode.j0] at H
        by_cases c10 : a0_0 = 0
        · rw [if_pos c10] at H
          have c10b0 : (a0_0 == 0) = true := beq_iff_eq.mpr c10
          clear c10
          simp only [Option.some.injEq, Prod.mk.injEq] at H
          obtain ⟨rfl, rfl⟩ := H
          obtain ⟨hcz11_0, -, hcz11_2, hcz11_3, -, -, -, -, -, -⟩ := cells10 BK165.out
          go_wp2
          go_ret2
          exact ⟨by rfl, by repeat ((with_reducible exact HB.out))⟩
        · rw [if_neg c10] at H
          have c10b0 : (a0_0 == 0) = false := beq_eq_false_iff_ne.mpr c10
          by_cases c12 : a0_0 = 1
          · rw [if_pos c12] at H
            have c12b0 : (a0_0 == 1) = true := beq_iff_eq.mpr c12
            clear c12
            simp only [Option.some.injEq, Prod.mk.injEq] at H
            obtain ⟨rfl, rfl⟩ := H
            obtain ⟨hcz13_0, -, -, -, hcz13_4, hcz13_5, -, -, -, -⟩ := cells10 BK165.out
            go_wp2
            go_ret2
            exact ⟨by rfl, by repeat ((with_reducible exact HB.out))⟩
          · rw [if_neg c12] at H
            have c12b0 : (a0_0 == 1) = false := beq_eq_false_iff_ne.mpr c12
            by_cases c14 : a0_0 = 2
            · rw [if_pos c14] at H
              have c14b0 : (a0_0 == 2) = true := beq_iff_eq.mpr c14
              clear c14
              by_cases c15 : a0_6 = true
              · subst c15
                have H1 : (some (IntKind.u64.wrap ((IntKind.u64.wrap ((IntKind.u64.wrap ((IntKind.u64.wrap (a0_0)) + 4)) + (IntKind.u64.wrap (8 * (IntKind.u64.wrap (a0_7)))))) + (IntKind.u64.wrap (4294967296 * (IntKind.u64.wrap (a0_8))))), true)) = some (r1, r2) := by rw [if_pos rfl] at H; exact H
                clear H
                have H := H1
                clear H1
                simp only [Option.some.injEq, Prod.mk.injEq] at H
                obtain ⟨rfl, rfl⟩ := H
                obtain ⟨hcz16_0, -, -, -, -, -, hcz16_6, hcz16_7, hcz16_8, -⟩ := cells10 BK165.out
                go_wp2
                go_ret2
                exact ⟨by rfl, by repeat ((with_reducible exact HB.out))⟩
              · replace c15 := Bool.eq_false_iff.mpr c15
                subst c15
                have H1 : (some (IntKind.u64.wrap ((IntKind.u64.wrap ((IntKind.u64.wrap (a0_0)) + (IntKind.u64.wrap (8 * (IntKind.u64.wrap (a0_7)))))) + (IntKind.u64.wrap (4294967296 * (IntKind.u64.wrap (a0_8))))), true)) = some (r1, r2) := by rw [if_neg (show ¬ (false = true) by decide)] at H; exact H
                clear H
                have H := H1
                clear H1
                simp only [Option.some.injEq, Prod.mk.injEq] at H
                obtain ⟨rfl, rfl⟩ := H
                obtain ⟨hcz17_0, -, -, -, -, -, hcz17_6, hcz17_7, hcz17_8, -⟩ := cells10 BK165.out
                go_wp2
                go_ret2
                exact ⟨by rfl, by repeat ((with_reducible exact HB.out))⟩
            · rw [if_neg c14] at H
              have c14b0 : (a0_0 == 2) = false := beq_eq_false_iff_ne.mpr c14
              simp only [Option.some.injEq, Prod.mk.injEq] at H
              obtain ⟨rfl, rfl⟩ := H
              obtain ⟨hcz18_0, -, -, -, -, -, -, -, hcz18_8, hcz18_9⟩ := cells10 BK165.out
              go_wp2
              go_ret2
              exact ⟨by rfl, by repeat ((with_reducible exact HB.out))⟩
  · replace c3 := Bool.eq_false_iff.mpr c3
    subst c3
    have H1 : (some (0, false)) = some (r1, r2) := by rw [if_neg (show ¬ (false = true) by decide)] at H; exact H
    clear H
    have H := H1
    clear H1
    simp only [Option.some.injEq, Prod.mk.injEq] at H
    obtain ⟨rfl, rfl⟩ := H
    go_enter Tryd.func37, Tryd.ntmps37
    go_wp2_with (first | ((with_reducible refine gate_dst (N := 1) rfl ?_); refine box_event ?hg (N := 1) ?hd (cs := #[.int .i64 a0_0, .int .i64 a0_1, .int .i64 a0_2, .int .i64 a0_3, .int .i64 a0_4, .int .i64 a0_5, .bool a0_6, .int .i64 a0_7, .int .u32 a0_8, .int .u32 a0_9]) (t := 39) ?hr ?_; (case hd => rfl); (case hg => rfl); (case hr => (go_simp; done)); intro gb165 hg w19 hbox hb; replace HB := Aside0.mk (below_step HB.out hb); replace BK165 := Aside0.mk (hbox); clear hb hbox hg; obtain ⟨hcz20_0, hcz20_1, hcz20_2, hcz20_3, hcz20_4, hcz20_5, hcz20_6, hcz20_7, hcz20_8, hcz20_9⟩ := cells10 BK165.out) | ((with_reducible refine gate_callee (f := 49) rfl ?_); refine goesL_ (some 7) rfl rfl Tryd.func49 (by kernel_rfl) rfl #[.agg #[.int .i64 a0_0, .int .i64 a0_1, .int .i64 a0_2, .int .i64 a0_3, .int .i64 a0_4, .int .i64 a0_5, .bool a0_6, .int .i64 a0_7, .int .u32 a0_8, .int .u32 a0_9]] rfl (by (try simp only [List.map_toArray, List.map_cons, List.map_nil]); rfl) ?_; (with_reducible refine (capnpref02_Valid.calls a0_0 a0_1 a0_2 a0_3 a0_4 a0_5 a0_6 a0_7 a0_8 a0_9 false _ A2.out).mono ?_); rintro e w21 ⟨rfl, hb⟩; refine ⟨_, rfl, ?_⟩; replace HB := Aside0.mk (below_step HB.out hb); (try clear BK165); (try clear hb)))
    go_ret2
    exact ⟨by rfl, by repeat ((with_reducible exact HB.out))⟩

end Go.Proofs.YtcjhejopcghgnaaDoor.P

namespace Go.Proofs.YtcjhejopcghgnaaDoor.P
open Go.RowKit Go.Proofs.YtcjhejopcghgnaaDoorW.PrintWords Go.Proofs.YtcjhejopcghgnaaDoorW.PrintLast Go.Proofs.YtcjhejopcghgnaaDoorW.PrintMore
attribute [local go_sem] max2_int min2_int max_two min_two max_three min_three max_four min_four   -- for this text's walks alone
set_option linter.unusedVariables false
set_option linter.unusedSimpArgs false

variable {gb : Bool}
/-! ### capnplaw07_word: function 20 -/
def capnplaw07_word.f (k : Nat) (a0_0 a0_1 a0_2 a0_3 a0_4 a0_5 : Int) (a0_6 : Bool) (a0_7 a0_8 a0_9 : Int) : Option (Int) := (capnpref02_Encode.f k a0_0 a0_1 a0_2 a0_3 a0_4 a0_5 a0_6 a0_7 a0_8 a0_9).bind fun bt168 => (some bt168.1)
theorem capnplaw07_word.mono : ∀ a0 a1 a2 a3 a4 a5 a6 a7 a8 a9 k, LeO (capnplaw07_word.f k a0 a1 a2 a3 a4 a5 a6 a7 a8 a9) (capnplaw07_word.f (k + 1) a0 a1 a2 a3 a4 a5 a6 a7 a8 a9) := by
  intro a0 a1 a2 a3 a4 a5 a6 a7 a8 a9 k
  unfold capnplaw07_word.f
  repeat' first
      | (with_reducible apply capnpref02_Encode.mono)
      | (with_reducible exact LeO.refl _)
      | (with_reducible refine LeO.bind ?_ (fun _ => ?_))
set_option maxHeartbeats 8000000 in
set_option maxRecDepth 100000 in
theorem capnplaw07_word.calls (k : Nat) (a0_0 a0_1 a0_2 a0_3 a0_4 a0_5 : Int) (a0_6 : Bool) (a0_7 a0_8 a0_9 r : Int) (w : World) (h : capnplaw07_word.f k a0_0 a0_1 a0_2 a0_3 a0_4 a0_5 a0_6 a0_7 a0_8 a0_9 = some r) :
    Calls Tryd.prog 20 #[.agg #[.int .i64 a0_0, .int .i64 a0_1, .int .i64 a0_2, .int .i64 a0_3, .int .i64 a0_4, .int .i64 a0_5, .bool a0_6, .int .i64 a0_7, .int .u32 a0_8, .int .u32 a0_9]] w fun e w' => e = .returned (.int .u64 r) ∧ Below w.heap.size w w' := by
  have HB := Aside0.mk (Below.refl w.heap.size w)
  have H : ((capnpref02_Encode.f k a0_0 a0_1 a0_2 a0_3 a0_4 a0_5 a0_6 a0_7 a0_8 a0_9).bind fun bt168 => (some bt168.1)) = some r := h
  clear h
  replace H := Option.bind_eq_some_iff.mp H
  obtain ⟨⟨t168, t169⟩, A20, H⟩ := H
  replace H : (some t168) = some r := H
  have A2 := Aside0.mk A20
  clear A20
  obtain rfl := Option.some.inj H
  go_enter Tryd.func20, Tryd.ntmps20
  go_wp2_with (first | ((with_reducible refine gate_dst (N := 1) rfl ?_); refine box_event ?hg (N := 1) ?hd (cs := #[.int .i64 a0_0, .int .i64 a0_1, .int .i64 a0_2, .int .i64 a0_3, .int .i64 a0_4, .int .i64 a0_5, .bool a0_6, .int .i64 a0_7, .int .u32 a0_8, .int .u32 a0_9]) (t := 39) ?hr ?_; (case hd => rfl); (case hg => rfl); (case hr => (go_simp; done)); intro gb167 hg w3 hbox hb; replace HB := Aside0.mk (below_step HB.out hb); replace BK167 := Aside0.mk (hbox); clear hb hbox hg; obtain ⟨hcz4_0, hcz4_1, hcz4_2, hcz4_3, hcz4_4, hcz4_5, hcz4_6, hcz4_7, hcz4_8, hcz4_9⟩ := cells10 BK167.out) | ((with_reducible refine gate_callee (f := 37) rfl ?_); refine goesL_ (some 7) rfl rfl Tryd.func37 (by kernel_rfl) rfl #[.agg #[.int .i64 a0_0, .int .i64 a0_1, .int .i64 a0_2, .int .i64 a0_3, .int .i64 a0_4, .int .i64 a0_5, .bool a0_6, .int .i64 a0_7, .int .u32 a0_8, .int .u32 a0_9]] rfl (by (try simp only [List.map_toArray, List.map_cons, List.map_nil]); rfl) ?_; (with_reducible refine (capnpref02_Encode.calls k a0_0 a0_1 a0_2 a0_3 a0_4 a0_5 a0_6 a0_7 a0_8 a0_9 t168 t169 _ A2.out).mono ?_); rintro e w5 ⟨rfl, hb⟩; refine ⟨_, rfl, ?_⟩; replace HB := Aside0.mk (below_step HB.out hb); (try clear BK167); (try clear hb)))
  go_ret
  exact ⟨by rfl, by repeat ((with_reducible exact HB.out))⟩

end Go.Proofs.YtcjhejopcghgnaaDoor.P
