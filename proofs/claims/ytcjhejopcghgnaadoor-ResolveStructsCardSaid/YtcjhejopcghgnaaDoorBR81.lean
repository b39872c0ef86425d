/- The texts of this session that come first, joined by wip/merge.py. -/
import Derived.Test.YtcjhejopcghgnaaDoorProg
import Derived.Below
import Derived.WalkKit
import Derived.KernelRfl
import Derived.Test.YtcjhejopcghgnaaDoorWWords
import Derived.Deep.Draws
import Derived.Deep.AppendLies
import Derived.Maps.AppendAt
import Derived.OwnWalk
import Derived.Laws.BytesArg
import Derived.Laws.MakeOwn
import Derived.Laws.OwnMore
import Derived.Deep.OwnRows
import Derived.Tactics
import Derived.Lib.ConvBytes
import Derived.Laws.Slices
import Derived.RowKit3
import Derived.Deep.LoopGhost
import Derived.Deep.QuietTactic
import Derived.BigQuiet
import Derived.WideLaws
import Derived.Deep.DeepCutAuto
import Derived.Deep.CutBlock
import Derived.Deep.RegionHeld3
import Derived.Laws.Rows
import Derived.Lib.AppendStr
import Derived.ArgAppend
import Derived.Laws.IdiomCopy
import Derived.OrdersHeld
import Derived.Laws.BitsLemmas
import Derived.RowKit
import Derived.Test.YtcjhejopcghgnaaDoorWLast
import Derived.Test.YtcjhejopcghgnaaDoorWTab
import Derived.Test.YtcjhejopcghgnaaDoorWFour
import Derived.Test.YtcjhejopcghgnaaDoorWQPut
import Derived.Test.YtcjhejopcghgnaaDoorWApart
import Derived.Test.YtcjhejopcghgnaaDoorWArr
import Derived.Test.YtcjhejopcghgnaaDoorWZeros
import Derived.Test.YtcjhejopcghgnaaDoorWFoot
import Derived.Test.YtcjhejopcghgnaaDoorWKept
import Derived.Test.YtcjhejopcghgnaaDoorWShare
import Derived.Test.YtcjhejopcghgnaaDoorWN
import Derived.Test.YtcjhejopcghgnaaDoorWFootNe
import Derived.Test.YtcjhejopcghgnaaDoorWAt
import Derived.Test.YtcjhejopcghgnaaDoorWEqStruct
import Derived.Test.YtcjhejopcghgnaaDoorWRepsOne
import Derived.Test.YtcjhejopcghgnaaDoorWInv
import Derived.Test.YtcjhejopcghgnaaDoorWInvWords
import Derived.Test.YtcjhejopcghgnaaDoorWGuard
import Derived.Test.YtcjhejopcghgnaaDoorWNEv
import Derived.Test.YtcjhejopcghgnaaDoorWMore
set_option linter.unusedVariables false
namespace Go.Proofs.YtcjhejopcghgnaaDoor.P
open Go.RowKit
/-- The widths of list elements. -/
def bitsOf (i : Nat) : Int := [0, 1, 8, 16, 32, 64, 64, 0].getD i 0
/-- What the package variables hold: the table of decoders, its look-ups answered in every world that keeps its block. -/
structure Glob (gb : Bool) (w : World) : Prop where
  dec : ∃ bm es clock, w.cell? ⟨0, 0, none⟩ = some (.map (some bm)) ∧ w.heap[bm]? = some (.map es clock) ∧
    ∀ W : World, W.heap[bm]? = some (.map es clock) →
      (Instr.lookup 70 (.map (some bm)) (.int .i64 0) false).run Tryd.prog W = .ok (.func (.func 75) #[] #[]) W ∧
      (Instr.lookup 70 (.map (some bm)) (.int .i64 1) false).run Tryd.prog W = .ok (.func (.func 77) #[] #[]) W ∧
      (Instr.lookup 70 (.map (some bm)) (.int .i64 2) false).run Tryd.prog W = .ok (.func (.func 78) #[] #[]) W ∧
      (Instr.lookup 70 (.map (some bm)) (.int .i64 3) false).run Tryd.prog W = .ok (.func (.func 79) #[] #[]) W
  bits : gb = true → ∀ i : Nat, i < 8 → w.cell? ⟨1, i, none⟩ = some (.int .i64 (bitsOf i))
theorem lt_of_block {w : World} {k : Nat} {o : Obj} (h : w.heap[k]? = some o) : k < w.heap.size := (Array.getElem?_eq_some_iff.1 h).1
theorem Glob.below {gb : Bool} {w w' : World} (h : Glob gb w) (hb : Below w.heap.size w w') : Glob gb w' := by
  constructor
  · obtain ⟨bm, es, clock, hc, hm, hl⟩ := h.dec
    exact ⟨bm, es, clock, (hb.cell (World.block_lt_of_cell? w _ hc)).trans hc, (hb.block bm (lt_of_block hm)).trans hm, hl⟩
  · exact fun hg i hi => (hb.cell (World.block_lt_of_cell? w _ (h.bits hg i hi))).trans (h.bits hg i hi)
theorem Glob.alloc {gb : Bool} {w : World} (h : Glob gb w) (o : Obj) : Glob gb (w.alloc o) := h.below ((Below.refl _ _).alloc (Nat.le_refl _) o)
theorem Glob.drew {gb : Bool} {w : World} (h : Glob gb w) : Glob gb w.drew := h.below (Below.refl _ _).drew
theorem Glob.drewN {gb : Bool} {w : World} (h : Glob gb w) (n : Nat) : Glob gb (w.drewN n) := by
  induction n generalizing w with
  | zero => exact h
  | succ n ih => exact (ih h).drew
theorem blk_newN {w : World} {n : Nat} {o : Obj} (h : n = w.heap.size) : (w.alloc o).heap[n]? = some o := by subst h; exact heap_alloc_new w o
end Go.Proofs.YtcjhejopcghgnaaDoor.P

namespace Go.Proofs.YtcjhejopcghgnaaDoor.P
open Go.RowKit Go.Proofs.YtcjhejopcghgnaaDoorW.PrintWords Go.Proofs.YtcjhejopcghgnaaDoorW.PrintLast Go.Proofs.YtcjhejopcghgnaaDoorW.PrintMore
attribute [local go_sem] max2_int min2_int max_two min_two max_three min_three max_four min_four   -- for this text's walks alone
set_option linter.unusedVariables false
set_option linter.unusedSimpArgs false

variable {gb : Bool}


def errW : Option Int → Value
  | none => .nilIface
  | some c => .iface 0 (.int .i64 c)
theorem errW_none : errW none = .nilIface := rfl
theorem errW_some (c : Int) : errW (some c) = .iface 0 (.int .i64 c) := rfl

theorem info23 : (Tryd.prog.info? 23).map (fun i => (i.zero, i.size, i.bytes)) = some (some (.int .u64 0), 1, 8) := by kernel_rfl
theorem info40 : (Tryd.prog.info? 40).map (fun i => (i.zero, i.size, i.bytes)) = some (some (.slice none 0 0), 1, 24) := by kernel_rfl
-- the values' own types
/-! #### struct type 39 -/
structure S39 where
  f0 : Int
  f1 : Int
  f2 : Int
  f3 : Int
  f4 : Int
  f5 : Int
  f6 : Bool
  f7 : Int
  f8 : Int
  f9 : Int
def z39 : S39 := ⟨(0 : Int), (0 : Int), (0 : Int), (0 : Int), (0 : Int), (0 : Int), false, (0 : Int), (0 : Int), (0 : Int)⟩
def k39 : Kd S39 := Kd.iso (Kd.pair (Kd.int .i64) (Kd.pair (Kd.int .i64) (Kd.pair (Kd.int .i64) (Kd.pair (Kd.int .i64) (Kd.pair (Kd.int .i64) (Kd.pair (Kd.int .i64) (Kd.pair Kd.bool (Kd.pair (Kd.int .i64) (Kd.pair (Kd.int .u32) (Kd.int .u32)))))))))) (fun x : S39 => (x.f0, x.f1, x.f2, x.f3, x.f4, x.f5, x.f6, x.f7, x.f8, x.f9))
theorem k39_open {w : World} {x : S39} {cs : List Value} (h : k39.K w x cs) : cs = [.int .i64 x.f0, .int .i64 x.f1, .int .i64 x.f2, .int .i64 x.f3, .int .i64 x.f4, .int .i64 x.f5, .bool x.f6, .int .i64 x.f7, .int .u32 x.f8, .int .u32 x.f9] := by
  obtain ⟨_, _, rfl, rfl, ⟨_, _, rfl, rfl, ⟨_, _, rfl, rfl, ⟨_, _, rfl, rfl, ⟨_, _, rfl, rfl, ⟨_, _, rfl, rfl, ⟨_, _, rfl, rfl, ⟨_, _, rfl, rfl, ⟨_, _, rfl, rfl, rfl⟩⟩⟩⟩⟩⟩⟩⟩⟩ := h
  exact rfl
theorem k39_openM {w : World} {base : Nat} {ok : Nat → Prop} {x : S39} {cs : List Value} (h : k39.M w base ok x cs) : cs = [.int .i64 x.f0, .int .i64 x.f1, .int .i64 x.f2, .int .i64 x.f3, .int .i64 x.f4, .int .i64 x.f5, .bool x.f6, .int .i64 x.f7, .int .u32 x.f8, .int .u32 x.f9] := by
  obtain ⟨_, _, rfl, rfl, ⟨_, _, rfl, rfl, ⟨_, _, rfl, rfl, ⟨_, _, rfl, rfl, ⟨_, _, rfl, rfl, ⟨_, _, rfl, rfl, ⟨_, _, rfl, rfl, ⟨_, _, rfl, rfl, ⟨_, _, rfl, rfl, rfl⟩⟩⟩⟩⟩⟩⟩⟩⟩ := h
  exact rfl
theorem k39_mk (w : World) (x : S39)  : k39.K w x [.int .i64 x.f0, .int .i64 x.f1, .int .i64 x.f2, .int .i64 x.f3, .int .i64 x.f4, .int .i64 x.f5, .bool x.f6, .int .i64 x.f7, .int .u32 x.f8, .int .u32 x.f9] := ⟨[.int .i64 x.f0], [.int .i64 x.f1, .int .i64 x.f2, .int .i64 x.f3, .int .i64 x.f4, .int .i64 x.f5, .bool x.f6, .int .i64 x.f7, .int .u32 x.f8, .int .u32 x.f9], rfl, rfl, ⟨[.int .i64 x.f1], [.int .i64 x.f2, .int .i64 x.f3, .int .i64 x.f4, .int .i64 x.f5, .bool x.f6, .int .i64 x.f7, .int .u32 x.f8, .int .u32 x.f9], rfl, rfl, ⟨[.int .i64 x.f2], [.int .i64 x.f3, .int .i64 x.f4, .int .i64 x.f5, .bool x.f6, .int .i64 x.f7, .int .u32 x.f8, .int .u32 x.f9], rfl, rfl, ⟨[.int .i64 x.f3], [.int .i64 x.f4, .int .i64 x.f5, .bool x.f6, .int .i64 x.f7, .int .u32 x.f8, .int .u32 x.f9], rfl, rfl, ⟨[.int .i64 x.f4], [.int .i64 x.f5, .bool x.f6, .int .i64 x.f7, .int .u32 x.f8, .int .u32 x.f9], rfl, rfl, ⟨[.int .i64 x.f5], [.bool x.f6, .int .i64 x.f7, .int .u32 x.f8, .int .u32 x.f9], rfl, rfl, ⟨[.bool x.f6], [.int .i64 x.f7, .int .u32 x.f8, .int .u32 x.f9], rfl, rfl, ⟨[.int .i64 x.f7], [.int .u32 x.f8, .int .u32 x.f9], rfl, rfl, ⟨[.int .u32 x.f8], [.int .u32 x.f9], rfl, rfl, rfl⟩⟩⟩⟩⟩⟩⟩⟩⟩
theorem k39_mkM (w : World) (base : Nat) (ok : Nat → Prop) (x : S39)  : k39.M w base ok x [.int .i64 x.f0, .int .i64 x.f1, .int .i64 x.f2, .int .i64 x.f3, .int .i64 x.f4, .int .i64 x.f5, .bool x.f6, .int .i64 x.f7, .int .u32 x.f8, .int .u32 x.f9] := ⟨[.int .i64 x.f0], [.int .i64 x.f1, .int .i64 x.f2, .int .i64 x.f3, .int .i64 x.f4, .int .i64 x.f5, .bool x.f6, .int .i64 x.f7, .int .u32 x.f8, .int .u32 x.f9], rfl, rfl, ⟨[.int .i64 x.f1], [.int .i64 x.f2, .int .i64 x.f3, .int .i64 x.f4, .int .i64 x.f5, .bool x.f6, .int .i64 x.f7, .int .u32 x.f8, .int .u32 x.f9], rfl, rfl, ⟨[.int .i64 x.f2], [.int .i64 x.f3, .int .i64 x.f4, .int .i64 x.f5, .bool x.f6, .int .i64 x.f7, .int .u32 x.f8, .int .u32 x.f9], rfl, rfl, ⟨[.int .i64 x.f3], [.int .i64 x.f4, .int .i64 x.f5, .bool x.f6, .int .i64 x.f7, .int .u32 x.f8, .int .u32 x.f9], rfl, rfl, ⟨[.int .i64 x.f4], [.int .i64 x.f5, .bool x.f6, .int .i64 x.f7, .int .u32 x.f8, .int .u32 x.f9], rfl, rfl, ⟨[.int .i64 x.f5], [.bool x.f6, .int .i64 x.f7, .int .u32 x.f8, .int .u32 x.f9], rfl, rfl, ⟨[.bool x.f6], [.int .i64 x.f7, .int .u32 x.f8, .int .u32 x.f9], rfl, rfl, ⟨[.int .i64 x.f7], [.int .u32 x.f8, .int .u32 x.f9], rfl, rfl, ⟨[.int .u32 x.f8], [.int .u32 x.f9], rfl, rfl, rfl⟩⟩⟩⟩⟩⟩⟩⟩⟩
theorem k39_mkF (W : World) (ok : Nat → Prop) (x : S39) : Kd.FK k39 W ok x [.int .i64 x.f0, .int .i64 x.f1, .int .i64 x.f2, .int .i64 x.f3, .int .i64 x.f4, .int .i64 x.f5, .bool x.f6, .int .i64 x.f7, .int .u32 x.f8, .int .u32 x.f9] := fun W2 _ => k39_mk W2 x
def rd_T39 (xs : List S39) (i : Int) : S39 := xs.getD i.toNat z39
theorem at_T39 {w : World} {A : Option Addr} {n : Nat} {xs : List S39} (h : Kd.C k39 w A n xs) (i : Int) (h0 : 0 ≤ i) (h1 : i < n) : ∃ ad , A = some ad ∧ w.cell? (ad.add (i.toNat * 10)) = some (.int .i64 (rd_T39 xs i).f0) ∧ w.cell? ⟨(ad.add (i.toNat * 10)).block, (ad.add (i.toNat * 10)).off + 1, none⟩ = some (.int .i64 (rd_T39 xs i).f1) ∧ w.cell? ⟨(ad.add (i.toNat * 10)).block, (ad.add (i.toNat * 10)).off + 2, none⟩ = some (.int .i64 (rd_T39 xs i).f2) ∧ w.cell? ⟨(ad.add (i.toNat * 10)).block, (ad.add (i.toNat * 10)).off + 3, none⟩ = some (.int .i64 (rd_T39 xs i).f3) ∧ w.cell? ⟨(ad.add (i.toNat * 10)).block, (ad.add (i.toNat * 10)).off + 4, none⟩ = some (.int .i64 (rd_T39 xs i).f4) ∧ w.cell? ⟨(ad.add (i.toNat * 10)).block, (ad.add (i.toNat * 10)).off + 5, none⟩ = some (.int .i64 (rd_T39 xs i).f5) ∧ w.cell? ⟨(ad.add (i.toNat * 10)).block, (ad.add (i.toNat * 10)).off + 6, none⟩ = some (.bool (rd_T39 xs i).f6) ∧ w.cell? ⟨(ad.add (i.toNat * 10)).block, (ad.add (i.toNat * 10)).off + 7, none⟩ = some (.int .i64 (rd_T39 xs i).f7) ∧ w.cell? ⟨(ad.add (i.toNat * 10)).block, (ad.add (i.toNat * 10)).off + 8, none⟩ = some (.int .u32 (rd_T39 xs i).f8) ∧ w.cell? ⟨(ad.add (i.toNat * 10)).block, (ad.add (i.toNat * 10)).off + 9, none⟩ = some (.int .u32 (rd_T39 xs i).f9) := by
  obtain ⟨ad, c, e, _, hK, hc0⟩ := Kd.C_get h z39 i h0 h1
  have hc : ∀ j u, c[j]? = some u → w.cell? (ad.add (i.toNat * 10 + j)) = some u := hc0
  obtain rfl := k39_open hK
  exact ⟨ad, e, hc 0 _ rfl, by rw [← add_field _ _ 1 (by omega)]; exact hc 1 _ rfl, by rw [← add_field _ _ 2 (by omega)]; exact hc 2 _ rfl, by rw [← add_field _ _ 3 (by omega)]; exact hc 3 _ rfl, by rw [← add_field _ _ 4 (by omega)]; exact hc 4 _ rfl, by rw [← add_field _ _ 5 (by omega)]; exact hc 5 _ rfl, by rw [← add_field _ _ 6 (by omega)]; exact hc 6 _ rfl, by rw [← add_field _ _ 7 (by omega)]; exact hc 7 _ rfl, by rw [← add_field _ _ 8 (by omega)]; exact hc 8 _ rfl, by rw [← add_field _ _ 9 (by omega)]; exact hc 9 _ rfl⟩

def rd_L5 (xs : List (List Int)) (i : Int) : (List Int) := xs.getD i.toNat ([] : List Int)
theorem at_L5 {w : World} {A : Option Addr} {n : Nat} {xs : List (List Int)} (h : Kd.C (Kd.slice 23 (Kd.int .u64)) w A n xs) (i : Int) (h0 : 0 ≤ i) (h1 : i < n) : ∃ ad A0 c0, A = some ad ∧ w.cell? (ad.add i.toNat) = some (.slice A0 (rd_L5 xs i).length c0) ∧ (rd_L5 xs i).length ≤ c0 ∧ (Kd.int .u64).C w A0 (rd_L5 xs i).length (rd_L5 xs i) := by
  obtain ⟨ad, c, e, _, hK, hc0⟩ := Kd.C_get h ([] : List Int) i h0 h1
  have hc : ∀ j u, c[j]? = some u → w.cell? (ad.add (i.toNat * 1 + j)) = some u := hc0
  obtain ⟨A0, c0, rfl, l0, g0⟩ := hK
  exact ⟨ad, A0, c0, e, by have hq := hc 0 _ rfl; rwa [Nat.mul_one, Nat.add_zero] at hq, l0, g0⟩

def rd_L6 (xs : List (List (List Int))) (i : Int) : (List (List Int)) := xs.getD i.toNat ([] : List (List Int))
theorem at_L6 {w : World} {A : Option Addr} {n : Nat} {xs : List (List (List Int))} (h : Kd.C (Kd.slice 40 (Kd.slice 23 (Kd.int .u64))) w A n xs) (i : Int) (h0 : 0 ≤ i) (h1 : i < n) : ∃ ad A0 c0, A = some ad ∧ w.cell? (ad.add i.toNat) = some (.slice A0 (rd_L6 xs i).length c0) ∧ (rd_L6 xs i).length ≤ c0 ∧ (Kd.slice 23 (Kd.int .u64)).C w A0 (rd_L6 xs i).length (rd_L6 xs i) := by
  obtain ⟨ad, c, e, _, hK, hc0⟩ := Kd.C_get h ([] : List (List Int)) i h0 h1
  have hc : ∀ j u, c[j]? = some u → w.cell? (ad.add (i.toNat * 1 + j)) = some u := hc0
  obtain ⟨A0, c0, rfl, l0, g0⟩ := hK
  exact ⟨ad, A0, c0, e, by have hq := hc 0 _ rfl; rwa [Nat.mul_one, Nat.add_zero] at hq, l0, g0⟩

/-! #### struct type 60 -/
structure S60 where
  f0 : Int
  f1 : Int
  f2 : Int
def z60 : S60 := ⟨(0 : Int), (0 : Int), (0 : Int)⟩
def k60 : Kd S60 := Kd.iso (Kd.pair (Kd.int .u64) (Kd.pair (Kd.int .i64) (Kd.int .i64))) (fun x : S60 => (x.f0, x.f1, x.f2))
theorem k60_open {w : World} {x : S60} {cs : List Value} (h : k60.K w x cs) : cs = [.int .u64 x.f0, .int .i64 x.f1, .int .i64 x.f2] := by
  obtain ⟨_, _, rfl, rfl, ⟨_, _, rfl, rfl, rfl⟩⟩ := h
  exact rfl
theorem k60_openM {w : World} {base : Nat} {ok : Nat → Prop} {x : S60} {cs : List Value} (h : k60.M w base ok x cs) : cs = [.int .u64 x.f0, .int .i64 x.f1, .int .i64 x.f2] := by
  obtain ⟨_, _, rfl, rfl, ⟨_, _, rfl, rfl, rfl⟩⟩ := h
  exact rfl
theorem k60_mk (w : World) (x : S60)  : k60.K w x [.int .u64 x.f0, .int .i64 x.f1, .int .i64 x.f2] := ⟨[.int .u64 x.f0], [.int .i64 x.f1, .int .i64 x.f2], rfl, rfl, ⟨[.int .i64 x.f1], [.int .i64 x.f2], rfl, rfl, rfl⟩⟩
theorem k60_mkM (w : World) (base : Nat) (ok : Nat → Prop) (x : S60)  : k60.M w base ok x [.int .u64 x.f0, .int .i64 x.f1, .int .i64 x.f2] := ⟨[.int .u64 x.f0], [.int .i64 x.f1, .int .i64 x.f2], rfl, rfl, ⟨[.int .i64 x.f1], [.int .i64 x.f2], rfl, rfl, rfl⟩⟩
theorem k60_mkF (W : World) (ok : Nat → Prop) (x : S60) : Kd.FK k60 W ok x [.int .u64 x.f0, .int .i64 x.f1, .int .i64 x.f2] := fun W2 _ => k60_mk W2 x
def rd_T60 (xs : List S60) (i : Int) : S60 := xs.getD i.toNat z60
theorem at_T60 {w : World} {A : Option Addr} {n : Nat} {xs : List S60} (h : Kd.C k60 w A n xs) (i : Int) (h0 : 0 ≤ i) (h1 : i < n) : ∃ ad , A = some ad ∧ w.cell? (ad.add (i.toNat * 3)) = some (.int .u64 (rd_T60 xs i).f0) ∧ w.cell? ⟨(ad.add (i.toNat * 3)).block, (ad.add (i.toNat * 3)).off + 1, none⟩ = some (.int .i64 (rd_T60 xs i).f1) ∧ w.cell? ⟨(ad.add (i.toNat * 3)).block, (ad.add (i.toNat * 3)).off + 2, none⟩ = some (.int .i64 (rd_T60 xs i).f2) := by
  obtain ⟨ad, c, e, _, hK, hc0⟩ := Kd.C_get h z60 i h0 h1
  have hc : ∀ j u, c[j]? = some u → w.cell? (ad.add (i.toNat * 3 + j)) = some u := hc0
  obtain rfl := k60_open hK
  exact ⟨ad, e, hc 0 _ rfl, by rw [← add_field _ _ 1 (by omega)]; exact hc 1 _ rfl, by rw [← add_field _ _ 2 (by omega)]; exact hc 2 _ rfl⟩

/-! #### struct type 46 -/
structure S46 where
  f0 : Int
  f1 : Int
  f2 : Int
  f3 : Int
  f4 : Int
  f5 : Int
  f6 : Int
  f7 : Int
def z46 : S46 := ⟨(0 : Int), (0 : Int), (0 : Int), (0 : Int), (0 : Int), (0 : Int), (0 : Int), (0 : Int)⟩
def k46 : Kd S46 := Kd.iso (Kd.pair (Kd.int .i64) (Kd.pair (Kd.int .i64) (Kd.pair (Kd.int .i64) (Kd.pair (Kd.int .i64) (Kd.pair (Kd.int .i64) (Kd.pair (Kd.int .i64) (Kd.pair (Kd.int .i64) (Kd.int .i64)))))))) (fun x : S46 => (x.f0, x.f1, x.f2, x.f3, x.f4, x.f5, x.f6, x.f7))
theorem k46_open {w : World} {x : S46} {cs : List Value} (h : k46.K w x cs) : cs = [.int .i64 x.f0, .int .i64 x.f1, .int .i64 x.f2, .int .i64 x.f3, .int .i64 x.f4, .int .i64 x.f5, .int .i64 x.f6, .int .i64 x.f7] := by
  obtain ⟨_, _, rfl, rfl, ⟨_, _, rfl, rfl, ⟨_, _, rfl, rfl, ⟨_, _, rfl, rfl, ⟨_, _, rfl, rfl, ⟨_, _, rfl, rfl, ⟨_, _, rfl, rfl, rfl⟩⟩⟩⟩⟩⟩⟩ := h
  exact rfl
theorem k46_openM {w : World} {base : Nat} {ok : Nat → Prop} {x : S46} {cs : List Value} (h : k46.M w base ok x cs) : cs = [.int .i64 x.f0, .int .i64 x.f1, .int .i64 x.f2, .int .i64 x.f3, .int .i64 x.f4, .int .i64 x.f5, .int .i64 x.f6, .int .i64 x.f7] := by
  obtain ⟨_, _, rfl, rfl, ⟨_, _, rfl, rfl, ⟨_, _, rfl, rfl, ⟨_, _, rfl, rfl, ⟨_, _, rfl, rfl, ⟨_, _, rfl, rfl, ⟨_, _, rfl, rfl, rfl⟩⟩⟩⟩⟩⟩⟩ := h
  exact rfl
theorem k46_mk (w : World) (x : S46)  : k46.K w x [.int .i64 x.f0, .int .i64 x.f1, .int .i64 x.f2, .int .i64 x.f3, .int .i64 x.f4, .int .i64 x.f5, .int .i64 x.f6, .int .i64 x.f7] := ⟨[.int .i64 x.f0], [.int .i64 x.f1, .int .i64 x.f2, .int .i64 x.f3, .int .i64 x.f4, .int .i64 x.f5, .int .i64 x.f6, .int .i64 x.f7], rfl, rfl, ⟨[.int .i64 x.f1], [.int .i64 x.f2, .int .i64 x.f3, .int .i64 x.f4, .int .i64 x.f5, .int .i64 x.f6, .int .i64 x.f7], rfl, rfl, ⟨[.int .i64 x.f2], [.int .i64 x.f3, .int .i64 x.f4, .int .i64 x.f5, .int .i64 x.f6, .int .i64 x.f7], rfl, rfl, ⟨[.int .i64 x.f3], [.int .i64 x.f4, .int .i64 x.f5, .int .i64 x.f6, .int .i64 x.f7], rfl, rfl, ⟨[.int .i64 x.f4], [.int .i64 x.f5, .int .i64 x.f6, .int .i64 x.f7], rfl, rfl, ⟨[.int .i64 x.f5], [.int .i64 x.f6, .int .i64 x.f7], rfl, rfl, ⟨[.int .i64 x.f6], [.int .i64 x.f7], rfl, rfl, rfl⟩⟩⟩⟩⟩⟩⟩
theorem k46_mkM (w : World) (base : Nat) (ok : Nat → Prop) (x : S46)  : k46.M w base ok x [.int .i64 x.f0, .int .i64 x.f1, .int .i64 x.f2, .int .i64 x.f3, .int .i64 x.f4, .int .i64 x.f5, .int .i64 x.f6, .int .i64 x.f7] := ⟨[.int .i64 x.f0], [.int .i64 x.f1, .int .i64 x.f2, .int .i64 x.f3, .int .i64 x.f4, .int .i64 x.f5, .int .i64 x.f6, .int .i64 x.f7], rfl, rfl, ⟨[.int .i64 x.f1], [.int .i64 x.f2, .int .i64 x.f3, .int .i64 x.f4, .int .i64 x.f5, .int .i64 x.f6, .int .i64 x.f7], rfl, rfl, ⟨[.int .i64 x.f2], [.int .i64 x.f3, .int .i64 x.f4, .int .i64 x.f5, .int .i64 x.f6, .int .i64 x.f7], rfl, rfl, ⟨[.int .i64 x.f3], [.int .i64 x.f4, .int .i64 x.f5, .int .i64 x.f6, .int .i64 x.f7], rfl, rfl, ⟨[.int .i64 x.f4], [.int .i64 x.f5, .int .i64 x.f6, .int .i64 x.f7], rfl, rfl, ⟨[.int .i64 x.f5], [.int .i64 x.f6, .int .i64 x.f7], rfl, rfl, ⟨[.int .i64 x.f6], [.int .i64 x.f7], rfl, rfl, rfl⟩⟩⟩⟩⟩⟩⟩
theorem k46_mkF (W : World) (ok : Nat → Prop) (x : S46) : Kd.FK k46 W ok x [.int .i64 x.f0, .int .i64 x.f1, .int .i64 x.f2, .int .i64 x.f3, .int .i64 x.f4, .int .i64 x.f5, .int .i64 x.f6, .int .i64 x.f7] := fun W2 _ => k46_mk W2 x
def rd_T46 (xs : List S46) (i : Int) : S46 := xs.getD i.toNat z46
theorem at_T46 {w : World} {A : Option Addr} {n : Nat} {xs : List S46} (h : Kd.C k46 w A n xs) (i : Int) (h0 : 0 ≤ i) (h1 : i < n) : ∃ ad , A = some ad ∧ w.cell? (ad.add (i.toNat * 8)) = some (.int .i64 (rd_T46 xs i).f0) ∧ w.cell? ⟨(ad.add (i.toNat * 8)).block, (ad.add (i.toNat * 8)).off + 1, none⟩ = some (.int .i64 (rd_T46 xs i).f1) ∧ w.cell? ⟨(ad.add (i.toNat * 8)).block, (ad.add (i.toNat * 8)).off + 2, none⟩ = some (.int .i64 (rd_T46 xs i).f2) ∧ w.cell? ⟨(ad.add (i.toNat * 8)).block, (ad.add (i.toNat * 8)).off + 3, none⟩ = some (.int .i64 (rd_T46 xs i).f3) ∧ w.cell? ⟨(ad.add (i.toNat * 8)).block, (ad.add (i.toNat * 8)).off + 4, none⟩ = some (.int .i64 (rd_T46 xs i).f4) ∧ w.cell? ⟨(ad.add (i.toNat * 8)).block, (ad.add (i.toNat * 8)).off + 5, none⟩ = some (.int .i64 (rd_T46 xs i).f5) ∧ w.cell? ⟨(ad.add (i.toNat * 8)).block, (ad.add (i.toNat * 8)).off + 6, none⟩ = some (.int .i64 (rd_T46 xs i).f6) ∧ w.cell? ⟨(ad.add (i.toNat * 8)).block, (ad.add (i.toNat * 8)).off + 7, none⟩ = some (.int .i64 (rd_T46 xs i).f7) := by
  obtain ⟨ad, c, e, _, hK, hc0⟩ := Kd.C_get h z46 i h0 h1
  have hc : ∀ j u, c[j]? = some u → w.cell? (ad.add (i.toNat * 8 + j)) = some u := hc0
  obtain rfl := k46_open hK
  exact ⟨ad, e, hc 0 _ rfl, by rw [← add_field _ _ 1 (by omega)]; exact hc 1 _ rfl, by rw [← add_field _ _ 2 (by omega)]; exact hc 2 _ rfl, by rw [← add_field _ _ 3 (by omega)]; exact hc 3 _ rfl, by rw [← add_field _ _ 4 (by omega)]; exact hc 4 _ rfl, by rw [← add_field _ _ 5 (by omega)]; exact hc 5 _ rfl, by rw [← add_field _ _ 6 (by omega)]; exact hc 6 _ rfl, by rw [← add_field _ _ 7 (by omega)]; exact hc 7 _ rfl⟩

end Go.Proofs.YtcjhejopcghgnaaDoor.P

set_option linter.unusedVariables false
namespace Go.Proofs.YtcjhejopcghgnaaDoor.P
open Go.RowKit Go.Proofs.YtcjhejopcghgnaaDoorW.PrintWords Go.Proofs.YtcjhejopcghgnaaDoorW.PrintLast Go.Proofs.YtcjhejopcghgnaaDoorW.PrintMore
theorem blk_q {w w1 : World} {g n : Nat} {o : Obj} (h : w.heap[g]? = some o) (e : w.drewN n = w1) : w1.heap[g]? = some o := e ▸ h
theorem below_q {w w1 w2 : World} {n B : Nat} (h : Below B w w1) (e : w1.drewN n = w2) : Below B w w2 := e ▸ pw_below_drewN h n
theorem ne_l {w : World} {g g' : Nat} {o : Obj} (h : w.heap[g]? = some o) (e : g' = w.heap.size) : g ≠ g' := e ▸ Nat.ne_of_lt (blk_lt h)
theorem ne_r {w : World} {g g' : Nat} {o : Obj} (h : w.heap[g]? = some o) (e : g' = w.heap.size) : g' ≠ g := e ▸ Nat.ne_of_gt (blk_lt h)
theorem ge_of {w W : World} {g : Nat} (h : Below w.heap.size w W) (e : g = W.heap.size) : w.heap.size ≤ g := e ▸ below_size h
theorem cells6 {w : World} {g : Nat} {t : TypeId} {a0 a1 a2 a3 a4 a5 : Value} (h : w.heap[g]? = some (.cells #[a0, a1, a2, a3, a4, a5] t (0, 0))) : w.cell? ⟨g, 0, none⟩ = some a0 ∧ w.cell? ⟨g, 1, none⟩ = some a1 ∧ w.cell? ⟨g, 2, none⟩ = some a2 ∧ w.cell? ⟨g, 3, none⟩ = some a3 ∧ w.cell? ⟨g, 4, none⟩ = some a4 ∧ w.cell? ⟨g, 5, none⟩ = some a5 := ⟨(blk_cell h 0).trans rfl, (blk_cell h 1).trans rfl, (blk_cell h 2).trans rfl, (blk_cell h 3).trans rfl, (blk_cell h 4).trans rfl, (blk_cell h 5).trans rfl⟩
theorem frz6 {w : World} {g : Nat} {t : TypeId} {cs : Array Value} (h : w.heap[g]? = some (.cells cs t (0, 0))) : w.frozen? ⟨g, 0, none⟩ = false ∧ w.frozen? ⟨g, 1, none⟩ = false ∧ w.frozen? ⟨g, 2, none⟩ = false ∧ w.frozen? ⟨g, 3, none⟩ = false ∧ w.frozen? ⟨g, 4, none⟩ = false ∧ w.frozen? ⟨g, 5, none⟩ = false := ⟨blk_frozen h 0, blk_frozen h 1, blk_frozen h 2, blk_frozen h 3, blk_frozen h 4, blk_frozen h 5⟩
theorem cells8 {w : World} {g : Nat} {t : TypeId} {a0 a1 a2 a3 a4 a5 a6 a7 : Value} (h : w.heap[g]? = some (.cells #[a0, a1, a2, a3, a4, a5, a6, a7] t (0, 0))) : w.cell? ⟨g, 0, none⟩ = some a0 ∧ w.cell? ⟨g, 1, none⟩ = some a1 ∧ w.cell? ⟨g, 2, none⟩ = some a2 ∧ w.cell? ⟨g, 3, none⟩ = some a3 ∧ w.cell? ⟨g, 4, none⟩ = some a4 ∧ w.cell? ⟨g, 5, none⟩ = some a5 ∧ w.cell? ⟨g, 6, none⟩ = some a6 ∧ w.cell? ⟨g, 7, none⟩ = some a7 := ⟨(blk_cell h 0).trans rfl, (blk_cell h 1).trans rfl, (blk_cell h 2).trans rfl, (blk_cell h 3).trans rfl, (blk_cell h 4).trans rfl, (blk_cell h 5).trans rfl, (blk_cell h 6).trans rfl, (blk_cell h 7).trans rfl⟩
theorem frz8 {w : World} {g : Nat} {t : TypeId} {cs : Array Value} (h : w.heap[g]? = some (.cells cs t (0, 0))) : w.frozen? ⟨g, 0, none⟩ = false ∧ w.frozen? ⟨g, 1, none⟩ = false ∧ w.frozen? ⟨g, 2, none⟩ = false ∧ w.frozen? ⟨g, 3, none⟩ = false ∧ w.frozen? ⟨g, 4, none⟩ = false ∧ w.frozen? ⟨g, 5, none⟩ = false ∧ w.frozen? ⟨g, 6, none⟩ = false ∧ w.frozen? ⟨g, 7, none⟩ = false := ⟨blk_frozen h 0, blk_frozen h 1, blk_frozen h 2, blk_frozen h 3, blk_frozen h 4, blk_frozen h 5, blk_frozen h 6, blk_frozen h 7⟩
theorem cells10 {w : World} {g : Nat} {t : TypeId} {a0 a1 a2 a3 a4 a5 a6 a7 a8 a9 : Value} (h : w.heap[g]? = some (.cells #[a0, a1, a2, a3, a4, a5, a6, a7, a8, a9] t (0, 0))) : w.cell? ⟨g, 0, none⟩ = some a0 ∧ w.cell? ⟨g, 1, none⟩ = some a1 ∧ w.cell? ⟨g, 2, none⟩ = some a2 ∧ w.cell? ⟨g, 3, none⟩ = some a3 ∧ w.cell? ⟨g, 4, none⟩ = some a4 ∧ w.cell? ⟨g, 5, none⟩ = some a5 ∧ w.cell? ⟨g, 6, none⟩ = some a6 ∧ w.cell? ⟨g, 7, none⟩ = some a7 ∧ w.cell? ⟨g, 8, none⟩ = some a8 ∧ w.cell? ⟨g, 9, none⟩ = some a9 := ⟨(blk_cell h 0).trans rfl, (blk_cell h 1).trans rfl, (blk_cell h 2).trans rfl, (blk_cell h 3).trans rfl, (blk_cell h 4).trans rfl, (blk_cell h 5).trans rfl, (blk_cell h 6).trans rfl, (blk_cell h 7).trans rfl, (blk_cell h 8).trans rfl, (blk_cell h 9).trans rfl⟩
theorem frz10 {w : World} {g : Nat} {t : TypeId} {cs : Array Value} (h : w.heap[g]? = some (.cells cs t (0, 0))) : w.frozen? ⟨g, 0, none⟩ = false ∧ w.frozen? ⟨g, 1, none⟩ = false ∧ w.frozen? ⟨g, 2, none⟩ = false ∧ w.frozen? ⟨g, 3, none⟩ = false ∧ w.frozen? ⟨g, 4, none⟩ = false ∧ w.frozen? ⟨g, 5, none⟩ = false ∧ w.frozen? ⟨g, 6, none⟩ = false ∧ w.frozen? ⟨g, 7, none⟩ = false ∧ w.frozen? ⟨g, 8, none⟩ = false ∧ w.frozen? ⟨g, 9, none⟩ = false := ⟨blk_frozen h 0, blk_frozen h 1, blk_frozen h 2, blk_frozen h 3, blk_frozen h 4, blk_frozen h 5, blk_frozen h 6, blk_frozen h 7, blk_frozen h 8, blk_frozen h 9⟩
theorem put6 {w : World} {g : Nat} {t : TypeId} {z0 z1 z2 z3 z4 z5 v0 v1 v2 v3 v4 v5 : Value} (h : w.heap[g]? = some (.cells #[z0, z1, z2, z3, z4, z5] t (0, 0))) : ((((((w.setCell ⟨g, 0, none⟩ v0).setCell ⟨g, 1, none⟩ v1).setCell ⟨g, 2, none⟩ v2).setCell ⟨g, 3, none⟩ v3).setCell ⟨g, 4, none⟩ v4).setCell ⟨g, 5, none⟩ v5).heap[g]? = some (.cells #[v0, v1, v2, v3, v4, v5] t (0, 0)) := by
  refine blk_put (cs := #[v0, v1, v2, v3, v4, z5]) ?_ 5 _ rfl
  refine blk_put (cs := #[v0, v1, v2, v3, z4, z5]) ?_ 4 _ rfl
  refine blk_put (cs := #[v0, v1, v2, z3, z4, z5]) ?_ 3 _ rfl
  refine blk_put (cs := #[v0, v1, z2, z3, z4, z5]) ?_ 2 _ rfl
  refine blk_put (cs := #[v0, z1, z2, z3, z4, z5]) ?_ 1 _ rfl
  refine blk_put (cs := #[z0, z1, z2, z3, z4, z5]) ?_ 0 _ rfl
  exact h
theorem put8 {w : World} {g : Nat} {t : TypeId} {z0 z1 z2 z3 z4 z5 z6 z7 v0 v1 v2 v3 v4 v5 v6 v7 : Value} (h : w.heap[g]? = some (.cells #[z0, z1, z2, z3, z4, z5, z6, z7] t (0, 0))) : ((((((((w.setCell ⟨g, 0, none⟩ v0).setCell ⟨g, 1, none⟩ v1).setCell ⟨g, 2, none⟩ v2).setCell ⟨g, 3, none⟩ v3).setCell ⟨g, 4, none⟩ v4).setCell ⟨g, 5, none⟩ v5).setCell ⟨g, 6, none⟩ v6).setCell ⟨g, 7, none⟩ v7).heap[g]? = some (.cells #[v0, v1, v2, v3, v4, v5, v6, v7] t (0, 0)) := by
  refine blk_put (cs := #[v0, v1, v2, v3, v4, v5, v6, z7]) ?_ 7 _ rfl
  refine blk_put (cs := #[v0, v1, v2, v3, v4, v5, z6, z7]) ?_ 6 _ rfl
  refine blk_put (cs := #[v0, v1, v2, v3, v4, z5, z6, z7]) ?_ 5 _ rfl
  refine blk_put (cs := #[v0, v1, v2, v3, z4, z5, z6, z7]) ?_ 4 _ rfl
  refine blk_put (cs := #[v0, v1, v2, z3, z4, z5, z6, z7]) ?_ 3 _ rfl
  refine blk_put (cs := #[v0, v1, z2, z3, z4, z5, z6, z7]) ?_ 2 _ rfl
  refine blk_put (cs := #[v0, z1, z2, z3, z4, z5, z6, z7]) ?_ 1 _ rfl
  refine blk_put (cs := #[z0, z1, z2, z3, z4, z5, z6, z7]) ?_ 0 _ rfl
  exact h
theorem put10 {w : World} {g : Nat} {t : TypeId} {z0 z1 z2 z3 z4 z5 z6 z7 z8 z9 v0 v1 v2 v3 v4 v5 v6 v7 v8 v9 : Value} (h : w.heap[g]? = some (.cells #[z0, z1, z2, z3, z4, z5, z6, z7, z8, z9] t (0, 0))) : ((((((((((w.setCell ⟨g, 0, none⟩ v0).setCell ⟨g, 1, none⟩ v1).setCell ⟨g, 2, none⟩ v2).setCell ⟨g, 3, none⟩ v3).setCell ⟨g, 4, none⟩ v4).setCell ⟨g, 5, none⟩ v5).setCell ⟨g, 6, none⟩ v6).setCell ⟨g, 7, none⟩ v7).setCell ⟨g, 8, none⟩ v8).setCell ⟨g, 9, none⟩ v9).heap[g]? = some (.cells #[v0, v1, v2, v3, v4, v5, v6, v7, v8, v9] t (0, 0)) := by
  refine blk_put (cs := #[v0, v1, v2, v3, v4, v5, v6, v7, v8, z9]) ?_ 9 _ rfl
  refine blk_put (cs := #[v0, v1, v2, v3, v4, v5, v6, v7, z8, z9]) ?_ 8 _ rfl
  refine blk_put (cs := #[v0, v1, v2, v3, v4, v5, v6, z7, z8, z9]) ?_ 7 _ rfl
  refine blk_put (cs := #[v0, v1, v2, v3, v4, v5, z6, z7, z8, z9]) ?_ 6 _ rfl
  refine blk_put (cs := #[v0, v1, v2, v3, v4, z5, z6, z7, z8, z9]) ?_ 5 _ rfl
  refine blk_put (cs := #[v0, v1, v2, v3, z4, z5, z6, z7, z8, z9]) ?_ 4 _ rfl
  refine blk_put (cs := #[v0, v1, v2, z3, z4, z5, z6, z7, z8, z9]) ?_ 3 _ rfl
  refine blk_put (cs := #[v0, v1, z2, z3, z4, z5, z6, z7, z8, z9]) ?_ 2 _ rfl
  refine blk_put (cs := #[v0, z1, z2, z3, z4, z5, z6, z7, z8, z9]) ?_ 1 _ rfl
  refine blk_put (cs := #[z0, z1, z2, z3, z4, z5, z6, z7, z8, z9]) ?_ 0 _ rfl
  exact h
/-- A row that came before the call leads to elder blocks alone. -/
theorem V_came {α : Type} {d : Kd α} (hd : Kd.Heap d) {e base c : Nat} {W : World} {A : Option Addr} {xs : List α} (h : d.C W A xs.length xs) (hl : xs.length ≤ c) : Kd.V d e W base (fun k => k < W.heap.size) (.slice A xs.length c) xs := Kd.V_mk hl (fun W' hW => hd.C (fun k hk => hW k hk hk) h)
end Go.Proofs.YtcjhejopcghgnaaDoor.P

namespace Go.Proofs.YtcjhejopcghgnaaDoor.P
open Go.RowKit Go.Proofs.YtcjhejopcghgnaaDoorW.PrintWords Go.Proofs.YtcjhejopcghgnaaDoorW.PrintLast Go.Proofs.YtcjhejopcghgnaaDoorW.PrintMore
attribute [local go_sem] max2_int min2_int max_two min_two max_three min_three max_four min_four   -- for this text's walks alone
set_option linter.unusedVariables false
set_option linter.unusedSimpArgs false

variable {gb : Bool}
/-! ### word_mask: function 56 -/
def word_mask.f (a0 : Int) : Option (Int) := if 0 ≤ (IntKind.u64.wrap (wrap64 (64 - a0))) then (some (shr .u64 18446744073709551615 (IntKind.u64.wrap (wrap64 (64 - a0))))) else (none)
set_option maxHeartbeats 8000000 in
set_option maxRecDepth 100000 in
theorem word_mask.calls (a0 r : Int) (w : World) (h : word_mask.f a0 = some r) :
    Calls Tryd.prog 56 #[.int .i64 a0] w fun e w' => e = .returned (.int .u64 r) ∧ Drawn0 w w' := by
  have H : (if 0 ≤ (IntKind.u64.wrap (wrap64 (64 - a0))) then (some (shr .u64 18446744073709551615 (IntKind.u64.wrap (wrap64 (64 - a0))))) else (none)) = some r := h
  clear h
  obtain ⟨ji2, hji2⟩ : ∃ j_ : Int, (IntKind.u64.wrap (wrap64 (64 - a0))) = j_ := ⟨_, rfl⟩
  replace H : (if 0 ≤ (ji2) then (some (shr .u64 18446744073709551615 (ji2))) else (none)) = some r := by (rw [hji2] at H; exact H)
  by_cases c3 : 0 ≤ (ji2)
  · rw [if_pos c3] at H
    have c3b0 := eq_true c3
    clear c3
    obtain ⟨ji4, hji4⟩ : ∃ j_ : Int, (shr .u64 18446744073709551615 (ji2)) = j_ := ⟨_, rfl⟩
    replace H : (some ji4) = some r := by (rw [hji4] at H; exact H)
    have hji4_ : (18446744073709551615 / 2 ^ min (ji2).toNat 64) = ji4 := hji4
    obtain rfl := Option.some.inj H
    go_enter Tryd.func56, Tryd.ntmps56
    go_wp2
    go_ret
    exact ⟨by rfl, by repeat (exact Drawn0.refl _)⟩
  · rw [if_neg c3] at H
    exact absurd H (by simp)

end Go.Proofs.YtcjhejopcghgnaaDoor.P

namespace Go.Proofs.YtcjhejopcghgnaaDoor.P
open Go.RowKit Go.Proofs.YtcjhejopcghgnaaDoorW.PrintWords Go.Proofs.YtcjhejopcghgnaaDoorW.PrintLast Go.Proofs.YtcjhejopcghgnaaDoorW.PrintMore
attribute [local go_sem] max2_int min2_int max_two min_two max_three min_three max_four min_four   -- for this text's walks alone
set_option linter.unusedVariables false
set_option linter.unusedSimpArgs false

variable {gb : Bool}
/-! ### word_Field: function 47 -/
def word_Field.f (a0 a1 a2 : Int) : Option (Int) := if 0 ≤ (IntKind.u64.wrap (a1)) then ((word_mask.f a2).bind fun t101 => (some (Go.bits .and .u64 (shr .u64 a0 (IntKind.u64.wrap (a1))) t101))) else (none)
set_option maxHeartbeats 8000000 in
set_option maxRecDepth 100000 in
theorem word_Field.calls (a0 a1 a2 r : Int) (w : World) (h : word_Field.f a0 a1 a2 = some r) :
    Calls Tryd.prog 47 #[.int .u64 a0, .int .i64 a1, .int .i64 a2] w fun e w' => e = .returned (.int .u64 r) ∧ Drawn0 w w' := by
  have H : (if 0 ≤ (IntKind.u64.wrap (a1)) then ((word_mask.f a2).bind fun t101 => (some (Go.bits .and .u64 (shr .u64 a0 (IntKind.u64.wrap (a1))) t101))) else (none)) = some r := h
  clear h
  obtain ⟨ji4, hji4⟩ : ∃ j_ : Int, (IntKind.u64.wrap (a1)) = j_ := ⟨_, rfl⟩
  replace H : (if 0 ≤ (ji4) then ((word_mask.f a2).bind fun t101 => (some (Go.bits .and .u64 (shr .u64 a0 (ji4)) t101))) else (none)) = some r := by (rw [hji4] at H; exact H)
  by_cases c5 : 0 ≤ (ji4)
  · rw [if_pos c5] at H
    have c5b0 := eq_true c5
    clear c5
    obtain ⟨ji6, hji6⟩ : ∃ j_ : Int, (shr .u64 a0 (ji4)) = j_ := ⟨_, rfl⟩
    replace H : ((word_mask.f a2).bind fun t101 => (some (Go.bits .and .u64 (ji6) t101))) = some r := by (rw [hji6] at H; exact H)
    have hji6_ : (a0 / 2 ^ min (ji4).toNat 64) = ji6 := hji6
    replace H := Option.bind_eq_some_iff.mp H
    obtain ⟨t101, A70, H⟩ := H
    replace H : (some (Go.bits .and .u64 (ji6) t101)) = some r := H
    have A7 := Aside0.mk A70
    clear A70
    obtain rfl := Option.some.inj H
    go_enter Tryd.func47, Tryd.ntmps47
    go_wp2_with (((with_reducible refine gate_callee (f := 56) rfl ?_); refine goesL_ (some 12) rfl rfl Tryd.func56 (by kernel_rfl) rfl #[.int .i64 a2] rfl (by (try simp only [List.map_toArray, List.map_cons, List.map_nil]); rfl) ?_; (with_reducible refine (word_mask.calls a2 t101 _ A7.out).mono ?_); rintro e w' ⟨rfl, ⟨nd, rfl⟩⟩; refine ⟨_, rfl, ?_⟩))
    go_ret
    exact ⟨by rfl, by repeat (first | exact Drawn0.refl _ | apply Drawn0.step)⟩
  · rw [if_neg c5] at H
    exact absurd H (by simp)

end Go.Proofs.YtcjhejopcghgnaaDoor.P

namespace Go.Proofs.YtcjhejopcghgnaaDoor.P
open Go.RowKit Go.Proofs.YtcjhejopcghgnaaDoorW.PrintWords Go.Proofs.YtcjhejopcghgnaaDoorW.PrintLast Go.Proofs.YtcjhejopcghgnaaDoorW.PrintMore
attribute [local go_sem] max2_int min2_int max_two min_two max_three min_three max_four min_four   -- for this text's walks alone
set_option linter.unusedVariables false
set_option linter.unusedSimpArgs false

variable {gb : Bool}
/-! ### word_Signed: function 76 -/
def word_Signed.f (a0 a1 a2 : Int) : Option (Int) := if 0 ≤ (IntKind.u64.wrap (wrap64 ((wrap64 (64 - a1)) - a2))) then (if 0 ≤ (IntKind.u64.wrap (wrap64 (64 - a2))) then (some (shr .i64 (wrap64 (shl .u64 a0 (IntKind.u64.wrap (wrap64 ((wrap64 (64 - a1)) - a2))))) (IntKind.u64.wrap (wrap64 (64 - a2))))) else (none)) else (none)
set_option maxHeartbeats 8000000 in
set_option maxRecDepth 100000 in
theorem word_Signed.calls (a0 a1 a2 r : Int) (w : World) (h : word_Signed.f a0 a1 a2 = some r) :
    Calls Tryd.prog 76 #[.int .u64 a0, .int .i64 a1, .int .i64 a2] w fun e w' => e = .returned (.int .i64 r) ∧ Drawn0 w w' := by
  have H := h
  unfold word_Signed.f at H
  clear h
  obtain ⟨ji4, hji4⟩ : ∃ j_ : Int, (IntKind.u64.wrap (wrap64 ((wrap64 (64 - a1)) - a2))) = j_ := ⟨_, rfl⟩
  replace H : (if 0 ≤ (ji4) then (if 0 ≤ (IntKind.u64.wrap (wrap64 (64 - a2))) then (some (shr .i64 (wrap64 (shl .u64 a0 (ji4))) (IntKind.u64.wrap (wrap64 (64 - a2))))) else (none)) else (none)) = some r := by (rw [hji4] at H; exact H)
  by_cases c5 : 0 ≤ (ji4)
  · rw [if_pos c5] at H
    have c5b0 := eq_true c5
    clear c5
    obtain ⟨ji6, hji6⟩ : ∃ j_ : Int, (shl .u64 a0 (ji4)) = j_ := ⟨_, rfl⟩
    replace H : (if 0 ≤ (IntKind.u64.wrap (wrap64 (64 - a2))) then (some (shr .i64 (wrap64 (ji6)) (IntKind.u64.wrap (wrap64 (64 - a2))))) else (none)) = some r := by (rw [hji6] at H; exact H)
    have hji6_ : (IntKind.u64.wrap (a0 * 2 ^ min (ji4).toNat 64)) = ji6 := hji6
    obtain ⟨ji7, hji7⟩ : ∃ j_ : Int, (IntKind.u64.wrap (wrap64 (64 - a2))) = j_ := ⟨_, rfl⟩
    replace H : (if 0 ≤ (ji7) then (some (shr .i64 (wrap64 (ji6)) (ji7))) else (none)) = some r := by (rw [hji7] at H; exact H)
    by_cases c8 : 0 ≤ (ji7)
    · rw [if_pos c8] at H
      have c8b0 := eq_true c8
      clear c8
      obtain ⟨ji9, hji9⟩ : ∃ j_ : Int, (shr .i64 (wrap64 (ji6)) (ji7)) = j_ := ⟨_, rfl⟩
      replace H : (some ji9) = some r := by (rw [hji9] at H; exact H)
      have hji9_ : ((wrap64 (ji6)) / 2 ^ min (ji7).toNat 64) = ji9 := hji9
      obtain rfl := Option.some.inj H
      go_enter Tryd.func76, Tryd.ntmps76
      go_wp2
      go_ret
      exact ⟨by rfl, by repeat (exact Drawn0.refl _)⟩
    · rw [if_neg c8] at H
      exact absurd H (by simp)
  · rw [if_neg c5] at H
    exact absurd H (by simp)

end Go.Proofs.YtcjhejopcghgnaaDoor.P

namespace Go.Proofs.YtcjhejopcghgnaaDoor.P
open Go.RowKit Go.Proofs.YtcjhejopcghgnaaDoorW.PrintWords Go.Proofs.YtcjhejopcghgnaaDoorW.PrintLast Go.Proofs.YtcjhejopcghgnaaDoorW.PrintMore
attribute [local go_sem] max2_int min2_int max_two min_two max_three min_three max_four min_four   -- for this text's walks alone
set_option linter.unusedVariables false
set_option linter.unusedSimpArgs false

variable {gb : Bool}
/-! ### pointer_decoders_1: function 75 -/
def pointer_decoders_1.f (a0 : Int) : Option (Int × Int × Int × Int × Int × Int × Bool × Int × Int × Int) := (word_Signed.f a0 2 30).bind fun t103 => ((word_Field.f a0 32 16).bind fun t104 => ((word_Field.f a0 48 16).bind fun t105 => (some (0, t103, wrap64 (t104), wrap64 (t105), 0, 0, false, 0, 0, 0))))
set_option maxHeartbeats 8000000 in
set_option maxRecDepth 100000 in
theorem pointer_decoders_1.calls (a0 r1 r2 r3 r4 r5 r6 : Int) (r7 : Bool) (r8 r9 r10 : Int) (w : World) (h : pointer_decoders_1.f a0 = some (r1, r2, r3, r4, r5, r6, r7, r8, r9, r10)) :
    Calls Tryd.prog 75 #[.int .u64 a0] w fun e w' => e = .returned (.agg #[.int .i64 r1, .int .i64 r2, .int .i64 r3, .int .i64 r4, .int .i64 r5, .int .i64 r6, .bool r7, .int .i64 r8, .int .u32 r9, .int .u32 r10]) ∧ Below w.heap.size w w' := by
  have HB := Aside0.mk (Below.refl w.heap.size w)
  have H : ((word_Signed.f a0 2 30).bind fun t103 => ((word_Field.f a0 32 16).bind fun t104 => ((word_Field.f a0 48 16).bind fun t105 => (some (0, t103, wrap64 (t104), wrap64 (t105), 0, 0, false, 0, 0, 0))))) = some (r1, r2, r3, r4, r5, r6, r7, r8, r9, r10) := h
  clear h
  replace H := Option.bind_eq_some_iff.mp H
  obtain ⟨t103, A20, H⟩ := H
  have A2 := Aside0.mk A20
  clear A20
  replace H := Option.bind_eq_some_iff.mp H
  obtain ⟨t104, A30, H⟩ := H
  replace H : ((word_Field.f a0 48 16).bind fun t105 => (some (0, t103, wrap64 (t104), wrap64 (t105), 0, 0, false, 0, 0, 0))) = some (r1, r2, r3, r4, r5, r6, r7, r8, r9, r10) := H
  have A3 := Aside0.mk A30
  clear A30
  replace H := Option.bind_eq_some_iff.mp H
  obtain ⟨t105, A40, H⟩ := H
  replace H : (some (0, t103, wrap64 (t104), wrap64 (t105), 0, 0, false, 0, 0, 0)) = some (r1, r2, r3, r4, r5, r6, r7, r8, r9, r10) := H
  have A4 := Aside0.mk A40
  clear A40
  simp only [Option.some.injEq, Prod.mk.injEq] at H
  obtain ⟨rfl, rfl, rfl, rfl, rfl, rfl, rfl, rfl, rfl, rfl⟩ := H
  go_enter Tryd.func75, Tryd.ntmps75
  go_wp2_with (first | ((with_reducible refine gate_dst (N := 2) rfl ?_); refine box_event ?hg (N := 2) ?hd (cs := #[.int .i64 0, .int .i64 0, .int .i64 0, .int .i64 0, .int .i64 0, .int .i64 0, .bool false, .int .i64 0, .int .u32 0, .int .u32 0]) (t := 39) ?hr ?_; (case hd => rfl); (case hg => rfl); (case hr => (go_simp; done)); intro gb102 hg w5 hbox hb; replace BK102 := Aside0.mk (hbox); replace GE102 := Aside0.mk (ge_of HB.out hg); replace HB := Aside0.mk (below_step HB.out hb); clear hb hbox hg) | ((with_reducible refine gate_callee (f := 76) rfl ?_); refine goesL_ (some 4) rfl rfl Tryd.func76 (by kernel_rfl) rfl #[.int .u64 a0, .int .i64 2, .int .i64 30] rfl (by (try simp only [List.map_toArray, List.map_cons, List.map_nil]); rfl) ?_; (with_reducible refine (word_Signed.calls a0 2 30 t103 _ A2.out).mono ?_); rintro e w' ⟨rfl, ⟨nd, rfl⟩⟩; refine ⟨_, rfl, ?_⟩; (try (rw [drewN_self w5]; generalize hq_ : World.drewN w5 _ = w5; replace BK102 := Aside0.mk (blk_q BK102.out hq_); replace HB := Aside0.mk (below_q HB.out hq_); clear hq_))) | ((with_reducible refine gate_callee (f := 47) rfl ?_); refine goesL_ (some 6) rfl rfl Tryd.func47 (by kernel_rfl) rfl #[.int .u64 a0, .int .i64 32, .int .i64 16] rfl (by (try simp only [List.map_toArray, List.map_cons, List.map_nil]); rfl) ?_; (with_reducible refine (word_Field.calls a0 32 16 t104 _ A3.out).mono ?_); rintro e w' ⟨rfl, ⟨nd, rfl⟩⟩; refine ⟨_, rfl, ?_⟩; (try (rw [drewN_self w5]; generalize hq_ : World.drewN w5 _ = w5; replace BK102 := Aside0.mk (blk_q BK102.out hq_); replace HB := Aside0.mk (below_q HB.out hq_); clear hq_))) | ((with_reducible refine gate_callee (f := 47) rfl ?_); refine goesL_ (some 9) rfl rfl Tryd.func47 (by kernel_rfl) rfl #[.int .u64 a0, .int .i64 48, .int .i64 16] rfl (by (try simp only [List.map_toArray, List.map_cons, List.map_nil]); rfl) ?_; (with_reducible refine (word_Field.calls a0 48 16 t105 _ A4.out).mono ?_); rintro e w' ⟨rfl, ⟨nd, rfl⟩⟩; refine ⟨_, rfl, ?_⟩; (try (rw [drewN_self w5]; generalize hq_ : World.drewN w5 _ = w5; replace BK102 := Aside0.mk (blk_q BK102.out hq_); replace HB := Aside0.mk (below_q HB.out hq_); clear hq_)); obtain ⟨hcz6_0, hcz6_1, hcz6_2, hcz6_3, hcz6_4, hcz6_5, hcz6_6, hcz6_7, hcz6_8, hcz6_9⟩ := cells10 BK102.out; obtain ⟨hfz6_0, hfz6_1, hfz6_2, hfz6_3, hfz6_4, hfz6_5, hfz6_6, hfz6_7, hfz6_8, hfz6_9⟩ := frz10 BK102.out))
  refine bodyPost_ret (results_cell_row rfl _ _ gb102 39 #[.int .i64 0, .int .i64 t103, .int .i64 (wrap64 (t104)), .int .i64 (wrap64 (t105)), .int .i64 0, .int .i64 0, .bool false, .int .i64 0, .int .u32 0, .int .u32 0] (0, 0) _ rfl (by exact put10 BK102.out) Tryd.underlying39 rfl (by kernel_rfl)) rfl ?_
  exact ⟨by rfl, by repeat ((with_reducible first | exact HB.out | refine below_set ?_ GE102.out))⟩

end Go.Proofs.YtcjhejopcghgnaaDoor.P

namespace Go.Proofs.YtcjhejopcghgnaaDoor.P
open Go.RowKit Go.Proofs.YtcjhejopcghgnaaDoorW.PrintWords Go.Proofs.YtcjhejopcghgnaaDoorW.PrintLast Go.Proofs.YtcjhejopcghgnaaDoorW.PrintMore
attribute [local go_sem] max2_int min2_int max_two min_two max_three min_three max_four min_four   -- for this text's walks alone
set_option linter.unusedVariables false
set_option linter.unusedSimpArgs false

variable {gb : Bool}
/-! ### pointer_decoders_2: function 77 -/
def pointer_decoders_2.f (a0 : Int) : Option (Int × Int × Int × Int × Int × Int × Bool × Int × Int × Int) := (word_Signed.f a0 2 30).bind fun t107 => ((word_Field.f a0 32 3).bind fun t108 => ((word_Field.f a0 35 29).bind fun t109 => (some (0, t107, 0, 0, wrap64 (t108), wrap64 (t109), false, 0, 0, 0))))
set_option maxHeartbeats 8000000 in
set_option maxRecDepth 100000 in
theorem pointer_decoders_2.calls (a0 r1 r2 r3 r4 r5 r6 : Int) (r7 : Bool) (r8 r9 r10 : Int) (w : World) (h : pointer_decoders_2.f a0 = some (r1, r2, r3, r4, r5, r6, r7, r8, r9, r10)) :
    Calls Tryd.prog 77 #[.int .u64 a0] w fun e w' => e = .returned (.agg #[.int .i64 r1, .int .i64 r2, .int .i64 r3, .int .i64 r4, .int .i64 r5, .int .i64 r6, .bool r7, .int .i64 r8, .int .u32 r9, .int .u32 r10]) ∧ Below w.heap.size w w' := by
  have HB := Aside0.mk (Below.refl w.heap.size w)
  have H : ((word_Signed.f a0 2 30).bind fun t107 => ((word_Field.f a0 32 3).bind fun t108 => ((word_Field.f a0 35 29).bind fun t109 => (some (0, t107, 0, 0, wrap64 (t108), wrap64 (t109), false, 0, 0, 0))))) = some (r1, r2, r3, r4, r5, r6, r7, r8, r9, r10) := h
  clear h
  replace H := Option.bind_eq_some_iff.mp H
  obtain ⟨t107, A20, H⟩ := H
  have A2 := Aside0.mk A20
  clear A20
  replace H := Option.bind_eq_some_iff.mp H
  obtain ⟨t108, A30, H⟩ := H
  replace H : ((word_Field.f a0 35 29).bind fun t109 => (some (0, t107, 0, 0, wrap64 (t108), wrap64 (t109), false, 0, 0, 0))) = some (r1, r2, r3, r4, r5, r6, r7, r8, r9, r10) := H
  have A3 := Aside0.mk A30
  clear A30
  replace H := Option.bind_eq_some_iff.mp H
  obtain ⟨t109, A40, H⟩ := H
  replace H : (some (0, t107, 0, 0, wrap64 (t108), wrap64 (t109), false, 0, 0, 0)) = some (r1, r2, r3, r4, r5, r6, r7, r8, r9, r10) := H
  have A4 := Aside0.mk A40
  clear A40
  simp only [Option.some.injEq, Prod.mk.injEq] at H
  obtain ⟨rfl, rfl, rfl, rfl, rfl, rfl, rfl, rfl, rfl, rfl⟩ := H
  go_enter Tryd.func77, Tryd.ntmps77
  go_wp2_with (first | ((with_reducible refine gate_dst (N := 2) rfl ?_); refine box_event ?hg (N := 2) ?hd (cs := #[.int .i64 0, .int .i64 0, .int .i64 0, .int .i64 0, .int .i64 0, .int .i64 0, .bool false, .int .i64 0, .int .u32 0, .int .u32 0]) (t := 39) ?hr ?_; (case hd => rfl); (case hg => rfl); (case hr => (go_simp; done)); intro gb106 hg w5 hbox hb; replace BK106 := Aside0.mk (hbox); replace GE106 := Aside0.mk (ge_of HB.out hg); replace HB := Aside0.mk (below_step HB.out hb); clear hb hbox hg) | ((with_reducible refine gate_callee (f := 76) rfl ?_); refine goesL_ (some 4) rfl rfl Tryd.func76 (by kernel_rfl) rfl #[.int .u64 a0, .int .i64 2, .int .i64 30] rfl (by (try simp only [List.map_toArray, List.map_cons, List.map_nil]); rfl) ?_; (with_reducible refine (word_Signed.calls a0 2 30 t107 _ A2.out).mono ?_); rintro e w' ⟨rfl, ⟨nd, rfl⟩⟩; refine ⟨_, rfl, ?_⟩; (try (rw [drewN_self w5]; generalize hq_ : World.drewN w5 _ = w5; replace BK106 := Aside0.mk (blk_q BK106.out hq_); replace HB := Aside0.mk (below_q HB.out hq_); clear hq_))) | ((with_reducible refine gate_callee (f := 47) rfl ?_); refine goesL_ (some 6) rfl rfl Tryd.func47 (by kernel_rfl) rfl #[.int .u64 a0, .int .i64 32, .int .i64 3] rfl (by (try simp only [List.map_toArray, List.map_cons, List.map_nil]); rfl) ?_; (with_reducible refine (word_Field.calls a0 32 3 t108 _ A3.out).mono ?_); rintro e w' ⟨rfl, ⟨nd, rfl⟩⟩; refine ⟨_, rfl, ?_⟩; (try (rw [drewN_self w5]; generalize hq_ : World.drewN w5 _ = w5; replace BK106 := Aside0.mk (blk_q BK106.out hq_); replace HB := Aside0.mk (below_q HB.out hq_); clear hq_))) | ((with_reducible refine gate_callee (f := 47) rfl ?_); refine goesL_ (some 9) rfl rfl Tryd.func47 (by kernel_rfl) rfl #[.int .u64 a0, .int .i64 35, .int .i64 29] rfl (by (try simp only [List.map_toArray, List.map_cons, List.map_nil]); rfl) ?_; (with_reducible refine (word_Field.calls a0 35 29 t109 _ A4.out).mono ?_); rintro e w' ⟨rfl, ⟨nd, rfl⟩⟩; refine ⟨_, rfl, ?_⟩; (try (rw [drewN_self w5]; generalize hq_ : World.drewN w5 _ = w5; replace BK106 := Aside0.mk (blk_q BK106.out hq_); replace HB := Aside0.mk (below_q HB.out hq_); clear hq_)); obtain ⟨hcz6_0, hcz6_1, hcz6_2, hcz6_3, hcz6_4, hcz6_5, hcz6_6, hcz6_7, hcz6_8, hcz6_9⟩ := cells10 BK106.out; obtain ⟨hfz6_0, hfz6_1, hfz6_2, hfz6_3, hfz6_4, hfz6_5, hfz6_6, hfz6_7, hfz6_8, hfz6_9⟩ := frz10 BK106.out))
  refine bodyPost_ret (results_cell_row rfl _ _ gb106 39 #[.int .i64 0, .int .i64 t107, .int .i64 0, .int .i64 0, .int .i64 (wrap64 (t108)), .int .i64 (wrap64 (t109)), .bool false, .int .i64 0, .int .u32 0, .int .u32 0] (0, 0) _ rfl (by exact put10 BK106.out) Tryd.underlying39 rfl (by kernel_rfl)) rfl ?_
  exact ⟨by rfl, by repeat ((with_reducible first | exact HB.out | refine below_set ?_ GE106.out))⟩

end Go.Proofs.YtcjhejopcghgnaaDoor.P

namespace Go.Proofs.YtcjhejopcghgnaaDoor.P
open Go.RowKit Go.Proofs.YtcjhejopcghgnaaDoorW.PrintWords Go.Proofs.YtcjhejopcghgnaaDoorW.PrintLast Go.Proofs.YtcjhejopcghgnaaDoorW.PrintMore
attribute [local go_sem] max2_int min2_int max_two min_two max_three min_three max_four min_four   -- for this text's walks alone
set_option linter.unusedVariables false
set_option linter.unusedSimpArgs false

variable {gb : Bool}
/-! ### pointer_decoders_3: function 78 -/
def pointer_decoders_3.f (a0 : Int) : Option (Int × Int × Int × Int × Int × Int × Bool × Int × Int × Int) := (word_Field.f a0 2 1).bind fun t111 => ((word_Field.f a0 3 29).bind fun t112 => ((word_Field.f a0 32 32).bind fun t113 => (some (0, 0, 0, 0, 0, 0, (t111 == 1), wrap64 (t112), (t113) % 4294967296, 0))))
set_option maxHeartbeats 8000000 in
set_option maxRecDepth 100000 in
theorem pointer_decoders_3.calls (a0 r1 r2 r3 r4 r5 r6 : Int) (r7 : Bool) (r8 r9 r10 : Int) (w : World) (h : pointer_decoders_3.f a0 = some (r1, r2, r3, r4, r5, r6, r7, r8, r9, r10)) :
    Calls Tryd.prog 78 #[.int .u64 a0] w fun e w' => e = .returned (.agg #[.int .i64 r1, .int .i64 r2, .int .i64 r3, .int .i64 r4, .int .i64 r5, .int .i64 r6, .bool r7, .int .i64 r8, .int .u32 r9, .int .u32 r10]) ∧ Below w.heap.size w w' := by
  have HB := Aside0.mk (Below.refl w.heap.size w)
  have H : ((word_Field.f a0 2 1).bind fun t111 => ((word_Field.f a0 3 29).bind fun t112 => ((word_Field.f a0 32 32).bind fun t113 => (some (0, 0, 0, 0, 0, 0, (t111 == 1), wrap64 (t112), (t113) % 4294967296, 0))))) = some (r1, r2, r3, r4, r5, r6, r7, r8, r9, r10) := h
  clear h
  replace H := Option.bind_eq_some_iff.mp H
  obtain ⟨t111, A20, H⟩ := H
  have A2 := Aside0.mk A20
  clear A20
  replace H := Option.bind_eq_some_iff.mp H
  obtain ⟨t112, A30, H⟩ := H
  replace H : ((word_Field.f a0 32 32).bind fun t113 => (some (0, 0, 0, 0, 0, 0, (t111 == 1), wrap64 (t112), (t113) % 4294967296, 0))) = some (r1, r2, r3, r4, r5, r6, r7, r8, r9, r10) := H
  have A3 := Aside0.mk A30
  clear A30
  replace H := Option.bind_eq_some_iff.mp H
  obtain ⟨t113, A40, H⟩ := H
  replace H : (some (0, 0, 0, 0, 0, 0, (t111 == 1), wrap64 (t112), (t113) % 4294967296, 0)) = some (r1, r2, r3, r4, r5, r6, r7, r8, r9, r10) := H
  have A4 := Aside0.mk A40
  clear A40
  simp only [Option.some.injEq, Prod.mk.injEq] at H
  obtain ⟨rfl, rfl, rfl, rfl, rfl, rfl, rfl, rfl, rfl, rfl⟩ := H
  go_enter Tryd.func78, Tryd.ntmps78
  go_wp2_with (first | ((with_reducible refine gate_dst (N := 2) rfl ?_); refine box_event ?hg (N := 2) ?hd (cs := #[.int .i64 0, .int .i64 0, .int .i64 0, .int .i64 0, .int .i64 0, .int .i64 0, .bool false, .int .i64 0, .int .u32 0, .int .u32 0]) (t := 39) ?hr ?_; (case hd => rfl); (case hg => rfl); (case hr => (go_simp; done)); intro gb110 hg w5 hbox hb; replace BK110 := Aside0.mk (hbox); replace GE110 := Aside0.mk (ge_of HB.out hg); replace HB := Aside0.mk (below_step HB.out hb); clear hb hbox hg) | ((with_reducible refine gate_callee (f := 47) rfl ?_); refine goesL_ (some 4) rfl rfl Tryd.func47 (by kernel_rfl) rfl #[.int .u64 a0, .int .i64 2, .int .i64 1] rfl (by (try simp only [List.map_toArray, List.map_cons, List.map_nil]); rfl) ?_; (with_reducible refine (word_Field.calls a0 2 1 t111 _ A2.out).mono ?_); rintro e w' ⟨rfl, ⟨nd, rfl⟩⟩; refine ⟨_, rfl, ?_⟩; (try (rw [drewN_self w5]; generalize hq_ : World.drewN w5 _ = w5; replace BK110 := Aside0.mk (blk_q BK110.out hq_); replace HB := Aside0.mk (below_q HB.out hq_); clear hq_))) | ((with_reducible refine gate_callee (f := 47) rfl ?_); refine goesL_ (some 7) rfl rfl Tryd.func47 (by kernel_rfl) rfl #[.int .u64 a0, .int .i64 3, .int .i64 29] rfl (by (try simp only [List.map_toArray, List.map_cons, List.map_nil]); rfl) ?_; (with_reducible refine (word_Field.calls a0 3 29 t112 _ A3.out).mono ?_); rintro e w' ⟨rfl, ⟨nd, rfl⟩⟩; refine ⟨_, rfl, ?_⟩; (try (rw [drewN_self w5]; generalize hq_ : World.drewN w5 _ = w5; replace BK110 := Aside0.mk (blk_q BK110.out hq_); replace HB := Aside0.mk (below_q HB.out hq_); clear hq_))) | ((with_reducible refine gate_callee (f := 47) rfl ?_); refine goesL_ (some 10) rfl rfl Tryd.func47 (by kernel_rfl) rfl #[.int .u64 a0, .int .i64 32, .int .i64 32] rfl (by (try simp only [List.map_toArray, List.map_cons, List.map_nil]); rfl) ?_; (with_reducible refine (word_Field.calls a0 32 32 t113 _ A4.out).mono ?_); rintro e w' ⟨rfl, ⟨nd, rfl⟩⟩; refine ⟨_, rfl, ?_⟩; (try (rw [drewN_self w5]; generalize hq_ : World.drewN w5 _ = w5; replace BK110 := Aside0.mk (blk_q BK110.out hq_); replace HB := Aside0.mk (below_q HB.out hq_); clear hq_)); obtain ⟨hcz6_0, hcz6_1, hcz6_2, hcz6_3, hcz6_4, hcz6_5, hcz6_6, hcz6_7, hcz6_8, hcz6_9⟩ := cells10 BK110.out; obtain ⟨hfz6_0, hfz6_1, hfz6_2, hfz6_3, hfz6_4, hfz6_5, hfz6_6, hfz6_7, hfz6_8, hfz6_9⟩ := frz10 BK110.out))
  refine bodyPost_ret (results_cell_row rfl _ _ gb110 39 #[.int .i64 0, .int .i64 0, .int .i64 0, .int .i64 0, .int .i64 0, .int .i64 0, .bool (t111 == 1), .int .i64 (wrap64 (t112)), .int .u32 ((t113) % 4294967296), .int .u32 0] (0, 0) _ rfl (by exact put10 BK110.out) Tryd.underlying39 rfl (by kernel_rfl)) rfl ?_
  exact ⟨by rfl, by repeat ((with_reducible first | exact HB.out | refine below_set ?_ GE110.out))⟩

end Go.Proofs.YtcjhejopcghgnaaDoor.P

namespace Go.Proofs.YtcjhejopcghgnaaDoor.P
open Go.RowKit Go.Proofs.YtcjhejopcghgnaaDoorW.PrintWords Go.Proofs.YtcjhejopcghgnaaDoorW.PrintLast Go.Proofs.YtcjhejopcghgnaaDoorW.PrintMore
attribute [local go_sem] max2_int min2_int max_two min_two max_three min_three max_four min_four   -- for this text's walks alone
set_option linter.unusedVariables false
set_option linter.unusedSimpArgs false

variable {gb : Bool}
/-! ### pointer_decoders_4: function 79 -/
def pointer_decoders_4.f (a0 : Int) : Option (Int × Int × Int × Int × Int × Int × Bool × Int × Int × Int) := (word_Field.f a0 2 30).bind fun t115 => ((word_Field.f a0 32 32).bind fun t116 => (some (0, 0, 0, 0, 0, 0, false, 0, (t116) % 4294967296, (t115) % 4294967296)))
set_option maxHeartbeats 8000000 in
set_option maxRecDepth 100000 in
theorem pointer_decoders_4.calls (a0 r1 r2 r3 r4 r5 r6 : Int) (r7 : Bool) (r8 r9 r10 : Int) (w : World) (h : pointer_decoders_4.f a0 = some (r1, r2, r3, r4, r5, r6, r7, r8, r9, r10)) :
    Calls Tryd.prog 79 #[.int .u64 a0] w fun e w' => e = .returned (.agg #[.int .i64 r1, .int .i64 r2, .int .i64 r3, .int .i64 r4, .int .i64 r5, .int .i64 r6, .bool r7, .int .i64 r8, .int .u32 r9, .int .u32 r10]) ∧ Below w.heap.size w w' := by
  have HB := Aside0.mk (Below.refl w.heap.size w)
  have H : ((word_Field.f a0 2 30).bind fun t115 => ((word_Field.f a0 32 32).bind fun t116 => (some (0, 0, 0, 0, 0, 0, false, 0, (t116) % 4294967296, (t115) % 4294967296)))) = some (r1, r2, r3, r4, r5, r6, r7, r8, r9, r10) := h
  clear h
  replace H := Option.bind_eq_some_iff.mp H
  obtain ⟨t115, A20, H⟩ := H
  replace H : ((word_Field.f a0 32 32).bind fun t116 => (some (0, 0, 0, 0, 0, 0, false, 0, (t116) % 4294967296, (t115) % 4294967296))) = some (r1, r2, r3, r4, r5, r6, r7, r8, r9, r10) := H
  have A2 := Aside0.mk A20
  clear A20
  replace H := Option.bind_eq_some_iff.mp H
  obtain ⟨t116, A30, H⟩ := H
  replace H : (some (0, 0, 0, 0, 0, 0, false, 0, (t116) % 4294967296, (t115) % 4294967296)) = some (r1, r2, r3, r4, r5, r6, r7, r8, r9, r10) := H
  have A3 := Aside0.mk A30
  clear A30
  simp only [Option.some.injEq, Prod.mk.injEq] at H
  obtain ⟨rfl, rfl, rfl, rfl, rfl, rfl, rfl, rfl, rfl, rfl⟩ := H
  go_enter Tryd.func79, Tryd.ntmps79
  go_wp2_with (first | ((with_reducible refine gate_dst (N := 2) rfl ?_); refine box_event ?hg (N := 2) ?hd (cs := #[.int .i64 0, .int .i64 0, .int .i64 0, .int .i64 0, .int .i64 0, .int .i64 0, .bool false, .int .i64 0, .int .u32 0, .int .u32 0]) (t := 39) ?hr ?_; (case hd => rfl); (case hg => rfl); (case hr => (go_simp; done)); intro gb114 hg w4 hbox hb; replace BK114 := Aside0.mk (hbox); replace GE114 := Aside0.mk (ge_of HB.out hg); replace HB := Aside0.mk (below_step HB.out hb); clear hb hbox hg) | ((with_reducible refine gate_callee (f := 47) rfl ?_); refine goesL_ (some 4) rfl rfl Tryd.func47 (by kernel_rfl) rfl #[.int .u64 a0, .int .i64 2, .int .i64 30] rfl (by (try simp only [List.map_toArray, List.map_cons, List.map_nil]); rfl) ?_; (with_reducible refine (word_Field.calls a0 2 30 t115 _ A2.out).mono ?_); rintro e w' ⟨rfl, ⟨nd, rfl⟩⟩; refine ⟨_, rfl, ?_⟩; (try (rw [drewN_self w4]; generalize hq_ : World.drewN w4 _ = w4; replace BK114 := Aside0.mk (blk_q BK114.out hq_); replace HB := Aside0.mk (below_q HB.out hq_); clear hq_))) | ((with_reducible refine gate_callee (f := 47) rfl ?_); refine goesL_ (some 7) rfl rfl Tryd.func47 (by kernel_rfl) rfl #[.int .u64 a0, .int .i64 32, .int .i64 32] rfl (by (try simp only [List.map_toArray, List.map_cons, List.map_nil]); rfl) ?_; (with_reducible refine (word_Field.calls a0 32 32 t116 _ A3.out).mono ?_); rintro e w' ⟨rfl, ⟨nd, rfl⟩⟩; refine ⟨_, rfl, ?_⟩; (try (rw [drewN_self w4]; generalize hq_ : World.drewN w4 _ = w4; replace BK114 := Aside0.mk (blk_q BK114.out hq_); replace HB := Aside0.mk (below_q HB.out hq_); clear hq_)); obtain ⟨hcz5_0, hcz5_1, hcz5_2, hcz5_3, hcz5_4, hcz5_5, hcz5_6, hcz5_7, hcz5_8, hcz5_9⟩ := cells10 BK114.out; obtain ⟨hfz5_0, hfz5_1, hfz5_2, hfz5_3, hfz5_4, hfz5_5, hfz5_6, hfz5_7, hfz5_8, hfz5_9⟩ := frz10 BK114.out))
  refine bodyPost_ret (results_cell_row rfl _ _ gb114 39 #[.int .i64 0, .int .i64 0, .int .i64 0, .int .i64 0, .int .i64 0, .int .i64 0, .bool false, .int .i64 0, .int .u32 ((t116) % 4294967296), .int .u32 ((t115) % 4294967296)] (0, 0) _ rfl (by exact put10 BK114.out) Tryd.underlying39 rfl (by kernel_rfl)) rfl ?_
  exact ⟨by rfl, by repeat ((with_reducible first | exact HB.out | refine below_set ?_ GE114.out))⟩

end Go.Proofs.YtcjhejopcghgnaaDoor.P

namespace Go.Proofs.YtcjhejopcghgnaaDoor.P
open Go.RowKit Go.Proofs.YtcjhejopcghgnaaDoorW.PrintWords Go.Proofs.YtcjhejopcghgnaaDoorW.PrintLast Go.Proofs.YtcjhejopcghgnaaDoorW.PrintMore
attribute [local go_sem] max2_int min2_int max_two min_two max_three min_three max_four min_four   -- for this text's walks alone
set_option linter.unusedVariables false
set_option linter.unusedSimpArgs false

variable {gb : Bool}
/-! ### pointer_Decode: function 34 -/
def pointer_Decode.f (a0 : Int) : Option (Int × Int × Int × Int × Int × Int × Bool × Int × Int × Int) := (word_Field.f a0 0 2).bind fun k => if k = 0 then ((pointer_decoders_1.f a0).bind fun r => some (0, r.2)) else (if k = 1 then ((pointer_decoders_2.f a0).bind fun r => some (1, r.2)) else (if k = 2 then ((pointer_decoders_3.f a0).bind fun r => some (2, r.2)) else (if k = 3 then ((pointer_decoders_4.f a0).bind fun r => some (3, r.2)) else none)))
theorem pointer_Decode.cases (a0 : Int) (r1 r2 r3 r4 r5 r6 : Int) (r7 : Bool) (r8 r9 r10 : Int) (h : pointer_Decode.f a0 = some (r1, r2, r3, r4, r5, r6, r7, r8, r9, r10)) :
    (∃ r, word_Field.f a0 0 2 = some 0 ∧ r1 = 0 ∧ pointer_decoders_1.f a0 = some (r, r2, r3, r4, r5, r6, r7, r8, r9, r10)) ∨ (∃ r, word_Field.f a0 0 2 = some 1 ∧ r1 = 1 ∧ pointer_decoders_2.f a0 = some (r, r2, r3, r4, r5, r6, r7, r8, r9, r10)) ∨
    (∃ r, word_Field.f a0 0 2 = some 2 ∧ r1 = 2 ∧ pointer_decoders_3.f a0 = some (r, r2, r3, r4, r5, r6, r7, r8, r9, r10)) ∨ (∃ r, word_Field.f a0 0 2 = some 3 ∧ r1 = 3 ∧ pointer_decoders_4.f a0 = some (r, r2, r3, r4, r5, r6, r7, r8, r9, r10)) := by
  unfold pointer_Decode.f at h
  obtain ⟨k, hk, h⟩ := Option.bind_eq_some_iff.mp h
  split at h
  · obtain ⟨⟨r, q⟩, hr, h⟩ := Option.bind_eq_some_iff.mp h
    simp only [Option.some.injEq, Prod.mk.injEq] at h
    obtain ⟨rfl, rfl⟩ := h
    exact .inl ⟨r, by simp_all, rfl, hr⟩
  split at h
  · obtain ⟨⟨r, q⟩, hr, h⟩ := Option.bind_eq_some_iff.mp h
    simp only [Option.some.injEq, Prod.mk.injEq] at h
    obtain ⟨rfl, rfl⟩ := h
    exact .inr (.inl ⟨r, by simp_all, rfl, hr⟩)
  split at h
  · obtain ⟨⟨r, q⟩, hr, h⟩ := Option.bind_eq_some_iff.mp h
    simp only [Option.some.injEq, Prod.mk.injEq] at h
    obtain ⟨rfl, rfl⟩ := h
    exact .inr (.inr (.inl ⟨r, by simp_all, rfl, hr⟩))
  split at h
  · obtain ⟨⟨r, q⟩, hr, h⟩ := Option.bind_eq_some_iff.mp h
    simp only [Option.some.injEq, Prod.mk.injEq] at h
    obtain ⟨rfl, rfl⟩ := h
    exact .inr (.inr (.inr ⟨r, by simp_all, rfl, hr⟩))
  · exact absurd h (by simp)
set_option maxHeartbeats 1600000 in
set_option maxRecDepth 100000 in
theorem pointer_Decode.calls (a0 r1 r2 r3 r4 r5 r6 : Int) (r7 : Bool) (r8 r9 r10 : Int) (w : World) (hG : Glob gb w) (h : pointer_Decode.f a0 = some (r1, r2, r3, r4, r5, r6, r7, r8, r9, r10)) :
    Calls Tryd.prog 34 #[.int .u64 a0] w fun e w' => e = .returned (.agg #[.int .i64 r1, .int .i64 r2, .int .i64 r3, .int .i64 r4, .int .i64 r5, .int .i64 r6, .bool r7, .int .i64 r8, .int .u32 r9, .int .u32 r10]) ∧ Below w.heap.size w w' := by
  obtain ⟨bm, es, clock, hc, hm, hl⟩ := hG.dec
  have Hl := Aside0.mk hl
  clear hl hG
  have hsz : 0 < w.heap.size := World.block_lt_of_cell? w _ hc
  rcases pointer_Decode.cases _ _ _ _ _ _ _ _ _ _ _ h with ⟨r, hk, hr1, hd⟩ | ⟨r, hk, hr1, hd⟩ | ⟨r, hk, hr1, hd⟩ | ⟨r, hk, hr1, hd⟩
  all_goals
    have Hk := Aside0.mk hk
    have H := Aside0.mk hd
    have Hr := Aside0.mk hr1
    clear h hk hd hr1
    go_enter Tryd.func34, Tryd.ntmps34
    go_wp2_with fail
    refine (word_Field.calls a0 0 2 _ _ Hk.out).mono ?_
    rintro e w1 ⟨rfl, hd⟩
    have hb1 := hd.below
    clear hd
    have hc1 := (hb1.cell (p := ⟨0, 0, none⟩) (by simp)).trans (World.cell?_alloc_past _ _ _ hsz |>.trans hc)
    have hm1 : w1.heap[bm]? = some (.map es clock) := blk_below (blk_alloc hm _) hb1
    obtain ⟨hl0, hl1, hl2, hl3⟩ := Hl.out w1 hm1
    have hx1 := blk_below (blk_new w _) hb1
    have HB1 := Aside0.mk (below_step (below_alloc (Below.refl w.heap.size w) _) hb1)
    clear hb1
    go_wp2_with fail
    first
    | (go_at_call 75; refine (pointer_decoders_1.calls a0 _ _ _ _ _ _ _ _ _ _ _ H.out).mono ?_)
    | (go_at_call 77; refine (pointer_decoders_2.calls a0 _ _ _ _ _ _ _ _ _ _ _ H.out).mono ?_)
    | (go_at_call 78; refine (pointer_decoders_3.calls a0 _ _ _ _ _ _ _ _ _ _ _ H.out).mono ?_)
    | (go_at_call 79; refine (pointer_decoders_4.calls a0 _ _ _ _ _ _ _ _ _ _ _ H.out).mono ?_)
    rintro e w2 ⟨rfl, hb2⟩
    have hx2 := blk_below hx1 hb2
    have HB2 := Aside0.mk (below_step HB1.out hb2)
    have hs2 : w.heap.size < w2.heap.size := lt_of_block hx2
    have hcs : ∀ i, w2.cell? ⟨w.heap.size, i, none⟩ = _ := fun i => blk_cell hx2 i
    have hfr : ∀ i, w2.frozen? ⟨w.heap.size, i, none⟩ = false := fun i => blk_frozen hx2 i
    clear hb2 hc1 hm1 hl0 hl1 hl2 hl3 hx1 hc hm HB1
    go_wp2
    refine bodyPost_ret (v := .agg #[.int .i64 r1, .int .i64 r2, .int .i64 r3, .int .i64 r4, .int .i64 r5, .int .i64 r6, .bool r7, .int .i64 r8, .int .u32 r9, .int .u32 r10]) (by rw [Hr.out]; simp [results, Tryd.results34, go_sem, hcs, hfr, hs2]) rfl ⟨rfl, ?_⟩
    repeat (with_reducible first | exact HB2.out | apply below_alloc | refine below_set ?_ (Nat.le_refl _))

end Go.Proofs.YtcjhejopcghgnaaDoor.P

namespace Go.Proofs.YtcjhejopcghgnaaDoor.P
open Go.RowKit Go.Proofs.YtcjhejopcghgnaaDoorW.PrintWords Go.Proofs.YtcjhejopcghgnaaDoorW.PrintLast Go.Proofs.YtcjhejopcghgnaaDoorW.PrintMore
attribute [local go_sem] max2_int min2_int max_two min_two max_three min_three max_four min_four   -- for this text's walks alone
set_option linter.unusedVariables false
set_option linter.unusedSimpArgs false

variable {gb : Bool}
theorem eqA60 (d : Nat) (w : World) (x0 y0 : Int) (x1 y1 : Int) (x2 y2 : Int) :
    (Op.equalIn (d + 2) 60 (.agg #[.int .u64 x0, .int .i64 x1, .int .i64 x2]) (.agg #[.int .u64 y0, .int .i64 y1, .int .i64 y2])).run Tryd.prog w = .ok (x0 == y0 && (x1 == y1 && (x2 == y2))) w := by
  refine eqA_of Tryd.underlying60 (by kernel_rfl) ?_
  refine eqf_cons (by rfl) (by go_simp; rfl) (by go_simp; rfl) (by go_simp) ?_
  refine eqf_cons (by rfl) (by go_simp; rfl) (by go_simp; rfl) (by go_simp) ?_
  exact eqf_last (by rfl) (by go_simp; rfl) (by go_simp; rfl) (by go_simp)
end Go.Proofs.YtcjhejopcghgnaaDoor.P

namespace Go.Proofs.YtcjhejopcghgnaaDoor.P
open Go.RowKit Go.Proofs.YtcjhejopcghgnaaDoorW.PrintWords Go.Proofs.YtcjhejopcghgnaaDoorW.PrintLast Go.Proofs.YtcjhejopcghgnaaDoorW.PrintMore
attribute [local go_sem] max2_int min2_int max_two min_two max_three min_three max_four min_four   -- for this text's walks alone
set_option linter.unusedVariables false
set_option linter.unusedSimpArgs false

variable {gb : Bool}
/-! ### far_IsFar: function 16 -/
def far_IsFar.f (a0 : Int) : Option (Bool) := (pointer_Decode.f a0).bind fun p => some (p.1 == 2)
set_option maxHeartbeats 1600000 in
set_option maxRecDepth 100000 in
theorem far_IsFar.calls (a0 : Int) (r : Bool) (w : World) (hG : Glob gb w) (h : far_IsFar.f a0 = some r) :
    Calls Tryd.prog 16 #[.int .u64 a0] w fun e w' => e = .returned (.bool r) ∧ Below w.heap.size w w' := by
  unfold far_IsFar.f at h
  obtain ⟨⟨p1, p2, p3, p4, p5, p6, p7, p8, p9, p10⟩, hp, h⟩ := Option.bind_eq_some_iff.mp h
  obtain rfl := Option.some.inj h
  have hf : ∀ W : World, (Instr.field 39 (Value.agg #[.int .i64 p1, .int .i64 p2, .int .i64 p3, .int .i64 p4, .int .i64 p5, .int .i64 p6, .bool p7, .int .i64 p8, .int .u32 p9, .int .u32 p10]) 0).run Tryd.prog W = .ok (.int .i64 p1) W := fun W => by kernel_rfl
  have HP := Aside0.mk hp
  have HG := Aside0.mk hG
  clear hp hG h
  go_enter Tryd.func16, Tryd.ntmps16
  go_wp2_with fail
  refine (pointer_Decode.calls _ _ _ _ _ _ _ _ _ _ _ w HG.out HP.out).mono ?_
  rintro e w1 ⟨rfl, hb⟩
  have HB := Aside0.mk hb
  clear hb
  go_wp2
  go_ret
  exact ⟨by rfl, HB.out⟩

end Go.Proofs.YtcjhejopcghgnaaDoor.P

namespace Go.Proofs.YtcjhejopcghgnaaDoor.P
open Go.RowKit Go.Proofs.YtcjhejopcghgnaaDoorW.PrintWords Go.Proofs.YtcjhejopcghgnaaDoorW.PrintLast Go.Proofs.YtcjhejopcghgnaaDoorW.PrintMore
attribute [local go_sem] max2_int min2_int max_two min_two max_three min_three max_four min_four   -- for this text's walks alone
set_option linter.unusedVariables false
set_option linter.unusedSimpArgs false

variable {gb : Bool}
/-! ### arena_InBounds: function 46 -/
def arena_InBounds.f (l0 : List (List Int)) (a1 a2 a3 : Int) : Option (Bool) := if a1 ≥ 0 then (if a1 < (l0.length : Int) then (if a2 ≥ 0 then (if a3 ≥ 0 then (if 0 ≤ a1 then (if a2 ≤ ((rd_L5 l0 a1).length : Int) then (some (decide (a3 ≤ (wrap64 (((rd_L5 l0 a1).length : Int) - a2))))) else (some false)) else (none)) else (some false)) else (some false)) else (some false)) else (some false)
set_option maxHeartbeats 8000000 in
set_option maxRecDepth 100000 in
theorem arena_InBounds.calls (A0 : Option Addr) (c0 : Nat) (l0 : List (List Int)) (a1 a2 a3 : Int) (r : Bool) (w : World) (hr0 : Kd.C (Kd.slice 23 (Kd.int .u64)) w A0 l0.length l0) (hc0 : l0.length ≤ c0) (h : arena_InBounds.f l0 a1 a2 a3 = some r) :
    Calls Tryd.prog 46 #[.slice A0 l0.length c0, .int .i64 a1, .int .i64 a2, .int .i64 a3] w fun e w' => e = .returned (.bool r) ∧ Drawn0 w w' := by
  have HR0 := Aside0.mk hr0
  clear hr0 hc0
  have H := h
  unfold arena_InBounds.f at H
  clear h
  by_cases c5 : a1 ≥ 0
  · rw [if_pos c5] at H
    have c5b0 : decide (0 ≤ a1) = true := decide_eq_true c5
    clear c5
    by_cases c6 : a1 < (l0.length : Int)
    · rw [if_pos c6] at H
      have c6b0 : decide (a1 < (l0.length : Int)) = true := decide_eq_true c6
      clear c6
      by_cases c7 : a2 ≥ 0
      · rw [if_pos c7] at H
        have c7b0 : decide (0 ≤ a2) = true := decide_eq_true c7
        clear c7
        by_cases c8 : a3 ≥ 0
        · rw [if_pos c8] at H
          have c8b0 : decide (0 ≤ a3) = true := decide_eq_true c8
          clear c8
          by_cases c9 : 0 ≤ a1
          · rw [if_pos c9] at H
            have c9b0 : decide (0 ≤ a1) = true := decide_eq_true c9
            clear c9
            by_cases c10 : a2 ≤ ((rd_L5 l0 a1).length : Int)
            · rw [if_pos c10] at H
              have c10b0 : decide (a2 ≤ ((rd_L5 l0 a1).length : Int)) = true := decide_eq_true c10
              clear c10
              obtain rfl := Option.some.inj H
              have p117 : 0 ≤ (a1 : Int) := of_decide_eq_true (by (with_reducible assumption))
              have q117 : a1 < (l0.length : Int) := of_decide_eq_true (by (with_reducible assumption))
              obtain ⟨ad117, A117_0, c117_0, e117, hx117_0, hl117_0, hi117_0⟩ := at_L5 HR0.out a1 p117 q117
              cases e117
              clear hi117_0 hl117_0
              replace p117 := eq_true p117
              replace q117 := eq_true q117
              have p118 : 0 ≤ (a1 : Int) := of_decide_eq_true (by (with_reducible assumption))
              have q118 : a1 < (l0.length : Int) := of_decide_eq_true (by (with_reducible assumption))
              obtain ⟨ad118, A118_0, c118_0, e118, hx118_0, hl118_0, hi118_0⟩ := at_L5 HR0.out a1 p118 q118
              obtain rfl : ad117 = ad118 := (by injection e118)
              have HR118_0 := Aside0.mk hi118_0
              have HC118_0 := Aside0.mk hl118_0
              clear hi118_0 hl118_0
              replace p118 := eq_true p118
              replace q118 := eq_true q118
              have ea_ := Option.some.inj (hx117_0.symm.trans hx118_0)
              injection ea_ with ea_ en_ ec_
              subst ea_
              subst ec_
              clear en_
              go_enter Tryd.func46, Tryd.ntmps46
              go_wp2
              go_ret
              exact ⟨by rfl, by repeat (exact Drawn0.refl _)⟩
            · rw [if_neg c10] at H
              have c10b0 : decide (a2 ≤ ((rd_L5 l0 a1).length : Int)) = false := decide_eq_false c10
              clear c10
              obtain rfl := Option.some.inj H
              have p117 : 0 ≤ (a1 : Int) := of_decide_eq_true (by (with_reducible assumption))
              have q117 : a1 < (l0.length : Int) := of_decide_eq_true (by (with_reducible assumption))
              obtain ⟨ad117, A117_0, c117_0, e117, hx117_0, hl117_0, hi117_0⟩ := at_L5 HR0.out a1 p117 q117
              cases e117
              clear hi117_0 hl117_0
              replace p117 := eq_true p117
              replace q117 := eq_true q117
              go_enter Tryd.func46, Tryd.ntmps46
              go_wp2
              go_ret
              exact ⟨by rfl, by repeat (exact Drawn0.refl _)⟩
          · rw [if_neg c9] at H
            exact absurd H (by simp)
        · rw [if_neg c8] at H
          have c8b0 : decide (0 ≤ a3) = false := decide_eq_false c8
          clear c8
          obtain rfl := Option.some.inj H
          go_enter Tryd.func46, Tryd.ntmps46
          go_wp2
          go_ret
          exact ⟨by rfl, by repeat (exact Drawn0.refl _)⟩
      · rw [if_neg c7] at H
        have c7b0 : decide (0 ≤ a2) = false := decide_eq_false c7
        clear c7
        obtain rfl := Option.some.inj H
        go_enter Tryd.func46, Tryd.ntmps46
        go_wp2
        go_ret
        exact ⟨by rfl, by repeat (exact Drawn0.refl _)⟩
    · rw [if_neg c6] at H
      have c6b0 : decide (a1 < (l0.length : Int)) = false := decide_eq_false c6
      clear c6
      obtain rfl := Option.some.inj H
      go_enter Tryd.func46, Tryd.ntmps46
      go_wp2
      go_ret
      exact ⟨by rfl, by repeat (exact Drawn0.refl _)⟩
  · rw [if_neg c5] at H
    have c5b0 : decide (0 ≤ a1) = false := decide_eq_false c5
    clear c5
    obtain rfl := Option.some.inj H
    go_enter Tryd.func46, Tryd.ntmps46
    go_wp2
    go_ret
    exact ⟨by rfl, by repeat (exact Drawn0.refl _)⟩

end Go.Proofs.YtcjhejopcghgnaaDoor.P

namespace Go.Proofs.YtcjhejopcghgnaaDoor.P
open Go.RowKit Go.Proofs.YtcjhejopcghgnaaDoorW.PrintWords Go.Proofs.YtcjhejopcghgnaaDoorW.PrintLast Go.Proofs.YtcjhejopcghgnaaDoorW.PrintMore
attribute [local go_sem] max2_int min2_int max_two min_two max_three min_three max_four min_four   -- for this text's walks alone
set_option linter.unusedVariables false
set_option linter.unusedSimpArgs false

variable {gb : Bool}
/-! ### arena_Word: function 32 -/
def arena_Word.f (l0 : List (List Int)) (a1 a2 : Int) : Option (Int × Bool) := (arena_InBounds.f l0 a1 a2 1).bind fun t119 => (if t119 = true then (if 0 ≤ a1 then (if a1 < (l0.length : Int) then (if 0 ≤ a2 then (if a2 < ((rd_L5 l0 a1).length : Int) then (some (rd (rd_L5 l0 a1) a2, true)) else (none)) else (none)) else (none)) else (none)) else (some (0, false)))
set_option maxHeartbeats 8000000 in
set_option maxRecDepth 100000 in
theorem arena_Word.calls (A0 : Option Addr) (c0 : Nat) (l0 : List (List Int)) (a1 a2 r1 : Int) (r2 : Bool) (w : World) (hr0 : Kd.C (Kd.slice 23 (Kd.int .u64)) w A0 l0.length l0) (hc0 : l0.length ≤ c0) (h : arena_Word.f l0 a1 a2 = some (r1, r2)) :
    Calls Tryd.prog 32 #[.slice A0 l0.length c0, .int .i64 a1, .int .i64 a2] w fun e w' => e = .returned (.tuple #[.int .u64 r1, .bool r2]) ∧ Drawn0 w w' := by
  have HR0 := Aside0.mk hr0
  have HC0 := Aside0.mk hc0
  clear hr0 hc0
  have H := h
  unfold arena_Word.f at H
  clear h
  replace H := Option.bind_eq_some_iff.mp H
  obtain ⟨t119, A40, H⟩ := H
  have A4 := Aside0.mk A40
  clear A40
  by_cases c5 : t119 = true
  · subst c5
    have H1 : (if 0 ≤ a1 then (if a1 < (l0.length : Int) then (if 0 ≤ a2 then (if a2 < ((rd_L5 l0 a1).length : Int) then (some (rd (rd_L5 l0 a1) a2, true)) else (none)) else (none)) else (none)) else (none)) = some (r1, r2) := by rw [if_pos rfl] at H; exact H
    clear H
    have H := H1
    clear H1
    by_cases c6 : 0 ≤ a1
    · rw [if_pos c6] at H
      have c6b0 : decide (0 ≤ a1) = true := decide_eq_true c6
      clear c6
      by_cases c7 : a1 < (l0.length : Int)
      · rw [if_pos c7] at H
        have c7b0 : decide (a1 < (l0.length : Int)) = true := decide_eq_true c7
        clear c7
        by_cases c8 : 0 ≤ a2
        · rw [if_pos c8] at H
          have c8b0 : decide (0 ≤ a2) = true := decide_eq_true c8
          clear c8
          by_cases c9 : a2 < ((rd_L5 l0 a1).length : Int)
          · rw [if_pos c9] at H
            have c9b0 : decide (a2 < ((rd_L5 l0 a1).length : Int)) = true := decide_eq_true c9
            clear c9
            simp only [Option.some.injEq, Prod.mk.injEq] at H
            obtain ⟨rfl, rfl⟩ := H
            go_enter Tryd.func32, Tryd.ntmps32
            go_wp2_with (((with_reducible refine gate_callee (f := 46) rfl ?_); refine goesL_ (some 11) rfl rfl Tryd.func46 (by kernel_rfl) rfl #[.slice A0 l0.length c0, .int .i64 a1, .int .i64 a2, .int .i64 1] rfl (by (try simp only [List.map_toArray, List.map_cons, List.map_nil]); rfl) ?_; (with_reducible refine (arena_InBounds.calls _ _ l0 a1 a2 1 true _ ?side1 ?side2 A4.out).mono ?_); (case side1 => repeat (exact HR0.out)); (case side2 => exact HC0.out); rintro e w' ⟨rfl, ⟨nd, rfl⟩⟩; refine ⟨_, rfl, ?_⟩; have p120 : 0 ≤ (a1 : Int) := of_decide_eq_true (by (with_reducible assumption)); have q120 : a1 < (l0.length : Int) := of_decide_eq_true (by (with_reducible assumption)); obtain ⟨ad120, A120_0, c120_0, e120, hx120_0, hl120_0, hi120_0⟩ := at_L5 HR0.out a1 p120 q120; cases e120; have HR120_0 := Aside0.mk hi120_0; clear hi120_0 hl120_0; replace p120 := eq_true p120; replace q120 := eq_true q120; have p121 : 0 ≤ (a2 : Int) := of_decide_eq_true (by (with_reducible assumption)); have q121 : a2 < ((rd_L5 l0 a1).length : Int) := of_decide_eq_true (by (with_reducible assumption)); obtain ⟨ad121, e121, hx121_0⟩ := Kd.at_int HR120_0.out a2 p121 q121; cases e121; replace p121 := eq_true p121; replace q121 := eq_true q121))
            go_ret2
            exact ⟨by rfl, by repeat (first | exact Drawn0.refl _ | apply Drawn0.step)⟩
          · rw [if_neg c9] at H
            exact absurd H (by simp)
        · rw [if_neg c8] at H
          exact absurd H (by simp)
      · rw [if_neg c7] at H
        exact absurd H (by simp)
    · rw [if_neg c6] at H
      exact absurd H (by simp)
  · replace c5 := Bool.eq_false_iff.mpr c5
    subst c5
    have H1 : (some (0, false)) = some (r1, r2) := by rw [if_neg (show ¬ (false = true) by decide)] at H; exact H
    clear H
    have H := H1
    clear H1
    simp only [Option.some.injEq, Prod.mk.injEq] at H
    obtain ⟨rfl, rfl⟩ := H
    go_enter Tryd.func32, Tryd.ntmps32
    go_wp2_with (((with_reducible refine gate_callee (f := 46) rfl ?_); refine goesL_ (some 11) rfl rfl Tryd.func46 (by kernel_rfl) rfl #[.slice A0 l0.length c0, .int .i64 a1, .int .i64 a2, .int .i64 1] rfl (by (try simp only [List.map_toArray, List.map_cons, List.map_nil]); rfl) ?_; (with_reducible refine (arena_InBounds.calls _ _ l0 a1 a2 1 false _ ?side1 ?side2 A4.out).mono ?_); (case side1 => repeat (exact HR0.out)); (case side2 => exact HC0.out); rintro e w' ⟨rfl, ⟨nd, rfl⟩⟩; refine ⟨_, rfl, ?_⟩))
    go_ret2
    exact ⟨by rfl, by repeat (first | exact Drawn0.refl _ | apply Drawn0.step)⟩

end Go.Proofs.YtcjhejopcghgnaaDoor.P

namespace Go.Proofs.YtcjhejopcghgnaaDoor.P
open Go.RowKit Go.Proofs.YtcjhejopcghgnaaDoorW.PrintWords Go.Proofs.YtcjhejopcghgnaaDoorW.PrintLast Go.Proofs.YtcjhejopcghgnaaDoorW.PrintMore
attribute [local go_sem] max2_int min2_int max_two min_two max_three min_three max_four min_four   -- for this text's walks alone
set_option linter.unusedVariables false
set_option linter.unusedSimpArgs false

variable {gb : Bool}
/-! ### far_Landing: function 18 -/
def far_Landing.f (a0 : Int) : Option (Int × Int) := (pointer_Decode.f a0).bind fun bt122 => (some (wrap64 (bt122.2.2.2.2.2.2.2.2.1), bt122.2.2.2.2.2.2.2.1))
set_option maxHeartbeats 8000000 in
set_option maxRecDepth 100000 in
theorem far_Landing.calls (a0 r1 r2 : Int) (w : World) (hG : Glob gb w) (h : far_Landing.f a0 = some (r1, r2)) :
    Calls Tryd.prog 18 #[.int .u64 a0] w fun e w' => e = .returned (.tuple #[.int .i64 r1, .int .i64 r2]) ∧ Below w.heap.size w w' := by
  have HG := Aside0.mk hG
  clear hG
  have HB := Aside0.mk (Below.refl w.heap.size w)
  have H : ((pointer_Decode.f a0).bind fun bt122 => (some (wrap64 (bt122.2.2.2.2.2.2.2.2.1), bt122.2.2.2.2.2.2.2.1))) = some (r1, r2) := h
  clear h
  replace H := Option.bind_eq_some_iff.mp H
  obtain ⟨⟨t122, t123, t124, t125, t126, t127, t128, t129, t130, t131⟩, A20, H⟩ := H
  replace H : (some (wrap64 (t130), t129)) = some (r1, r2) := H
  have A2 := Aside0.mk A20
  clear A20
  simp only [Option.some.injEq, Prod.mk.injEq] at H
  obtain ⟨rfl, rfl⟩ := H
  go_enter Tryd.func18, Tryd.ntmps18
  go_wp2_with (first | (go_at_call 34; (with_reducible refine (pointer_Decode.calls (gb := gb) a0 t122 t123 t124 t125 t126 t127 t128 t129 t130 t131 _ ?side1 A2.out).mono ?_); (case side1 => exact Glob.below HG.out HB.out); rintro e w3 ⟨rfl, hb⟩; replace HB := Aside0.mk (below_step HB.out hb); (try clear hb)) | ((with_reducible refine gate_dst (N := 4) rfl ?_); refine box_event ?hg (N := 4) ?hd (cs := #[.int .i64 0, .int .i64 0, .int .i64 0, .int .i64 0, .int .i64 0, .int .i64 0, .bool false, .int .i64 0, .int .u32 0, .int .u32 0]) (t := 39) ?hr ?_; (case hd => rfl); (case hg => rfl); (case hr => (go_simp; done)); intro gb132 hg w4 hbox hb; replace BK132 := Aside0.mk (hbox); replace GE132 := Aside0.mk (ge_of HB.out hg); replace HB := Aside0.mk (below_step HB.out hb); clear hb hbox hg; obtain ⟨hcz5_0, hcz5_1, hcz5_2, hcz5_3, hcz5_4, hcz5_5, hcz5_6, hcz5_7, hcz5_8, hcz5_9⟩ := cells10 BK132.out; obtain ⟨hfz5_0, hfz5_1, hfz5_2, hfz5_3, hfz5_4, hfz5_5, hfz5_6, hfz5_7, hfz5_8, hfz5_9⟩ := frz10 BK132.out))
  repeat (go_quiet (first | (go_at_call 34; (with_reducible refine (pointer_Decode.calls (gb := gb) a0 t122 t123 t124 t125 t126 t127 t128 t129 t130 t131 _ ?side1 A2.out).mono ?_); (case side1 => exact Glob.below HG.out (by repeat (first | (with_reducible first | exact HB.out | apply below_alloc | apply pw_below_drewN | apply below_drew1) | exact HB.out))); rintro e w3 ⟨rfl, hb⟩; replace HB := Aside0.mk (below_step (by repeat (first | (with_reducible first | exact HB.out | apply below_alloc | apply pw_below_drewN | apply below_drew1) | exact HB.out)) hb); (try clear hb); (try clear hb2); (try clear hk); (try clear hi)) | ((with_reducible refine gate_dst (N := 4) rfl ?_); refine box_event ?hg (N := 4) ?hd (cs := #[.int .i64 0, .int .i64 0, .int .i64 0, .int .i64 0, .int .i64 0, .int .i64 0, .bool false, .int .i64 0, .int .u32 0, .int .u32 0]) (t := 39) ?hr ?_; (case hd => rfl); (case hg => rfl); (case hr => first | (go_simp; done) | (go_simp; rfl)); intro gb132 hg w4 hbox hb; replace BK132 := Aside0.mk (hbox); replace GW132 := Aside0.mk ((by rw [hg]; exact (below_size (by repeat (first | (with_reducible first | exact HB.out | apply below_alloc | apply pw_below_drewN | apply below_drew1) | exact HB.out))) : w.heap.size ≤ gb132)); replace GE132 := Aside0.mk ((by rw [hg]; exact (below_size (by repeat (first | (with_reducible first | exact HB.out | apply below_alloc | apply pw_below_drewN | apply below_drew1) | exact HB.out))) : w.heap.size ≤ gb132)); replace HB := Aside0.mk (below_step (by repeat (first | (with_reducible first | exact HB.out | apply below_alloc | apply pw_below_drewN | apply below_drew1) | exact HB.out)) hb); clear hb hbox hg; obtain ⟨hcz5_0, hcz5_1, hcz5_2, hcz5_3, hcz5_4, hcz5_5, hcz5_6, hcz5_7, hcz5_8, hcz5_9⟩ := cells10 BK132.out; obtain ⟨hfz5_0, hfz5_1, hfz5_2, hfz5_3, hfz5_4, hfz5_5, hfz5_6, hfz5_7, hfz5_8, hfz5_9⟩ := frz10 BK132.out)); try go_wp2_with (fail))
  go_ret2
  exact ⟨by rfl, by repeat ((with_reducible first | exact HB.out | apply pw_below_drewN | refine below_set ?_ GE132.out))⟩

end Go.Proofs.YtcjhejopcghgnaaDoor.P

namespace Go.Proofs.YtcjhejopcghgnaaDoor.P
open Go.RowKit Go.Proofs.YtcjhejopcghgnaaDoorW.PrintWords Go.Proofs.YtcjhejopcghgnaaDoorW.PrintLast Go.Proofs.YtcjhejopcghgnaaDoorW.PrintMore
attribute [local go_sem] max2_int min2_int max_two min_two max_three min_three max_four min_four   -- for this text's walks alone
set_option linter.unusedVariables false
set_option linter.unusedSimpArgs false

variable {gb : Bool}
/-! ### far_single: function 33 -/
def far_single.f (l0 : List (List Int)) (a1 : Int) : Option (Int × Int × Int × Int) := (far_Landing.f a1).bind fun bt134 => ((arena_Word.f l0 bt134.1 bt134.2).bind fun bt136 => (if bt136.2 = true then ((far_IsFar.f bt136.1).bind fun t138 => (if t138 = true then (some (0, 0, 0, 3)) else (some (bt136.1, bt134.1, wrap64 (bt134.2 + 1), 0)))) else (some (0, 0, 0, 2))))
set_option maxHeartbeats 8000000 in
set_option maxRecDepth 100000 in
theorem far_single.calls (A0 : Option Addr) (c0 : Nat) (l0 : List (List Int)) (a1 r1 r2 r3 r4 : Int) (w : World) (hG : Glob gb w) (hr0 : Kd.C (Kd.slice 23 (Kd.int .u64)) w A0 l0.length l0) (hc0 : l0.length ≤ c0) (h : far_single.f l0 a1 = some (r1, r2, r3, r4)) :
    Calls Tryd.prog 33 #[.slice A0 l0.length c0, .int .u64 a1] w fun e w' => e = .returned (.tuple #[.agg #[.int .u64 r1, .int .i64 r2, .int .i64 r3], .int .i64 r4]) ∧ Below w.heap.size w w' := by
  have HG := Aside0.mk hG
  clear hG
  have HR0 := Aside0.mk hr0
  have HC0 := Aside0.mk hc0
  clear hr0 hc0
  have HB := Aside0.mk (Below.refl w.heap.size w)
  have H := h
  unfold far_single.f at H
  clear h
  replace H := Option.bind_eq_some_iff.mp H
  obtain ⟨⟨t134, t135⟩, A30, H⟩ := H
  dsimp only at H
  have A3 := Aside0.mk A30
  clear A30
  replace H := Option.bind_eq_some_iff.mp H
  obtain ⟨⟨t136, t137⟩, A40, H⟩ := H
  dsimp only at H
  have A4 := Aside0.mk A40
  clear A40
  by_cases c5 : t137 = true
  · subst c5
    have H1 : ((far_IsFar.f t136).bind fun t138 => (if t138 = true then (some (0, 0, 0, 3)) else (some (t136, t134, wrap64 (t135 + 1), 0)))) = some (r1, r2, r3, r4) := by rw [if_pos rfl] at H; exact H
    clear H
    have H := H1
    clear H1
    replace H := Option.bind_eq_some_iff.mp H
    obtain ⟨t138, A60, H⟩ := H
    replace H : (if t138 = true then (some (0, 0, 0, 3)) else (some (t136, t134, wrap64 (t135 + 1), 0))) = some (r1, r2, r3, r4) := H
    have A6 := Aside0.mk A60
    clear A60
    by_cases c7 : t138 = true
    · subst c7
      have H1 : (some (0, 0, 0, 3)) = some (r1, r2, r3, r4) := by rw [if_pos rfl] at H; exact H
      clear H
      have H := H1
      clear H1
      simp only [Option.some.injEq, Prod.mk.injEq] at H
      obtain ⟨rfl, rfl, rfl, rfl⟩ := H
      go_enter Tryd.func33, Tryd.ntmps33
      go_wp2_with (first | ((with_reducible refine gate_dst (N := 4) rfl ?_); refine box_event ?hg (N := 4) ?hd (cs := #[.int .u64 0, .int .i64 0, .int .i64 0]) (t := 60) ?hr ?_; (case hd => rfl); (case hg => rfl); (case hr => (go_simp; done)); intro gb133 hg w8 hbox hb; replace BK133 := Aside0.mk (hbox); replace GE133 := Aside0.mk (ge_of HB.out hg); replace HB := Aside0.mk (below_step HB.out hb); clear hb hbox hg) | ((with_reducible refine gate_callee (f := 18) rfl ?_); refine goesL_ (some 12) rfl rfl Tryd.func18 (by kernel_rfl) rfl #[.int .u64 a1] rfl (by (try simp only [List.map_toArray, List.map_cons, List.map_nil]); rfl) ?_; (with_reducible refine (far_Landing.calls (gb := gb) a1 t134 t135 _ ?side1 A3.out).mono ?_); (case side1 => exact Glob.below HG.out HB.out); rintro e w9 ⟨rfl, hb⟩; refine ⟨_, rfl, ?_⟩; replace BK133 := Aside0.mk (blk_below BK133.out hb); replace HB := Aside0.mk (below_step HB.out hb); (try clear hb)) | ((with_reducible refine gate_callee (f := 32) rfl ?_); refine goesL_ (some 19) rfl rfl Tryd.func32 (by kernel_rfl) rfl #[.slice A0 l0.length c0, .int .i64 t134, .int .i64 t135] rfl (by (try simp only [List.map_toArray, List.map_cons, List.map_nil]); rfl) ?_; (with_reducible refine (arena_Word.calls _ _ l0 t134 t135 t136 true _ ?side1 ?side2 A4.out).mono ?_); (case side1 => repeat ((exact (Kd.C_below HR0.out HB.out)))); (case side2 => exact HC0.out); rintro e w' ⟨rfl, ⟨nd, rfl⟩⟩; refine ⟨_, rfl, ?_⟩; (try (rw [drewN_self w9]; generalize hq_ : World.drewN w9 _ = w9; replace BK133 := Aside0.mk (blk_q BK133.out hq_); replace HB := Aside0.mk (below_q HB.out hq_); clear hq_))) | ((with_reducible refine gate_callee (f := 16) rfl ?_); refine goesL_ (some 28) rfl rfl Tryd.func16 (by kernel_rfl) rfl #[.int .u64 t136] rfl (by (try simp only [List.map_toArray, List.map_cons, List.map_nil]); rfl) ?_; (with_reducible refine (far_IsFar.calls (gb := gb) t136 true _ ?side1 A6.out).mono ?_); (case side1 => exact Glob.below HG.out HB.out); rintro e w10 ⟨rfl, hb⟩; refine ⟨_, rfl, ?_⟩; replace BK133 := Aside0.mk (blk_below BK133.out hb); replace HB := Aside0.mk (below_step HB.out hb); (try clear hb); have hcz11_0 : w10.cell? ⟨gb133, 0, none⟩ = some (.int .u64 0) := (blk_cell BK133.out 0).trans rfl; have hcz11_1 : w10.cell? ⟨gb133, 1, none⟩ = some (.int .i64 0) := (blk_cell BK133.out 1).trans rfl; have hcz11_2 : w10.cell? ⟨gb133, 2, none⟩ = some (.int .i64 0) := (blk_cell BK133.out 2).trans rfl; have hfz11_0 := blk_frozen BK133.out 0; have hfz11_1 := blk_frozen BK133.out 1; have hfz11_2 := blk_frozen BK133.out 2))
      refine bodyPost_ret (results_ct rfl _ _ gb133 60 #[.int .u64 0, .int .i64 0, .int .i64 0] (0, 0) _ rfl (by refine blk_put (cs := #[.int .u64 0, .int .i64 0, .int .i64 0]) ?_ 2 _ rfl; refine blk_put (cs := #[.int .u64 0, .int .i64 0, .int .i64 0]) ?_ 1 _ rfl; refine blk_put (cs := #[.int .u64 0, .int .i64 0, .int .i64 0]) ?_ 0 _ rfl; exact BK133.out) Tryd.underlying60 rfl (by kernel_rfl)) rfl ?_
      exact ⟨by rfl, by repeat ((with_reducible first | exact HB.out | refine below_set ?_ GE133.out))⟩
    · replace c7 := Bool.eq_false_iff.mpr c7
      subst c7
      have H1 : (some (t136, t134, wrap64 (t135 + 1), 0)) = some (r1, r2, r3, r4) := by rw [if_neg (show ¬ (false = true) by decide)] at H; exact H
      clear H
      have H := H1
      clear H1
      simp only [Option.some.injEq, Prod.mk.injEq] at H
      obtain ⟨rfl, rfl, rfl, rfl⟩ := H
      go_enter Tryd.func33, Tryd.ntmps33
      go_wp2_with (first | ((with_reducible refine gate_dst (N := 4) rfl ?_); refine box_event ?hg (N := 4) ?hd (cs := #[.int .u64 0, .int .i64 0, .int .i64 0]) (t := 60) ?hr ?_; (case hd => rfl); (case hg => rfl); (case hr => (go_simp; done)); intro gb133 hg w12 hbox hb; replace BK133 := Aside0.mk (hbox); replace GE133 := Aside0.mk (ge_of HB.out hg); replace HB := Aside0.mk (below_step HB.out hb); clear hb hbox hg) | ((with_reducible refine gate_callee (f := 18) rfl ?_); refine goesL_ (some 12) rfl rfl Tryd.func18 (by kernel_rfl) rfl #[.int .u64 a1] rfl (by (try simp only [List.map_toArray, List.map_cons, List.map_nil]); rfl) ?_; (with_reducible refine (far_Landing.calls (gb := gb) a1 t134 t135 _ ?side1 A3.out).mono ?_); (case side1 => exact Glob.below HG.out HB.out); rintro e w13 ⟨rfl, hb⟩; refine ⟨_, rfl, ?_⟩; replace BK133 := Aside0.mk (blk_below BK133.out hb); replace HB := Aside0.mk (below_step HB.out hb); (try clear hb)) | ((with_reducible refine gate_callee (f := 32) rfl ?_); refine goesL_ (some 19) rfl rfl Tryd.func32 (by kernel_rfl) rfl #[.slice A0 l0.length c0, .int .i64 t134, .int .i64 t135] rfl (by (try simp only [List.map_toArray, List.map_cons, List.map_nil]); rfl) ?_; (with_reducible refine (arena_Word.calls _ _ l0 t134 t135 t136 true _ ?side1 ?side2 A4.out).mono ?_); (case side1 => repeat ((exact (Kd.C_below HR0.out HB.out)))); (case side2 => exact HC0.out); rintro e w' ⟨rfl, ⟨nd, rfl⟩⟩; refine ⟨_, rfl, ?_⟩; (try (rw [drewN_self w13]; generalize hq_ : World.drewN w13 _ = w13; replace BK133 := Aside0.mk (blk_q BK133.out hq_); replace HB := Aside0.mk (below_q HB.out hq_); clear hq_))) | ((with_reducible refine gate_callee (f := 16) rfl ?_); refine goesL_ (some 28) rfl rfl Tryd.func16 (by kernel_rfl) rfl #[.int .u64 t136] rfl (by (try simp only [List.map_toArray, List.map_cons, List.map_nil]); rfl) ?_; (with_reducible refine (far_IsFar.calls (gb := gb) t136 false _ ?side1 A6.out).mono ?_); (case side1 => exact Glob.below HG.out HB.out); rintro e w14 ⟨rfl, hb⟩; refine ⟨_, rfl, ?_⟩; replace BK133 := Aside0.mk (blk_below BK133.out hb); replace HB := Aside0.mk (below_step HB.out hb); (try clear hb); have hcz15_0 : w14.cell? ⟨gb133, 0, none⟩ = some (.int .u64 0) := (blk_cell BK133.out 0).trans rfl; have hcz15_1 : w14.cell? ⟨gb133, 1, none⟩ = some (.int .i64 0) := (blk_cell BK133.out 1).trans rfl; have hcz15_2 : w14.cell? ⟨gb133, 2, none⟩ = some (.int .i64 0) := (blk_cell BK133.out 2).trans rfl; have hfz15_0 := blk_frozen BK133.out 0; have hfz15_1 := blk_frozen BK133.out 1; have hfz15_2 := blk_frozen BK133.out 2))
      refine bodyPost_ret (results_ct rfl _ _ gb133 60 #[.int .u64 t136, .int .i64 t134, .int .i64 (wrap64 (t135 + 1))] (0, 0) _ rfl (by refine blk_put (cs := #[.int .u64 t136, .int .i64 t134, .int .i64 0]) ?_ 2 _ rfl; refine blk_put (cs := #[.int .u64 t136, .int .i64 0, .int .i64 0]) ?_ 1 _ rfl; refine blk_put (cs := #[.int .u64 0, .int .i64 0, .int .i64 0]) ?_ 0 _ rfl; exact BK133.out) Tryd.underlying60 rfl (by kernel_rfl)) rfl ?_
      exact ⟨by rfl, by repeat ((with_reducible first | exact HB.out | refine below_set ?_ GE133.out))⟩
  · replace c5 := Bool.eq_false_iff.mpr c5
    subst c5
    have H1 : (some (0, 0, 0, 2)) = some (r1, r2, r3, r4) := by rw [if_neg (show ¬ (false = true) by decide)] at H; exact H
    clear H
    have H := H1
    clear H1
    simp only [Option.some.injEq, Prod.mk.injEq] at H
    obtain ⟨rfl, rfl, rfl, rfl⟩ := H
    go_enter Tryd.func33, Tryd.ntmps33
    go_wp2_with (first | ((with_reducible refine gate_dst (N := 4) rfl ?_); refine box_event ?hg (N := 4) ?hd (cs := #[.int .u64 0, .int .i64 0, .int .i64 0]) (t := 60) ?hr ?_; (case hd => rfl); (case hg => rfl); (case hr => (go_simp; done)); intro gb133 hg w16 hbox hb; replace BK133 := Aside0.mk (hbox); replace GE133 := Aside0.mk (ge_of HB.out hg); replace HB := Aside0.mk (below_step HB.out hb); clear hb hbox hg) | ((with_reducible refine gate_callee (f := 18) rfl ?_); refine goesL_ (some 12) rfl rfl Tryd.func18 (by kernel_rfl) rfl #[.int .u64 a1] rfl (by (try simp only [List.map_toArray, List.map_cons, List.map_nil]); rfl) ?_; (with_reducible refine (far_Landing.calls (gb := gb) a1 t134 t135 _ ?side1 A3.out).mono ?_); (case side1 => exact Glob.below HG.out HB.out); rintro e w17 ⟨rfl, hb⟩; refine ⟨_, rfl, ?_⟩; replace BK133 := Aside0.mk (blk_below BK133.out hb); replace HB := Aside0.mk (below_step HB.out hb); (try clear hb)) | ((with_reducible refine gate_callee (f := 32) rfl ?_); refine goesL_ (some 19) rfl rfl Tryd.func32 (by kernel_rfl) rfl #[.slice A0 l0.length c0, .int .i64 t134, .int .i64 t135] rfl (by (try simp only [List.map_toArray, List.map_cons, List.map_nil]); rfl) ?_; (with_reducible refine (arena_Word.calls _ _ l0 t134 t135 t136 false _ ?side1 ?side2 A4.out).mono ?_); (case side1 => repeat ((exact (Kd.C_below HR0.out HB.out)))); (case side2 => exact HC0.out); rintro e w' ⟨rfl, ⟨nd, rfl⟩⟩; refine ⟨_, rfl, ?_⟩; (try (rw [drewN_self w17]; generalize hq_ : World.drewN w17 _ = w17; replace BK133 := Aside0.mk (blk_q BK133.out hq_); replace HB := Aside0.mk (below_q HB.out hq_); clear hq_)); have hcz18_0 : w17.cell? ⟨gb133, 0, none⟩ = some (.int .u64 0) := (blk_cell BK133.out 0).trans rfl; have hcz18_1 : w17.cell? ⟨gb133, 1, none⟩ = some (.int .i64 0) := (blk_cell BK133.out 1).trans rfl; have hcz18_2 : w17.cell? ⟨gb133, 2, none⟩ = some (.int .i64 0) := (blk_cell BK133.out 2).trans rfl; have hfz18_0 := blk_frozen BK133.out 0; have hfz18_1 := blk_frozen BK133.out 1; have hfz18_2 := blk_frozen BK133.out 2))
    refine bodyPost_ret (results_ct rfl _ _ gb133 60 #[.int .u64 0, .int .i64 0, .int .i64 0] (0, 0) _ rfl (by refine blk_put (cs := #[.int .u64 0, .int .i64 0, .int .i64 0]) ?_ 2 _ rfl; refine blk_put (cs := #[.int .u64 0, .int .i64 0, .int .i64 0]) ?_ 1 _ rfl; refine blk_put (cs := #[.int .u64 0, .int .i64 0, .int .i64 0]) ?_ 0 _ rfl; exact BK133.out) Tryd.underlying60 rfl (by kernel_rfl)) rfl ?_
    exact ⟨by rfl, by repeat ((with_reducible first | exact HB.out | refine below_set ?_ GE133.out))⟩

end Go.Proofs.YtcjhejopcghgnaaDoor.P

namespace Go.Proofs.YtcjhejopcghgnaaDoor.P
open Go.RowKit Go.Proofs.YtcjhejopcghgnaaDoorW.PrintWords Go.Proofs.YtcjhejopcghgnaaDoorW.PrintLast Go.Proofs.YtcjhejopcghgnaaDoorW.PrintMore
attribute [local go_sem] max2_int min2_int max_two min_two max_three min_three max_four min_four   -- for this text's walks alone
set_option linter.unusedVariables false
set_option linter.unusedSimpArgs false

variable {gb : Bool}
/-! ### arena_Slice: function 48 -/
def arena_Slice.f (l0 : List (List Int)) (a1 a2 a3 : Int) : Option (List Int × Bool) := (arena_InBounds.f l0 a1 a2 a3).bind fun t => if t = true then (if 0 ≤ a1 ∧ a1 < (l0.length : Int) ∧ 0 ≤ a2 ∧ 0 ≤ a3 ∧ a2 + a3 ≤ ((rd_L5 l0 a1).length : Int) ∧ a3 < 17592186044416 then some (((rd_L5 l0 a1).drop a2.toNat).take a3.toNat, true) else none) else some ([], false)
set_option maxHeartbeats 1600000 in
set_option maxRecDepth 100000 in
theorem arena_Slice.calls (A0 : Option Addr) (c0 : Nat) (l0 : List (List Int)) (a1 a2 a3 : Int) (r1 : List Int) (r2 : Bool) (w : World) (hr0 : Kd.C (Kd.slice 23 (Kd.int .u64)) w A0 l0.length l0) (hc0 : l0.length ≤ c0) (h : arena_Slice.f l0 a1 a2 a3 = some (r1, r2)) :
    Calls Tryd.prog 48 #[.slice A0 l0.length c0, .int .i64 a1, .int .i64 a2, .int .i64 a3] w fun e w' => ∃ v0_ : Value, e = .returned (.tuple #[v0_, .bool r2]) ∧ Kd.R (Kd.int .u64) 23 w' w.heap.size (fun _ => True) v0_ r1 ∧ Below w.heap.size w w' := by
  have HR0 := Aside0.mk hr0
  have HC0 := Aside0.mk hc0
  clear hr0 hc0
  unfold arena_Slice.f at h
  obtain ⟨t, ht, h⟩ := Option.bind_eq_some_iff.mp h
  have Ht := Aside0.mk ht
  clear ht
  cases t
  · simp only [Bool.false_eq_true, if_false, Option.some.injEq, Prod.mk.injEq] at h
    obtain ⟨rfl, rfl⟩ := h
    go_enter Tryd.func48, Tryd.ntmps48
    go_wp2_with fail
    refine (arena_InBounds.calls _ _ _ _ _ _ _ _ HR0.out HC0.out Ht.out).mono ?_
    rintro e w1 ⟨rfl, hd⟩
    have HB := Aside0.mk hd.below
    clear hd
    go_wp2
    go_ret2
    exact ⟨_, by rfl, Kd.R_nil _ _ _ _ _, HB.out⟩
  · rw [if_pos rfl] at h
    split at h
    · rename_i hc
      obtain ⟨h1, h2, h3, h4, h5, h6⟩ := hc
      simp only [Option.some.injEq, Prod.mk.injEq] at h
      obtain ⟨rfl, rfl⟩ := h
      obtain ⟨m, rfl⟩ := Int.eq_ofNat_of_zero_le h4
      obtain ⟨i, rfl⟩ := Int.eq_ofNat_of_zero_le h1
      obtain ⟨b, rfl⟩ := Int.eq_ofNat_of_zero_le h3
      obtain ⟨ad, A1, c1, rfl, hcell, hle, hC⟩ := at_L5 HR0.out i h1 h2
      have HC := Aside0.mk hC
      clear hC
      obtain ⟨io, hio, _, hsz, _⟩ := info_parts info23
      have hcut := cut_from (P := Tryd.prog) 40 23 .i64 Tryd.underlying40 hio 1 hsz A1 (rd_L5 l0 i).length c1 b (by omega) (by omega)
      have hD := Kd.C_drop (c := c1) HC.out (show b ≤ (rd_L5 l0 i).length by omega) hle
      have hm : m ≤ ((rd_L5 l0 i).drop b).length := by rw [List.length_drop]; omega
      rw [show ((b : Int).toNat * 1) = b * (Kd.int .u64).sz from rfl, Int.toNat_natCast] at hcut
      generalize hA2 : (if c1 = b then A1 else Option.map (fun x => x.add (b * (Kd.int IntKind.u64).sz)) A1) = A2 at hcut hD
      have hl : (rd_L5 l0 i).length - b = ((rd_L5 l0 i).drop b).length := List.length_drop.symm
      rw [hl] at hcut
      generalize hy : (rd_L5 l0 i).drop b = ys at hcut hD hm
      generalize hn : ys.length = n2 at hcut hD hm
      have HD := Aside0.mk hD
      have HM := Aside0.mk (show m < 17592186044416 ∧ m ≤ n2 by omega)
      have HY := Aside0.mk hy
      clear hl hD hA2 hy hn hm
      clear h5 h6 h1 h3 h4 h
      go_enter Tryd.func48, Tryd.ntmps48
      go_wp2_with fail
      refine (arena_InBounds.calls _ _ _ _ _ _ _ _ HR0.out HC0.out Ht.out).mono ?_
      rintro e w1 ⟨rfl, hd⟩
      have HB := Aside0.mk hd.below
      have hs1 := HB.out.size
      clear hd
      go_wp2_with ((with_reducible refine gate_dst (N := 18) rfl ?_); refine Kd.R_make (Kd.int .u64) w.heap.size 23 rfl (N := 18) rfl 40 _ _ rfl m rfl rfl Tryd.underlying40 (.int .u64 0) 8 info23 rfl (by decide) (by omega) 0 (ok := fun _ => True) (okp := fun _ => False) rfl (fun _ hk => hk.elim) trivial (by omega) (by have := HM.out.1; omega) HB.out hs1 ?_)
      intro v1 w2 hR hB2 hg2 hb2 _ _
      have hs2 := hB2.size
      have hc2 := (hB2.cell (p := ad.add i) (by have := World.block_lt_of_cell? _ _ hcell; simpa using this)).trans hcell
      go_wp2_with ((with_reducible refine gate_dst (N := 26) rfl ?_); refine Kd.R_copy (P := Tryd.prog) (h1 := fun _ => rfl) 0 w.heap.size rfl (.tmp 19) (.tmp 25) 40 40 23 rfl Tryd.underlying40 (by kernel_rfl) _ _ _ _ _ _ (fun _ => True) rfl rfl hR (Kd.C_below HD.out hB2) hB2 hs2 ?_)
      intro w3 hR3 hB3 _
      have HR3 := Aside0.mk hR3
      have HB3 := Aside0.mk hB3
      clear hR3 hB3 hR hB2 hg2
      go_wp2
      go_ret2
      refine ⟨_, by rfl, ?_, HB3.out⟩
      have hr := HR3.out
      rw [show min n2 m = m by have := HM.out; omega, Nat.sub_self, List.replicate_zero, List.append_nil] at hr
      rw [show ((b : Nat) : Int).toNat = b from rfl, show ((m : Nat) : Int).toNat = m from rfl, HY.out]
      exact hr
    · exact absurd h (by simp)

end Go.Proofs.YtcjhejopcghgnaaDoor.P

namespace Go.Proofs.YtcjhejopcghgnaaDoor.P
open Go.RowKit Go.Proofs.YtcjhejopcghgnaaDoorW.PrintWords Go.Proofs.YtcjhejopcghgnaaDoorW.PrintLast Go.Proofs.YtcjhejopcghgnaaDoorW.PrintMore
attribute [local go_sem] max2_int min2_int max_two min_two max_three min_three max_four min_four   -- for this text's walks alone
set_option linter.unusedVariables false
set_option linter.unusedSimpArgs false

variable {gb : Bool}
/-! ### far_double: function 35 -/
def far_double.f (l0 : List (List Int)) (a1 : Int) : Option (Int × Int × Int × Int) := (far_Landing.f a1).bind fun bt140 => ((arena_Slice.f l0 bt140.1 bt140.2 2).bind fun bt142 => (if bt142.2 = true then (if 0 < (bt142.1.length : Int) then ((pointer_Decode.f (rd bt142.1 0)).bind fun bt147 => (if 1 < (bt142.1.length : Int) then ((pointer_Decode.f (rd bt142.1 1)).bind fun bt158 => (if bt147.1 = 2 then (if bt147.2.2.2.2.2.2.1 = true then (some (0, 0, 0, 3)) else (if bt158.1 > 1 then (some (0, 0, 0, 3)) else (if bt158.2.1 = 0 then (some (rd bt142.1 1, wrap64 (bt147.2.2.2.2.2.2.2.2.1), bt147.2.2.2.2.2.2.2.1, 0)) else (some (0, 0, 0, 3))))) else (some (0, 0, 0, 3)))) else (none))) else (none)) else (some (0, 0, 0, 2))))
def far_double.T5 : Bool × List (List Nat × List Nat) := (true, [([], []), ([0], [0]), ([1], [1]), ([2], [2]), ([], []), ([4], [4]), ([5], [5]), ([6, 3], [6]), ([], []), ([], []), ([8, 3, 7, 0, 1, 2, 3, 8, 9], [3, 8]), ([9, 7, 10, 0, 1, 2, 3, 4, 5, 6, 7, 8, 9, 10], [7, 9])])
def far_double.B5 : List Nat := [0, 1, 3, 7, 0, 16, 48, 127, 0, 0, 1023, 2047]
theorem far_double.tab5 : rtab .any (opsOf Tryd.f35 5) = far_double.T5 := by kernel_rfl
theorem far_double.bits5 : waitsOk far_double.T5.2 far_double.B5 = true := by kernel_rfl
def far_double.T8 : Bool × List (List Nat × List Nat) := (true, [([], []), ([0], [0]), ([1], [1]), ([], []), ([3], [3]), ([4], [4]), ([], []), ([6], [6]), ([2, 5, 7], [2, 5, 7]), ([8, 0, 1, 2, 3, 4, 5, 6, 7, 8], [8]), ([9, 0, 1, 2, 3, 4, 5, 6, 7, 8, 9], [])])
def far_double.B8 : List Nat := [0, 1, 3, 0, 8, 24, 0, 64, 255, 511, 1023]
theorem far_double.tab8 : rtab .any (opsOf Tryd.f35 8) = far_double.T8 := by kernel_rfl
theorem far_double.bits8 : waitsOk far_double.T8.2 far_double.B8 = true := by kernel_rfl
set_option maxHeartbeats 8000000 in
set_option maxRecDepth 100000 in
theorem far_double.calls (A0 : Option Addr) (c0 : Nat) (l0 : List (List Int)) (a1 r1 r2 r3 r4 : Int) (w : World) (hG : Glob gb w) (hr0 : Kd.C (Kd.slice 23 (Kd.int .u64)) w A0 l0.length l0) (hc0 : l0.length ≤ c0) (h : far_double.f l0 a1 = some (r1, r2, r3, r4)) :
    Calls Tryd.prog 35 #[.slice A0 l0.length c0, .int .u64 a1] w fun e w' => e = .returned (.tuple #[.agg #[.int .u64 r1, .int .i64 r2, .int .i64 r3], .int .i64 r4]) ∧ Below w.heap.size w w' := by
  have HG := Aside0.mk hG
  clear hG
  have HR0 := Aside0.mk hr0
  have HC0 := Aside0.mk hc0
  clear hr0 hc0
  have HB := Aside0.mk (Below.refl w.heap.size w)
  have H := h
  unfold far_double.f at H
  clear h
  replace H := Option.bind_eq_some_iff.mp H
  obtain ⟨⟨t140, t141⟩, A30, H⟩ := H
  dsimp only at H
  have A3 := Aside0.mk A30
  clear A30
  replace H := Option.bind_eq_some_iff.mp H
  obtain ⟨⟨t142, t143⟩, A40, H⟩ := H
  dsimp only at H
  have A4 := Aside0.mk A40
  clear A40
  by_cases c5 : t143 = true
  · subst c5
    have H1 : (if 0 < (t142.length : Int) then ((pointer_Decode.f (rd t142 0)).bind fun bt147 => (if 1 < (t142.length : Int) then ((pointer_Decode.f (rd t142 1)).bind fun bt158 => (if bt147.1 = 2 then (if bt147.2.2.2.2.2.2.1 = true then (some (0, 0, 0, 3)) else (if bt158.1 > 1 then (some (0, 0, 0, 3)) else (if bt158.2.1 = 0 then (some (rd t142 1, wrap64 (bt147.2.2.2.2.2.2.2.2.1), bt147.2.2.2.2.2.2.2.1, 0)) else (some (0, 0, 0, 3))))) else (some (0, 0, 0, 3)))) else (none))) else (none)) = some (r1, r2, r3, r4) := by rw [if_pos rfl] at H; exact H
    clear H
    have H := H1
    clear H1
    by_cases c6 : 0 < (t142.length : Int)
    · rw [if_pos c6] at H
      have c6b0 : decide (0 < (t142.length : Int)) = true := decide_eq_true c6
      clear c6
      replace H := Option.bind_eq_some_iff.mp H
      obtain ⟨⟨t147, t148, t149, t150, t151, t152, t153, t154, t155, t156⟩, A70, H⟩ := H
      dsimp only at H
      have A7 := Aside0.mk A70
      clear A70
      by_cases c8 : 1 < (t142.length : Int)
      · rw [if_pos c8] at H
        have c8b0 : decide (1 < (t142.length : Int)) = true := decide_eq_true c8
        clear c8
        replace H := Option.bind_eq_some_iff.mp H
        obtain ⟨⟨t158, t159, t160, t161, t162, t163, t164, t165, t166, t167⟩, A90, H⟩ := H
        dsimp only at H
        have A9 := Aside0.mk A90
        clear A90
        have HAH := Aside0.mk H
        clear H
        go_enter Tryd.func35, Tryd.ntmps35
        try go_wp2_with (first | ((with_reducible refine gate_dst (N := 4) rfl ?_); refine box_event ?hg (N := 4) ?hd (cs := #[.int .u64 0, .int .i64 0, .int .i64 0]) (t := 60) ?hr ?_; (case hd => rfl); (case hg => rfl); (case hr => (go_simp; done)); intro gb139 hg w160 hbox hb; replace BK139 := Aside0.mk (hbox); replace GE139 := Aside0.mk (ge_of HB.out hg); replace HB := Aside0.mk (below_step HB.out hb); clear hb hbox hg) | ((with_reducible refine gate_callee (f := 18) rfl ?_); refine goesL_ (some 14) rfl rfl Tryd.func18 (by kernel_rfl) rfl #[.int .u64 a1] rfl (by (try simp only [List.map_toArray, List.map_cons, List.map_nil]); rfl) ?_; (with_reducible refine (far_Landing.calls (gb := gb) a1 t140 t141 _ ?side1 A3.out).mono ?_); (case side1 => exact Glob.below HG.out HB.out); rintro e w161 ⟨rfl, hb⟩; refine ⟨_, rfl, ?_⟩; replace BK139 := Aside0.mk (blk_below BK139.out hb); replace HB := Aside0.mk (below_step HB.out hb); (try clear hb)) | ((with_reducible refine gate_callee (f := 48) rfl ?_); refine goesL_ (some 21) rfl rfl Tryd.func48 (by kernel_rfl) rfl #[.slice A0 l0.length c0, .int .i64 t140, .int .i64 t141, .int .i64 2] rfl (by (try simp only [List.map_toArray, List.map_cons, List.map_nil]); rfl) ?_; (with_reducible refine (arena_Slice.calls _ _ l0 t140 t141 2 t142 true _ ?side1 ?side2 A4.out).mono ?_); (case side1 => repeat ((exact (Kd.C_below HR0.out HB.out)))); (case side2 => exact HC0.out); rintro e w162 ⟨v144, rfl, ho0, hb⟩; refine ⟨_, rfl, ?_⟩; replace HO145 := Aside0.mk (Kd.R_lower ho0 (below_size HB.out)); replace BK139 := Aside0.mk (blk_below BK139.out hb); replace HB := Aside0.mk (below_step HB.out hb); (try clear hb); (try clear ho0)))
        have n0_ := Aside0.mk (Kd.R_drew HO145.out)
        have n1_ := Aside0.mk (blk_drew BK139.out)
        have n2_ := Aside0.mk (below_drew1 HB.out)
        clear HO145
        clear BK139
        clear HB
        have HO145 := n0_
        have BK139 := n1_
        have HB := n2_
        (try clear n0_; try clear n1_; try clear n2_)
        obtain ⟨Ao164, co164, eo164⟩ := Kd.R_slice HO145.out
        (subst eo164)
        have p146 : 0 ≤ (0 : Int) := (by omega)
        have q146 : 0 < (t142.length : Int) := of_decide_eq_true (by (with_reducible assumption))
        obtain ⟨ad146, e146, hx146_0⟩ := Kd.at_int (Kd.R_reads' HO145.out).2.2 0 p146 q146
        cases e146
        have qi146 : (0 < t142.length) = True := eq_true (by omega)
        (try rw [show ((0 : Int)).toNat = 0 from rfl] at hx146_0)
        (try rw [Addr.add_zero'] at hx146_0)
        replace p146 := eq_true p146
        replace q146 := eq_true q146
        have p157 : 0 ≤ (1 : Int) := (by omega)
        have q157 : 1 < (t142.length : Int) := of_decide_eq_true (by (with_reducible assumption))
        obtain ⟨ad157, e157, hx157_0⟩ := Kd.at_int (Kd.R_reads' HO145.out).2.2 1 p157 q157
        obtain rfl : ad146 = ad157 := (by injection e157)
        (try simp only [show (1 : Int).toNat = 1 from rfl, Nat.reduceMul, Nat.reduceEqDiff, Go.Addr.add, ↓reduceIte] at hx157_0)
        (skip)
        replace p157 := eq_true p157
        replace q157 := eq_true q157
        refine start_ (n := 12) (S := fun w' => True) (ds := []) #[false, false, false, false, false, false, false, false, false, false, false, false] (by kernel_rfl) rfl rfl trivial (fun hHeld => ?_); refine with_tabW far_double.tab5 far_double.bits5 (fun HT_ HW_ => ?_)
        generalize w162.drew = w163 at HO145 BK139 HB hx146_0 hx157_0 hHeld ⊢
        refine pure_ (i := 0) (N := some 27) (v := ?_) (a' := ?_) #[true, false, false, false, false, false, false, false, false, false, false, false] rfl rfl (any_of HT_.out (by kernel_rfl)) (fun _ _ _ h => h) (Or.inl ⟨by rfl, ?_⟩) ?_ ?_
        rotate_left
        · intro w'
          go_simp
          with_reducible rfl
        rotate_left
        · simp only [Act.put, List.setIfInBounds_toArray, List.set_cons_zero, List.set_cons_succ, i64_w, i32_w]
          rfl
        refine pure_ (i := 4) (N := some 31) (v := ?_) (a' := ?_) #[true, false, false, false, true, false, false, false, false, false, false, false] rfl rfl (any_of HT_.out (by kernel_rfl)) (fun _ _ _ h => h) (Or.inl ⟨by rfl, ?_⟩) ?_ ?_
        rotate_left
        · intro w'
          go_simp
          with_reducible rfl
        rotate_left
        · simp only [Act.put, List.setIfInBounds_toArray, List.set_cons_zero, List.set_cons_succ, i64_w, i32_w]
          rfl
        refine inv_at [1, 2, 3, 5, 6, 7, 8, 9, 10, 11] (fun a0_ b a w' => ∃ (gb168 gb169 : Nat) (m8_ : Value) (m9_ : Value), a = putSel a0_ b [(1, 28, .pointer (some ad146)), (2, 29, .int .u64 (rd t142 0)), (3, 30, .agg #[.int .i64 t147, .int .i64 t148, .int .i64 t149, .int .i64 t150, .int .i64 t151, .int .i64 t152, .bool t153, .int .i64 t154, .int .u32 t155, .int .u32 t156]), (5, 32, .pointer (some (ad146.add 1))), (6, 33, .int .u64 (rd t142 1)), (7, 34, .agg #[.int .i64 t158, .int .i64 t159, .int .i64 t160, .int .i64 t161, .int .i64 t162, .int .i64 t163, .bool t164, .int .i64 t165, .int .u32 t166, .int .u32 t167]), (8, 10, m8_), (9, 11, m9_)] ∧ (Kd.R (Kd.int .u64) 23 w' w.heap.size (fun _ => True) (.slice (some ad146) t142.length co164) t142) ∧ (w'.heap[gb139]? = some (.cells #[.int .u64 0, .int .i64 0, .int .i64 0] 60 (0, 0))) ∧ (Below w.heap.size w w') ∧ (b 8 = true → b 9 = true → gb169 ≠ gb168) ∧ (b 8 = true → b 9 = true → gb168 ≠ gb169) ∧ (b 8 = true → b 10 = false → w'.heap[gb168]? = some (.cells #[.int .i64 0, .int .i64 0, .int .i64 0, .int .i64 0, .int .i64 0, .int .i64 0, .bool false, .int .i64 0, .int .u32 0, .int .u32 0] 39 (0, 0))) ∧ (b 8 = true → w.heap.size ≤ gb168) ∧ (b 8 = true → w.heap.size ≤ gb168) ∧ (b 8 = true → gb139 ≠ gb168) ∧ (b 8 = true → gb168 ≠ gb139) ∧ (b 9 = true → b 11 = false → w'.heap[gb169]? = some (.cells #[.int .i64 0, .int .i64 0, .int .i64 0, .int .i64 0, .int .i64 0, .int .i64 0, .bool false, .int .i64 0, .int .u32 0, .int .u32 0] 39 (0, 0))) ∧ (b 9 = true → w.heap.size ≤ gb169) ∧ (b 9 = true → w.heap.size ≤ gb169) ∧ (b 9 = true → gb139 ≠ gb169) ∧ (b 9 = true → gb169 ≠ gb139) ∧ (b 10 = true → w'.heap[gb168]? = some (.cells #[.int .i64 t147, .int .i64 t148, .int .i64 t149, .int .i64 t150, .int .i64 t151, .int .i64 t152, .bool t153, .int .i64 t154, .int .u32 t155, .int .u32 t156] 39 (0, 0))) ∧ (b 11 = true → w'.heap[gb169]? = some (.cells #[.int .i64 t158, .int .i64 t159, .int .i64 t160, .int .i64 t161, .int .i64 t162, .int .i64 t163, .bool t164, .int .i64 t165, .int .u32 t166, .int .u32 t167] 39 (0, 0))) ∧ (b 8 = true → (m8_ : Value) = .pointer (some ⟨gb168, 0, none⟩)) ∧ (b 9 = true → (m9_ : Value) = .pointer (some ⟨gb169, 0, none⟩))) HT_.out HW_.out (by kernel_rfl) (by kernel_rfl) ?_ ?_ ?_
        · exact ⟨0, 0, .bool false, .bool false, by simp only [putSel, Bool.false_eq_true, if_false], HO145.out, BK139.out, HB.out, fun h_ => absurd h_ (by decide), fun h_ => absurd h_ (by decide), fun h_ => absurd h_ (by decide), fun h_ => absurd h_ (by decide), fun h_ => absurd h_ (by decide), fun h_ => absurd h_ (by decide), fun h_ => absurd h_ (by decide), fun h_ => absurd h_ (by decide), fun h_ => absurd h_ (by decide), fun h_ => absurd h_ (by decide), fun h_ => absurd h_ (by decide), fun h_ => absurd h_ (by decide), fun h_ => absurd h_ (by decide), fun h_ => absurd h_ (by decide), fun h_ => absurd h_ (by decide), fun h_ => absurd h_ (by decide)⟩
        · skip
          clear BK139 HB HO145
          refine steps_cons ?_ ?_
          · rintro b a w' ⟨gb168, gb169, m8_, m9_, ha, Q_HO145, Q_BK139, Q_HB, Q_NB169_168, Q_NB168_169, Q_BK168, Q_GW168, Q_GE168, Q_NB139_168, Q_NB168_139, Q_BK169, Q_GW169, Q_GE169, Q_NB139_169, Q_NB169_139, Q_BK168_e10, Q_BK169_e11, Q_X8_, Q_X9_⟩ hb_ hon hoff
            refine ⟨_, rfl, fun K hK => ?_⟩
            have e27 : a.tmps[27]? = some (.slice (some ad146) t142.length co164) := by rw [ha]; exact (putSel_off rfl).trans rfl
            replace ha := Aside0.mk ha
            have HO145 := Aside0.mk Q_HO145
            have BK139 := Aside0.mk Q_BK139
            have HB := Aside0.mk Q_HB
            refine value_ (w1 := w') (v := .pointer (some ad146)) (by rfl) rfl ?_ ?_
            · go_simp
              (skip)
              skip
            refine hK.out _ _ ⟨gb168, gb169, m8_, m9_, (by rw [ha.out]; exact putSel_upk 0 hb_ rfl rfl rfl), Q_HO145, Q_BK139, Q_HB, Q_NB169_168, Q_NB168_169, Q_BK168, Q_GW168, Q_GE168, Q_NB139_168, Q_NB168_139, Q_BK169, Q_GW169, Q_GE169, Q_NB139_169, Q_NB169_139, fun h0_ => absurd ((hoff 10 (by kernel_rfl)).symm.trans h0_) (by decide), fun h0_ => absurd ((hoff 11 (by kernel_rfl)).symm.trans h0_) (by decide), Q_X8_, Q_X9_⟩
          refine steps_cons ?_ ?_
          · rintro b a w' ⟨gb168, gb169, m8_, m9_, ha, Q_HO145, Q_BK139, Q_HB, Q_NB169_168, Q_NB168_169, Q_BK168, Q_GW168, Q_GE168, Q_NB139_168, Q_NB168_139, Q_BK169, Q_GW169, Q_GE169, Q_NB139_169, Q_NB169_139, Q_BK168_e10, Q_BK169_e11, Q_X8_, Q_X9_⟩ hb_ hon hoff
            refine ⟨_, rfl, fun K hK => ?_⟩
            have e28 : a.tmps[28]? = some (.pointer (some ad146)) := by rw [ha]; exact putSel_on (e := (1, 28, .pointer (some ad146))) 0 rfl rfl (hon 1 (by kernel_rfl)) rfl
            replace ha := Aside0.mk ha
            have HO145 := Aside0.mk Q_HO145
            have BK139 := Aside0.mk Q_BK139
            have HB := Aside0.mk Q_HB
            obtain ⟨ad146_z, e146_z, hx146_0_z⟩ := Kd.at_int (Kd.R_reads' HO145.out).2.2 0 (of_eq_true p146) (of_eq_true q146)
            cases e146_z
            have hs0_ : w'.cell? ad146 = some (.int .u64 (rd t142 0)) := hx146_0_z
            refine value_ (w1 := w') (v := .int .u64 (rd t142 0)) (by rfl) rfl ?_ ?_
            · go_simp
              (skip)
              skip
            refine hK.out _ _ ⟨gb168, gb169, m8_, m9_, (by rw [ha.out]; exact putSel_upk 1 hb_ rfl rfl rfl), Q_HO145, Q_BK139, Q_HB, Q_NB169_168, Q_NB168_169, Q_BK168, Q_GW168, Q_GE168, Q_NB139_168, Q_NB168_139, Q_BK169, Q_GW169, Q_GE169, Q_NB139_169, Q_NB169_139, fun h0_ => absurd ((hoff 10 (by kernel_rfl)).symm.trans h0_) (by decide), fun h0_ => absurd ((hoff 11 (by kernel_rfl)).symm.trans h0_) (by decide), Q_X8_, Q_X9_⟩
          refine steps_cons ?_ ?_
          · rintro b a w' ⟨gb168, gb169, m8_, m9_, ha, Q_HO145, Q_BK139, Q_HB, Q_NB169_168, Q_NB168_169, Q_BK168, Q_GW168, Q_GE168, Q_NB139_168, Q_NB168_139, Q_BK169, Q_GW169, Q_GE169, Q_NB139_169, Q_NB169_139, Q_BK168_e10, Q_BK169_e11, Q_X8_, Q_X9_⟩ hb_ hon hoff
            refine ⟨_, rfl, fun K hK => ?_⟩
            have e29 : a.tmps[29]? = some (.int .u64 (rd t142 0)) := by rw [ha]; exact putSel_on (e := (2, 29, .int .u64 (rd t142 0))) 1 rfl rfl (hon 2 (by kernel_rfl)) rfl
            replace ha := Aside0.mk ha
            have HO145 := Aside0.mk Q_HO145
            have BK139 := Aside0.mk Q_BK139
            have HB := Aside0.mk Q_HB
            refine goes_ Tryd.func34 (by kernel_rfl) rfl #[.int .u64 (rd t142 0)] (by rfl) rfl rfl (by (simp only [List.map_toArray, List.map_cons, List.map_nil, Act.eval, Array.getD_eq_getD_getElem?, Option.getD_some, e29]; done)) ?_
            with_reducible refine (pointer_Decode.calls (gb := gb) (rd t142 0) t147 t148 t149 t150 t151 t152 t153 t154 t155 t156 _ ?side1 A7.out).mono ?_
            (case side1 => exact Glob.below HG.out HB.out)
            rintro e w165 ⟨rfl, hb⟩
            refine ⟨_, rfl, ?_⟩
            have n0_ := Aside0.mk (Kd.R_below HO145.out hb)
            have n1_ := Aside0.mk (blk_below BK139.out hb)
            have n2_ := Aside0.mk (below_step HB.out hb)
            have z_BK168 := fun (h0_ : b 8 = true) (h1_ : b 10 = false) => (show w165.heap[gb168]? = some (.cells #[.int .i64 0, .int .i64 0, .int .i64 0, .int .i64 0, .int .i64 0, .int .i64 0, .bool false, .int .i64 0, .int .u32 0, .int .u32 0] 39 (0, 0)) from by (exact (blk_below (g := gb168) (o := .cells #[.int .i64 0, .int .i64 0, .int .i64 0, .int .i64 0, .int .i64 0, .int .i64 0, .bool false, .int .i64 0, .int .u32 0, .int .u32 0] 39 (0, 0)) (by exact (Q_BK168 h0_ h1_)) hb)))
            have z_BK169 := fun (h0_ : b 9 = true) (h1_ : b 11 = false) => (show w165.heap[gb169]? = some (.cells #[.int .i64 0, .int .i64 0, .int .i64 0, .int .i64 0, .int .i64 0, .int .i64 0, .bool false, .int .i64 0, .int .u32 0, .int .u32 0] 39 (0, 0)) from by (exact (blk_below (g := gb169) (o := .cells #[.int .i64 0, .int .i64 0, .int .i64 0, .int .i64 0, .int .i64 0, .int .i64 0, .bool false, .int .i64 0, .int .u32 0, .int .u32 0] 39 (0, 0)) (by exact (Q_BK169 h0_ h1_)) hb)))
            clear HO145
            clear BK139
            clear HB
            have HO145 := n0_
            have BK139 := n1_
            have HB := n2_
            (try clear n0_; try clear n1_; try clear n2_)
            (try clear hb)
            (skip)
            (skip)
            (skip)
            refine hK.out _ _ ⟨gb168, gb169, m8_, m9_, (by rw [ha.out]; exact putSel_upk 2 hb_ rfl rfl rfl), HO145.out, BK139.out, HB.out, Q_NB169_168, Q_NB168_169, z_BK168, Q_GW168, Q_GE168, Q_NB139_168, Q_NB168_139, z_BK169, Q_GW169, Q_GE169, Q_NB139_169, Q_NB169_139, fun h0_ => absurd ((hoff 10 (by kernel_rfl)).symm.trans h0_) (by decide), fun h0_ => absurd ((hoff 11 (by kernel_rfl)).symm.trans h0_) (by decide), Q_X8_, Q_X9_⟩
          refine steps_cons ?_ ?_
          · rintro b a w' ⟨gb168, gb169, m8_, m9_, ha, Q_HO145, Q_BK139, Q_HB, Q_NB169_168, Q_NB168_169, Q_BK168, Q_GW168, Q_GE168, Q_NB139_168, Q_NB168_139, Q_BK169, Q_GW169, Q_GE169, Q_NB139_169, Q_NB169_139, Q_BK168_e10, Q_BK169_e11, Q_X8_, Q_X9_⟩ hb_ hon hoff
            refine ⟨_, rfl, fun K hK => ?_⟩
            have e31 : a.tmps[31]? = some (.slice (some ad146) t142.length co164) := by rw [ha]; exact (putSel_off rfl).trans rfl
            replace ha := Aside0.mk ha
            have HO145 := Aside0.mk Q_HO145
            have BK139 := Aside0.mk Q_BK139
            have HB := Aside0.mk Q_HB
            refine value_ (w1 := w') (v := .pointer (some (ad146.add 1))) (by rfl) rfl ?_ ?_
            · go_simp
              (skip)
              skip
            refine hK.out _ _ ⟨gb168, gb169, m8_, m9_, (by rw [ha.out]; exact putSel_upk 3 hb_ rfl rfl rfl), Q_HO145, Q_BK139, Q_HB, Q_NB169_168, Q_NB168_169, Q_BK168, Q_GW168, Q_GE168, Q_NB139_168, Q_NB168_139, Q_BK169, Q_GW169, Q_GE169, Q_NB139_169, Q_NB169_139, fun h0_ => absurd ((hoff 10 (by kernel_rfl)).symm.trans h0_) (by decide), fun h0_ => absurd ((hoff 11 (by kernel_rfl)).symm.trans h0_) (by decide), Q_X8_, Q_X9_⟩
          refine steps_cons ?_ ?_
          · rintro b a w' ⟨gb168, gb169, m8_, m9_, ha, Q_HO145, Q_BK139, Q_HB, Q_NB169_168, Q_NB168_169, Q_BK168, Q_GW168, Q_GE168, Q_NB139_168, Q_NB168_139, Q_BK169, Q_GW169, Q_GE169, Q_NB139_169, Q_NB169_139, Q_BK168_e10, Q_BK169_e11, Q_X8_, Q_X9_⟩ hb_ hon hoff
            refine ⟨_, rfl, fun K hK => ?_⟩
            have e32 : a.tmps[32]? = some (.pointer (some (ad146.add 1))) := by rw [ha]; exact putSel_on (e := (5, 32, .pointer (some (ad146.add 1)))) 3 rfl rfl (hon 5 (by kernel_rfl)) rfl
            replace ha := Aside0.mk ha
            have HO145 := Aside0.mk Q_HO145
            have BK139 := Aside0.mk Q_BK139
            have HB := Aside0.mk Q_HB
            obtain ⟨ad157_z, e157_z, hx157_0_z⟩ := Kd.at_int (Kd.R_reads' HO145.out).2.2 1 (of_eq_true p157) (of_eq_true q157)
            cases e157_z
            have hs1_ : w'.cell? ⟨ad146.block, ad146.off + 1, none⟩ = some (.int .u64 (rd t142 1)) := hx157_0_z
            refine value_ (w1 := w') (v := .int .u64 (rd t142 1)) (by rfl) rfl ?_ ?_
            · go_simp
              (skip)
              skip
            refine hK.out _ _ ⟨gb168, gb169, m8_, m9_, (by rw [ha.out]; exact putSel_upk 4 hb_ rfl rfl rfl), Q_HO145, Q_BK139, Q_HB, Q_NB169_168, Q_NB168_169, Q_BK168, Q_GW168, Q_GE168, Q_NB139_168, Q_NB168_139, Q_BK169, Q_GW169, Q_GE169, Q_NB139_169, Q_NB169_139, fun h0_ => absurd ((hoff 10 (by kernel_rfl)).symm.trans h0_) (by decide), fun h0_ => absurd ((hoff 11 (by kernel_rfl)).symm.trans h0_) (by decide), Q_X8_, Q_X9_⟩
          refine steps_cons ?_ ?_
          · rintro b a w' ⟨gb168, gb169, m8_, m9_, ha, Q_HO145, Q_BK139, Q_HB, Q_NB169_168, Q_NB168_169, Q_BK168, Q_GW168, Q_GE168, Q_NB139_168, Q_NB168_139, Q_BK169, Q_GW169, Q_GE169, Q_NB139_169, Q_NB169_139, Q_BK168_e10, Q_BK169_e11, Q_X8_, Q_X9_⟩ hb_ hon hoff
            refine ⟨_, rfl, fun K hK => ?_⟩
            have e33 : a.tmps[33]? = some (.int .u64 (rd t142 1)) := by rw [ha]; exact putSel_on (e := (6, 33, .int .u64 (rd t142 1))) 4 rfl rfl (hon 6 (by kernel_rfl)) rfl
            replace ha := Aside0.mk ha
            have HO145 := Aside0.mk Q_HO145
            have BK139 := Aside0.mk Q_BK139
            have HB := Aside0.mk Q_HB
            refine goes_ Tryd.func34 (by kernel_rfl) rfl #[.int .u64 (rd t142 1)] (by rfl) rfl rfl (by (simp only [List.map_toArray, List.map_cons, List.map_nil, Act.eval, Array.getD_eq_getD_getElem?, Option.getD_some, e33]; done)) ?_
            with_reducible refine (pointer_Decode.calls (gb := gb) (rd t142 1) t158 t159 t160 t161 t162 t163 t164 t165 t166 t167 _ ?side1 A9.out).mono ?_
            (case side1 => exact Glob.below HG.out HB.out)
            rintro e w167 ⟨rfl, hb⟩
            refine ⟨_, rfl, ?_⟩
            have n0_ := Aside0.mk (Kd.R_below HO145.out hb)
            have n1_ := Aside0.mk (blk_below BK139.out hb)
            have n2_ := Aside0.mk (below_step HB.out hb)
            have z_BK168 := fun (h0_ : b 8 = true) (h1_ : b 10 = false) => (show w167.heap[gb168]? = some (.cells #[.int .i64 0, .int .i64 0, .int .i64 0, .int .i64 0, .int .i64 0, .int .i64 0, .bool false, .int .i64 0, .int .u32 0, .int .u32 0] 39 (0, 0)) from by (exact (blk_below (g := gb168) (o := .cells #[.int .i64 0, .int .i64 0, .int .i64 0, .int .i64 0, .int .i64 0, .int .i64 0, .bool false, .int .i64 0, .int .u32 0, .int .u32 0] 39 (0, 0)) (by exact (Q_BK168 h0_ h1_)) hb)))
            have z_BK169 := fun (h0_ : b 9 = true) (h1_ : b 11 = false) => (show w167.heap[gb169]? = some (.cells #[.int .i64 0, .int .i64 0, .int .i64 0, .int .i64 0, .int .i64 0, .int .i64 0, .bool false, .int .i64 0, .int .u32 0, .int .u32 0] 39 (0, 0)) from by (exact (blk_below (g := gb169) (o := .cells #[.int .i64 0, .int .i64 0, .int .i64 0, .int .i64 0, .int .i64 0, .int .i64 0, .bool false, .int .i64 0, .int .u32 0, .int .u32 0] 39 (0, 0)) (by exact (Q_BK169 h0_ h1_)) hb)))
            clear HO145
            clear BK139
            clear HB
            have HO145 := n0_
            have BK139 := n1_
            have HB := n2_
            (try clear n0_; try clear n1_; try clear n2_)
            (try clear hb)
            (skip)
            (skip)
            (skip)
            refine hK.out _ _ ⟨gb168, gb169, m8_, m9_, (by rw [ha.out]; exact putSel_upk 5 hb_ rfl rfl rfl), HO145.out, BK139.out, HB.out, Q_NB169_168, Q_NB168_169, z_BK168, Q_GW168, Q_GE168, Q_NB139_168, Q_NB168_139, z_BK169, Q_GW169, Q_GE169, Q_NB139_169, Q_NB169_139, fun h0_ => absurd ((hoff 10 (by kernel_rfl)).symm.trans h0_) (by decide), fun h0_ => absurd ((hoff 11 (by kernel_rfl)).symm.trans h0_) (by decide), Q_X8_, Q_X9_⟩
          refine steps_cons ?_ ?_
          · rintro b a w' ⟨gb168, gb169, m8_, m9_, ha, Q_HO145, Q_BK139, Q_HB, Q_NB169_168, Q_NB168_169, Q_BK168, Q_GW168, Q_GE168, Q_NB139_168, Q_NB168_139, Q_BK169, Q_GW169, Q_GE169, Q_NB139_169, Q_NB169_139, Q_BK168_e10, Q_BK169_e11, Q_X8_, Q_X9_⟩ hb_ hon hoff
            refine ⟨_, rfl, fun K hK => ?_⟩
            replace ha := Aside0.mk ha
            have HO145 := Aside0.mk Q_HO145
            have BK139 := Aside0.mk Q_BK139
            have HB := Aside0.mk Q_HB
            refine box_step ?hg (N := 10) ?hd (cs := #[.int .i64 0, .int .i64 0, .int .i64 0, .int .i64 0, .int .i64 0, .int .i64 0, .bool false, .int .i64 0, .int .u32 0, .int .u32 0]) (t := 39) ?hr ?_; (case hd => rfl); (case hg => rfl); (case hr => (go_simp; done))
            intro gb168 hg w165 hbox hb
            have n0_ := Aside0.mk (Kd.R_below HO145.out hb)
            have n1_ := Aside0.mk (blk_below BK139.out hb)
            have n2_ := Aside0.mk (below_step HB.out hb)
            have n3_ := Aside0.mk (hbox)
            have n4_ := Aside0.mk (ge_of HB.out hg)
            have n5_ := Aside0.mk (ge_of HB.out hg)
            have n6_ := Aside0.mk (ne_l BK139.out hg)
            have n7_ := Aside0.mk (ne_r BK139.out hg)
            have z_NB169_168 := fun (h0_ : up b 8 8 = true) (h1_ : up b 8 9 = true) => (show gb169 ≠ gb168 from ((by rw [hg]; exact Nat.ne_of_lt (blk_lt (g := gb169) (o := .cells #[.int .i64 0, .int .i64 0, .int .i64 0, .int .i64 0, .int .i64 0, .int .i64 0, .bool false, .int .i64 0, .int .u32 0, .int .u32 0] 39 (0, 0)) (by exact (Q_BK169 (show b 9 = true from h1_) (hoff 11 (by kernel_rfl))))) : gb169 ≠ gb168)))
            have z_NB168_169 := fun (h0_ : up b 8 8 = true) (h1_ : up b 8 9 = true) => (show gb168 ≠ gb169 from ((by rw [hg]; exact Nat.ne_of_gt (blk_lt (g := gb169) (o := .cells #[.int .i64 0, .int .i64 0, .int .i64 0, .int .i64 0, .int .i64 0, .int .i64 0, .bool false, .int .i64 0, .int .u32 0, .int .u32 0] 39 (0, 0)) (by exact (Q_BK169 (show b 9 = true from h1_) (hoff 11 (by kernel_rfl))))) : gb168 ≠ gb169)))
            have z_BK169 := fun (h0_ : b 9 = true) (h1_ : b 11 = false) => (show w165.heap[gb169]? = some (.cells #[.int .i64 0, .int .i64 0, .int .i64 0, .int .i64 0, .int .i64 0, .int .i64 0, .bool false, .int .i64 0, .int .u32 0, .int .u32 0] 39 (0, 0)) from by (exact (blk_below (g := gb169) (o := .cells #[.int .i64 0, .int .i64 0, .int .i64 0, .int .i64 0, .int .i64 0, .int .i64 0, .bool false, .int .i64 0, .int .u32 0, .int .u32 0] 39 (0, 0)) (by exact (Q_BK169 h0_ h1_)) hb)))
            clear HO145
            clear BK139
            clear HB
            have HO145 := n0_
            have BK139 := n1_
            have HB := n2_
            have BK168 := n3_
            have GW168 := n4_
            have GE168 := n5_
            have NB139_168 := n6_
            have NB168_139 := n7_
            (try clear n0_; try clear n1_; try clear n2_; try clear n3_; try clear n4_; try clear n5_; try clear n6_; try clear n7_)
            clear hb hbox hg
            refine hK.out _ _ ⟨gb168, gb169, (.pointer (some ⟨gb168, 0, none⟩)), m9_, (by rw [ha.out]; exact putSel_upk 6 hb_ rfl rfl rfl), HO145.out, BK139.out, HB.out, z_NB169_168, z_NB168_169, fun _ _ => BK168.out, fun _ => GW168.out, fun _ => GE168.out, fun _ => NB139_168.out, fun _ => NB168_139.out, z_BK169, Q_GW169, Q_GE169, Q_NB139_169, Q_NB169_139, fun h0_ => absurd ((hoff 10 (by kernel_rfl)).symm.trans h0_) (by decide), fun h0_ => absurd ((hoff 11 (by kernel_rfl)).symm.trans h0_) (by decide), fun _ => rfl, Q_X9_⟩
          refine steps_cons ?_ ?_
          · rintro b a w' ⟨gb168, gb169, m8_, m9_, ha, Q_HO145, Q_BK139, Q_HB, Q_NB169_168, Q_NB168_169, Q_BK168, Q_GW168, Q_GE168, Q_NB139_168, Q_NB168_139, Q_BK169, Q_GW169, Q_GE169, Q_NB139_169, Q_NB169_139, Q_BK168_e10, Q_BK169_e11, Q_X8_, Q_X9_⟩ hb_ hon hoff
            refine ⟨_, rfl, fun K hK => ?_⟩
            replace ha := Aside0.mk ha
            have HO145 := Aside0.mk Q_HO145
            have BK139 := Aside0.mk Q_BK139
            have HB := Aside0.mk Q_HB
            refine box_step ?hg (N := 11) ?hd (cs := #[.int .i64 0, .int .i64 0, .int .i64 0, .int .i64 0, .int .i64 0, .int .i64 0, .bool false, .int .i64 0, .int .u32 0, .int .u32 0]) (t := 39) ?hr ?_; (case hd => rfl); (case hg => rfl); (case hr => (go_simp; done))
            intro gb169 hg w165 hbox hb
            have n0_ := Aside0.mk (Kd.R_below HO145.out hb)
            have n1_ := Aside0.mk (blk_below BK139.out hb)
            have n2_ := Aside0.mk (below_step HB.out hb)
            have n3_ := Aside0.mk (hbox)
            have n4_ := Aside0.mk (ge_of HB.out hg)
            have n5_ := Aside0.mk (ge_of HB.out hg)
            have n6_ := Aside0.mk (ne_l BK139.out hg)
            have n7_ := Aside0.mk (ne_r BK139.out hg)
            have z_NB169_168 := fun (h0_ : up b 9 8 = true) (h1_ : up b 9 9 = true) => (show gb169 ≠ gb168 from ((by rw [hg]; exact Nat.ne_of_gt (blk_lt (g := gb168) (o := .cells #[.int .i64 0, .int .i64 0, .int .i64 0, .int .i64 0, .int .i64 0, .int .i64 0, .bool false, .int .i64 0, .int .u32 0, .int .u32 0] 39 (0, 0)) (by exact (Q_BK168 (show b 8 = true from h0_) (hoff 10 (by kernel_rfl))))) : gb169 ≠ gb168)))
            have z_NB168_169 := fun (h0_ : up b 9 8 = true) (h1_ : up b 9 9 = true) => (show gb168 ≠ gb169 from ((by rw [hg]; exact Nat.ne_of_lt (blk_lt (g := gb168) (o := .cells #[.int .i64 0, .int .i64 0, .int .i64 0, .int .i64 0, .int .i64 0, .int .i64 0, .bool false, .int .i64 0, .int .u32 0, .int .u32 0] 39 (0, 0)) (by exact (Q_BK168 (show b 8 = true from h0_) (hoff 10 (by kernel_rfl))))) : gb168 ≠ gb169)))
            have z_BK168 := fun (h0_ : b 8 = true) (h1_ : b 10 = false) => (show w165.heap[gb168]? = some (.cells #[.int .i64 0, .int .i64 0, .int .i64 0, .int .i64 0, .int .i64 0, .int .i64 0, .bool false, .int .i64 0, .int .u32 0, .int .u32 0] 39 (0, 0)) from by (exact (blk_below (g := gb168) (o := .cells #[.int .i64 0, .int .i64 0, .int .i64 0, .int .i64 0, .int .i64 0, .int .i64 0, .bool false, .int .i64 0, .int .u32 0, .int .u32 0] 39 (0, 0)) (by exact (Q_BK168 h0_ h1_)) hb)))
            clear HO145
            clear BK139
            clear HB
            have HO145 := n0_
            have BK139 := n1_
            have HB := n2_
            have BK169 := n3_
            have GW169 := n4_
            have GE169 := n5_
            have NB139_169 := n6_
            have NB169_139 := n7_
            (try clear n0_; try clear n1_; try clear n2_; try clear n3_; try clear n4_; try clear n5_; try clear n6_; try clear n7_)
            clear hb hbox hg
            refine hK.out _ _ ⟨gb168, gb169, m8_, (.pointer (some ⟨gb169, 0, none⟩)), (by rw [ha.out]; exact putSel_upk 7 hb_ rfl rfl rfl), HO145.out, BK139.out, HB.out, z_NB169_168, z_NB168_169, z_BK168, Q_GW168, Q_GE168, Q_NB139_168, Q_NB168_139, fun _ _ => BK169.out, fun _ => GW169.out, fun _ => GE169.out, fun _ => NB139_169.out, fun _ => NB169_139.out, fun h0_ => absurd ((hoff 10 (by kernel_rfl)).symm.trans h0_) (by decide), fun h0_ => absurd ((hoff 11 (by kernel_rfl)).symm.trans h0_) (by decide), Q_X8_, fun _ => rfl⟩
          refine steps_cons ?_ ?_
          · rintro b a w' ⟨gb168, gb169, m8_, m9_, ha, Q_HO145, Q_BK139, Q_HB, Q_NB169_168, Q_NB168_169, Q_BK168, Q_GW168, Q_GE168, Q_NB139_168, Q_NB168_139, Q_BK169, Q_GW169, Q_GE169, Q_NB139_169, Q_NB169_139, Q_BK168_e10, Q_BK169_e11, Q_X8_, Q_X9_⟩ hb_ hon hoff
            refine ⟨_, rfl, fun K hK => ?_⟩
            have e10 : a.tmps[10]? = some (m8_) := by rw [ha]; exact putSel_on (e := (8, 10, m8_)) 6 rfl rfl (hon 8 (by kernel_rfl)) rfl
            rw [Q_X8_ (hon 8 (by kernel_rfl))] at e10
            have e30 : a.tmps[30]? = some (.agg #[.int .i64 t147, .int .i64 t148, .int .i64 t149, .int .i64 t150, .int .i64 t151, .int .i64 t152, .bool t153, .int .i64 t154, .int .u32 t155, .int .u32 t156]) := by rw [ha]; exact putSel_on (e := (3, 30, .agg #[.int .i64 t147, .int .i64 t148, .int .i64 t149, .int .i64 t150, .int .i64 t151, .int .i64 t152, .bool t153, .int .i64 t154, .int .u32 t155, .int .u32 t156])) 2 rfl rfl (hon 3 (by kernel_rfl)) rfl
            replace ha := Aside0.mk ha
            have HO145 := Aside0.mk Q_HO145
            have BK139 := Aside0.mk Q_BK139
            have HB := Aside0.mk Q_HB
            have NB169_168 := Aside0.mk (Q_NB169_168 (hon 8 (by kernel_rfl)) (hon 9 (by kernel_rfl)))
            have NB168_169 := Aside0.mk (Q_NB168_169 (hon 8 (by kernel_rfl)) (hon 9 (by kernel_rfl)))
            have BK168 := Aside0.mk (Q_BK168 (hon 8 (by kernel_rfl)) hb_)
            have GW168 := Aside0.mk (Q_GW168 (hon 8 (by kernel_rfl)))
            have GE168 := Aside0.mk (Q_GE168 (hon 8 (by kernel_rfl)))
            have NB139_168 := Aside0.mk (Q_NB139_168 (hon 8 (by kernel_rfl)))
            have NB168_139 := Aside0.mk (Q_NB168_139 (hon 8 (by kernel_rfl)))
            have BK169 := Aside0.mk (Q_BK169 (hon 9 (by kernel_rfl)) (hoff 11 (by kernel_rfl)))
            have GW169 := Aside0.mk (Q_GW169 (hon 9 (by kernel_rfl)))
            have GE169 := Aside0.mk (Q_GE169 (hon 9 (by kernel_rfl)))
            have NB139_169 := Aside0.mk (Q_NB139_169 (hon 9 (by kernel_rfl)))
            have NB169_139 := Aside0.mk (Q_NB169_139 (hon 9 (by kernel_rfl)))
            have hs170 : w'.cell? ⟨gb168, 0, none⟩ = some (.int .i64 0) := (blk_cell BK168.out 0).trans rfl
            have hfs170 := blk_frozen BK168.out 0
            have hs171 : w'.cell? ⟨gb168, 1, none⟩ = some (.int .i64 0) := (blk_cell BK168.out 1).trans rfl
            have hfs171 := blk_frozen BK168.out 1
            have hs172 : w'.cell? ⟨gb168, 2, none⟩ = some (.int .i64 0) := (blk_cell BK168.out 2).trans rfl
            have hfs172 := blk_frozen BK168.out 2
            have hs173 : w'.cell? ⟨gb168, 3, none⟩ = some (.int .i64 0) := (blk_cell BK168.out 3).trans rfl
            have hfs173 := blk_frozen BK168.out 3
            have hs174 : w'.cell? ⟨gb168, 4, none⟩ = some (.int .i64 0) := (blk_cell BK168.out 4).trans rfl
            have hfs174 := blk_frozen BK168.out 4
            have hs175 : w'.cell? ⟨gb168, 5, none⟩ = some (.int .i64 0) := (blk_cell BK168.out 5).trans rfl
            have hfs175 := blk_frozen BK168.out 5
            have hs176 : w'.cell? ⟨gb168, 6, none⟩ = some (.bool false) := (blk_cell BK168.out 6).trans rfl
            have hfs176 := blk_frozen BK168.out 6
            have hs177 : w'.cell? ⟨gb168, 7, none⟩ = some (.int .i64 0) := (blk_cell BK168.out 7).trans rfl
            have hfs177 := blk_frozen BK168.out 7
            have hs178 : w'.cell? ⟨gb168, 8, none⟩ = some (.int .u32 0) := (blk_cell BK168.out 8).trans rfl
            have hfs178 := blk_frozen BK168.out 8
            have hs179 : w'.cell? ⟨gb168, 9, none⟩ = some (.int .u32 0) := (blk_cell BK168.out 9).trans rfl
            have hfs179 := blk_frozen BK168.out 9
            refine skip_ (w1 := ?_) (by rfl) rfl ?_ ?_
            rotate_left
            · go_simp
              rfl
            refine hK.out _ _ ⟨gb168, gb169, m8_, m9_, (by rw [ha.out]; exact putSel_none (v := undef) rfl), (by exact Kd.R_mono (Kd.R_far (p := ⟨gb168, 9, none⟩) (Kd.R_far (p := ⟨gb168, 8, none⟩) (Kd.R_far (p := ⟨gb168, 7, none⟩) (Kd.R_far (p := ⟨gb168, 6, none⟩) (Kd.R_far (p := ⟨gb168, 5, none⟩) (Kd.R_far (p := ⟨gb168, 4, none⟩) (Kd.R_far (p := ⟨gb168, 3, none⟩) (Kd.R_far (p := ⟨gb168, 2, none⟩) (Kd.R_far (p := ⟨gb168, 1, none⟩) (Kd.R_far (p := ⟨gb168, 0, none⟩) (Kd.R_types HO145.out BK168.out (by decide)) (fun _ hk => hk.2) (.int .i64 t147)) (fun _ hk => hk.2) (.int .i64 t148)) (fun _ hk => hk.2) (.int .i64 t149)) (fun _ hk => hk.2) (.int .i64 t150)) (fun _ hk => hk.2) (.int .i64 t151)) (fun _ hk => hk.2) (.int .i64 t152)) (fun _ hk => hk.2) (.bool t153)) (fun _ hk => hk.2) (.int .i64 t154)) (fun _ hk => hk.2) (.int .u32 t155)) (fun _ hk => hk.2) (.int .u32 t156)) (fun _ hk => trivial)), (by (iterate 10 refine blk_far ?_ NB139_168.out _); exact BK139.out), (by repeat ((with_reducible first | exact HB.out | refine below_set ?_ GE168.out))), fun _ _ => NB169_168.out, fun _ _ => NB168_169.out, fun _ h1_ => absurd ((up_self b 10).symm.trans h1_) (by decide), fun _ => GW168.out, fun _ => GE168.out, fun _ => NB139_168.out, fun _ => NB168_139.out, fun _ _ => (by (iterate 10 refine blk_far ?_ NB169_168.out _); exact BK169.out), fun _ => GW169.out, fun _ => GE169.out, fun _ => NB139_169.out, fun _ => NB169_139.out, fun _ => (by exact put10 BK168.out), fun h0_ => absurd ((hoff 11 (by kernel_rfl)).symm.trans h0_) (by decide), Q_X8_, Q_X9_⟩
          refine steps_cons ?_ ?_
          · rintro b a w' ⟨gb168, gb169, m8_, m9_, ha, Q_HO145, Q_BK139, Q_HB, Q_NB169_168, Q_NB168_169, Q_BK168, Q_GW168, Q_GE168, Q_NB139_168, Q_NB168_139, Q_BK169, Q_GW169, Q_GE169, Q_NB139_169, Q_NB169_139, Q_BK168_e10, Q_BK169_e11, Q_X8_, Q_X9_⟩ hb_ hon hoff
            refine ⟨_, rfl, fun K hK => ?_⟩
            have e11 : a.tmps[11]? = some (m9_) := by rw [ha]; exact putSel_on (e := (9, 11, m9_)) 7 rfl rfl (hon 9 (by kernel_rfl)) rfl
            rw [Q_X9_ (hon 9 (by kernel_rfl))] at e11
            have e34 : a.tmps[34]? = some (.agg #[.int .i64 t158, .int .i64 t159, .int .i64 t160, .int .i64 t161, .int .i64 t162, .int .i64 t163, .bool t164, .int .i64 t165, .int .u32 t166, .int .u32 t167]) := by rw [ha]; exact putSel_on (e := (7, 34, .agg #[.int .i64 t158, .int .i64 t159, .int .i64 t160, .int .i64 t161, .int .i64 t162, .int .i64 t163, .bool t164, .int .i64 t165, .int .u32 t166, .int .u32 t167])) 5 rfl rfl (hon 7 (by kernel_rfl)) rfl
            replace ha := Aside0.mk ha
            have HO145 := Aside0.mk Q_HO145
            have BK139 := Aside0.mk Q_BK139
            have HB := Aside0.mk Q_HB
            have NB169_168 := Aside0.mk (Q_NB169_168 (hon 8 (by kernel_rfl)) (hon 9 (by kernel_rfl)))
            have NB168_169 := Aside0.mk (Q_NB168_169 (hon 8 (by kernel_rfl)) (hon 9 (by kernel_rfl)))
            have GW168 := Aside0.mk (Q_GW168 (hon 8 (by kernel_rfl)))
            have GE168 := Aside0.mk (Q_GE168 (hon 8 (by kernel_rfl)))
            have NB139_168 := Aside0.mk (Q_NB139_168 (hon 8 (by kernel_rfl)))
            have NB168_139 := Aside0.mk (Q_NB168_139 (hon 8 (by kernel_rfl)))
            have BK169 := Aside0.mk (Q_BK169 (hon 9 (by kernel_rfl)) hb_)
            have GW169 := Aside0.mk (Q_GW169 (hon 9 (by kernel_rfl)))
            have GE169 := Aside0.mk (Q_GE169 (hon 9 (by kernel_rfl)))
            have NB139_169 := Aside0.mk (Q_NB139_169 (hon 9 (by kernel_rfl)))
            have NB169_139 := Aside0.mk (Q_NB169_139 (hon 9 (by kernel_rfl)))
            have BK168 := Aside0.mk (Q_BK168_e10 (hon 10 (by kernel_rfl)))
            have hs180 : w'.cell? ⟨gb169, 0, none⟩ = some (.int .i64 0) := (blk_cell BK169.out 0).trans rfl
            have hfs180 := blk_frozen BK169.out 0
            have hs181 : w'.cell? ⟨gb169, 1, none⟩ = some (.int .i64 0) := (blk_cell BK169.out 1).trans rfl
            have hfs181 := blk_frozen BK169.out 1
            have hs182 : w'.cell? ⟨gb169, 2, none⟩ = some (.int .i64 0) := (blk_cell BK169.out 2).trans rfl
            have hfs182 := blk_frozen BK169.out 2
            have hs183 : w'.cell? ⟨gb169, 3, none⟩ = some (.int .i64 0) := (blk_cell BK169.out 3).trans rfl
            have hfs183 := blk_frozen BK169.out 3
            have hs184 : w'.cell? ⟨gb169, 4, none⟩ = some (.int .i64 0) := (blk_cell BK169.out 4).trans rfl
            have hfs184 := blk_frozen BK169.out 4
            have hs185 : w'.cell? ⟨gb169, 5, none⟩ = some (.int .i64 0) := (blk_cell BK169.out 5).trans rfl
            have hfs185 := blk_frozen BK169.out 5
            have hs186 : w'.cell? ⟨gb169, 6, none⟩ = some (.bool false) := (blk_cell BK169.out 6).trans rfl
            have hfs186 := blk_frozen BK169.out 6
            have hs187 : w'.cell? ⟨gb169, 7, none⟩ = some (.int .i64 0) := (blk_cell BK169.out 7).trans rfl
            have hfs187 := blk_frozen BK169.out 7
            have hs188 : w'.cell? ⟨gb169, 8, none⟩ = some (.int .u32 0) := (blk_cell BK169.out 8).trans rfl
            have hfs188 := blk_frozen BK169.out 8
            have hs189 : w'.cell? ⟨gb169, 9, none⟩ = some (.int .u32 0) := (blk_cell BK169.out 9).trans rfl
            have hfs189 := blk_frozen BK169.out 9
            refine skip_ (w1 := ?_) (by rfl) rfl ?_ ?_
            rotate_left
            · go_simp
              rfl
            refine hK.out _ _ ⟨gb168, gb169, m8_, m9_, (by rw [ha.out]; exact putSel_none (v := undef) rfl), (by exact Kd.R_mono (Kd.R_far (p := ⟨gb169, 9, none⟩) (Kd.R_far (p := ⟨gb169, 8, none⟩) (Kd.R_far (p := ⟨gb169, 7, none⟩) (Kd.R_far (p := ⟨gb169, 6, none⟩) (Kd.R_far (p := ⟨gb169, 5, none⟩) (Kd.R_far (p := ⟨gb169, 4, none⟩) (Kd.R_far (p := ⟨gb169, 3, none⟩) (Kd.R_far (p := ⟨gb169, 2, none⟩) (Kd.R_far (p := ⟨gb169, 1, none⟩) (Kd.R_far (p := ⟨gb169, 0, none⟩) (Kd.R_types HO145.out BK169.out (by decide)) (fun _ hk => hk.2) (.int .i64 t158)) (fun _ hk => hk.2) (.int .i64 t159)) (fun _ hk => hk.2) (.int .i64 t160)) (fun _ hk => hk.2) (.int .i64 t161)) (fun _ hk => hk.2) (.int .i64 t162)) (fun _ hk => hk.2) (.int .i64 t163)) (fun _ hk => hk.2) (.bool t164)) (fun _ hk => hk.2) (.int .i64 t165)) (fun _ hk => hk.2) (.int .u32 t166)) (fun _ hk => hk.2) (.int .u32 t167)) (fun _ hk => trivial)), (by (iterate 10 refine blk_far ?_ NB139_169.out _); exact BK139.out), (by repeat ((with_reducible first | exact HB.out | refine below_set ?_ GE169.out))), fun _ _ => NB169_168.out, fun _ _ => NB168_169.out, fun _ h1_ => absurd ((hon 10 (by kernel_rfl)).symm.trans h1_) (by decide), fun _ => GW168.out, fun _ => GE168.out, fun _ => NB139_168.out, fun _ => NB168_139.out, fun _ h1_ => absurd ((up_self b 11).symm.trans h1_) (by decide), fun _ => GW169.out, fun _ => GE169.out, fun _ => NB139_169.out, fun _ => NB169_139.out, fun _ => (by (iterate 10 refine blk_far ?_ NB168_169.out _); exact BK168.out), fun _ => (by exact put10 BK169.out), Q_X8_, Q_X9_⟩
          exact steps_nil
        rintro b a w189 hall ⟨gb168, gb169, m8_, m9_, ha, Q_HO145, Q_BK139, Q_HB, Q_NB169_168, Q_NB168_169, Q_BK168, Q_GW168, Q_GE168, Q_NB139_168, Q_NB168_139, Q_BK169, Q_GW169, Q_GE169, Q_NB139_169, Q_NB169_139, Q_BK168_e10, Q_BK169_e11, Q_X8_, Q_X9_⟩
        clear BK139 HB HO145
        have hb1_ := hall 1 (by kernel_rfl)
        have hb2_ := hall 2 (by kernel_rfl)
        have hb3_ := hall 3 (by kernel_rfl)
        have hb5_ := hall 5 (by kernel_rfl)
        have hb6_ := hall 6 (by kernel_rfl)
        have hb7_ := hall 7 (by kernel_rfl)
        have hb8_ := hall 8 (by kernel_rfl)
        have hb9_ := hall 9 (by kernel_rfl)
        have hb10_ := hall 10 (by kernel_rfl)
        have hb11_ := hall 11 (by kernel_rfl)
        subst ha
        obtain rfl := Q_X8_ hb8_
        obtain rfl := Q_X9_ hb9_
        simp only [putSel, hb1_, hb2_, hb3_, hb5_, hb6_, hb7_, hb8_, hb9_, hb10_, hb11_, if_true, Act.put, List.setIfInBounds_toArray, List.set_cons_zero, List.set_cons_succ]
        have HO145 := Aside0.mk Q_HO145
        clear Q_HO145
        have BK139 := Aside0.mk Q_BK139
        clear Q_BK139
        have HB := Aside0.mk Q_HB
        clear Q_HB
        clear Q_NB169_168
        clear Q_NB168_169
        clear Q_BK168
        clear Q_GW168
        clear Q_GE168
        clear Q_NB139_168
        have NB168_139 := Aside0.mk (Q_NB168_139 hb8_)
        clear Q_NB168_139
        clear Q_BK169
        clear Q_GW169
        clear Q_GE169
        clear Q_NB139_169
        clear Q_NB169_139
        have BK168 := Aside0.mk (Q_BK168_e10 hb10_)
        clear Q_BK168_e10
        have BK169 := Aside0.mk (Q_BK169_e11 hb11_)
        clear Q_BK169_e11
        clear hall hb1_ hb2_ hb3_ hb5_ hb6_ hb7_ hb8_ hb9_ hb10_ hb11_
        have H := HAH.out
        clear HAH
        by_cases c10 : t147 = 2
        · rw [if_pos c10] at H
          have c10b1 : (t147 != 2) = false := bne_eq_false_iff_eq.mpr c10
          clear c10
          by_cases c11 : t153 = true
          · subst c11
            have H1 : (some (0, 0, 0, 3)) = some (r1, r2, r3, r4) := by rw [if_pos rfl] at H; exact H
            clear H
            have H := H1
            clear H1
            simp only [Option.some.injEq, Prod.mk.injEq] at H
            obtain ⟨rfl, rfl, rfl, rfl⟩ := H
            have hcz44_0 : w189.cell? ⟨gb168, 0, none⟩ = some (.int .i64 t147) := (blk_cell BK168.out 0).trans rfl
            have hcz44_6 : w189.cell? ⟨gb168, 6, none⟩ = some (.bool true) := (blk_cell BK168.out 6).trans rfl
            have hcz46_0 : w189.cell? ⟨gb139, 0, none⟩ = some (.int .u64 0) := (blk_cell BK139.out 0).trans rfl
            have hcz46_1 : w189.cell? ⟨gb139, 1, none⟩ = some (.int .i64 0) := (blk_cell BK139.out 1).trans rfl
            have hcz46_2 : w189.cell? ⟨gb139, 2, none⟩ = some (.int .i64 0) := (blk_cell BK139.out 2).trans rfl
            have hfz46_0 := blk_frozen BK139.out 0
            have hfz46_1 := blk_frozen BK139.out 1
            have hfz46_2 := blk_frozen BK139.out 2
            try go_wp2
            refine bodyPost_ret (results_ct rfl _ _ gb139 60 #[.int .u64 0, .int .i64 0, .int .i64 0] (0, 0) _ rfl (by refine blk_put (cs := #[.int .u64 0, .int .i64 0, .int .i64 0]) ?_ 2 _ rfl; refine blk_put (cs := #[.int .u64 0, .int .i64 0, .int .i64 0]) ?_ 1 _ rfl; refine blk_put (cs := #[.int .u64 0, .int .i64 0, .int .i64 0]) ?_ 0 _ rfl; exact BK139.out) Tryd.underlying60 rfl (by kernel_rfl)) rfl ?_
            exact ⟨by rfl, by repeat ((with_reducible first | exact HB.out | refine below_set ?_ GE139.out))⟩
          · replace c11 := Bool.eq_false_iff.mpr c11
            subst c11
            have H1 : (if t158 > 1 then (some (0, 0, 0, 3)) else (if t159 = 0 then (some (rd t142 1, wrap64 (t155), t154, 0)) else (some (0, 0, 0, 3)))) = some (r1, r2, r3, r4) := by rw [if_neg (show ¬ (false = true) by decide)] at H; exact H
            clear H
            have H := H1
            clear H1
            by_cases c47 : t158 > 1
            · rw [if_pos c47] at H
              have c47b0 : decide (1 < t158) = true := decide_eq_true c47
              clear c47
              simp only [Option.some.injEq, Prod.mk.injEq] at H
              obtain ⟨rfl, rfl, rfl, rfl⟩ := H
              have hcz80_0 : w189.cell? ⟨gb168, 0, none⟩ = some (.int .i64 t147) := (blk_cell BK168.out 0).trans rfl
              have hcz80_6 : w189.cell? ⟨gb168, 6, none⟩ = some (.bool false) := (blk_cell BK168.out 6).trans rfl
              have hcz82_0 : w189.cell? ⟨gb169, 0, none⟩ = some (.int .i64 t158) := (blk_cell BK169.out 0).trans rfl
              have hcz83_0 : w189.cell? ⟨gb139, 0, none⟩ = some (.int .u64 0) := (blk_cell BK139.out 0).trans rfl
              have hcz83_1 : w189.cell? ⟨gb139, 1, none⟩ = some (.int .i64 0) := (blk_cell BK139.out 1).trans rfl
              have hcz83_2 : w189.cell? ⟨gb139, 2, none⟩ = some (.int .i64 0) := (blk_cell BK139.out 2).trans rfl
              have hfz83_0 := blk_frozen BK139.out 0
              have hfz83_1 := blk_frozen BK139.out 1
              have hfz83_2 := blk_frozen BK139.out 2
              try go_wp2
              refine bodyPost_ret (results_ct rfl _ _ gb139 60 #[.int .u64 0, .int .i64 0, .int .i64 0] (0, 0) _ rfl (by refine blk_put (cs := #[.int .u64 0, .int .i64 0, .int .i64 0]) ?_ 2 _ rfl; refine blk_put (cs := #[.int .u64 0, .int .i64 0, .int .i64 0]) ?_ 1 _ rfl; refine blk_put (cs := #[.int .u64 0, .int .i64 0, .int .i64 0]) ?_ 0 _ rfl; exact BK139.out) Tryd.underlying60 rfl (by kernel_rfl)) rfl ?_
              exact ⟨by rfl, by repeat ((with_reducible first | exact HB.out | refine below_set ?_ GE139.out))⟩
            · rw [if_neg c47] at H
              have c47b0 : decide (1 < t158) = false := decide_eq_false c47
              clear c47
              by_cases c84 : t159 = 0
              · rw [if_pos c84] at H
                have c84b1 : (t159 != 0) = false := bne_eq_false_iff_eq.mpr c84
                clear c84
                simp only [Option.some.injEq, Prod.mk.injEq] at H
                obtain ⟨rfl, rfl, rfl, rfl⟩ := H
                have hcz117_0 : w189.cell? ⟨gb168, 0, none⟩ = some (.int .i64 t147) := (blk_cell BK168.out 0).trans rfl
                have hcz117_6 : w189.cell? ⟨gb168, 6, none⟩ = some (.bool false) := (blk_cell BK168.out 6).trans rfl
                have hcz119_0 : w189.cell? ⟨gb169, 0, none⟩ = some (.int .i64 t158) := (blk_cell BK169.out 0).trans rfl
                have hcz119_1 : w189.cell? ⟨gb169, 1, none⟩ = some (.int .i64 t159) := (blk_cell BK169.out 1).trans rfl
                try go_wp2
                have n0_ := Aside0.mk (Kd.R_drew HO145.out)
                have n1_ := Aside0.mk (blk_drew BK139.out)
                have n2_ := Aside0.mk (blk_drew BK168.out)
                have n3_ := Aside0.mk (blk_drew BK169.out)
                have n4_ := Aside0.mk (below_drew1 HB.out)
                clear HO145
                clear BK139
                clear BK168
                clear BK169
                clear HB
                have HO145 := n0_
                have BK139 := n1_
                have BK168 := n2_
                have BK169 := n3_
                have HB := n4_
                (try clear n0_; try clear n1_; try clear n2_; try clear n3_; try clear n4_)
                have p170 : 0 ≤ (1 : Int) := (by omega)
                have q170 : 1 < (t142.length : Int) := of_decide_eq_true (by (with_reducible assumption))
                obtain ⟨ad170, e170, hx170_0⟩ := Kd.at_int (Kd.R_reads' HO145.out).2.2 1 p170 q170
                obtain rfl : ad146 = ad170 := (by injection e170)
                (try simp only [show (1 : Int).toNat = 1 from rfl, Nat.reduceMul, Nat.reduceEqDiff, Go.Addr.add, ↓reduceIte] at hx170_0)
                (skip)
                replace p170 := eq_true p170
                replace q170 := eq_true q170
                refine start_ (n := 11) (S := fun w' => w'.cell? ⟨gb168, 0, none⟩ = some (.int .i64 t147) ∧ w'.cell? ⟨gb168, 1, none⟩ = some (.int .i64 t148) ∧ w'.cell? ⟨gb168, 2, none⟩ = some (.int .i64 t149) ∧ w'.cell? ⟨gb168, 3, none⟩ = some (.int .i64 t150) ∧ w'.cell? ⟨gb168, 4, none⟩ = some (.int .i64 t151) ∧ w'.cell? ⟨gb168, 5, none⟩ = some (.int .i64 t152) ∧ w'.cell? ⟨gb168, 6, none⟩ = some (.bool false) ∧ w'.cell? ⟨gb168, 7, none⟩ = some (.int .i64 t154) ∧ w'.cell? ⟨gb168, 8, none⟩ = some (.int .u32 t155) ∧ w'.cell? ⟨gb168, 9, none⟩ = some (.int .u32 t156) ∧ w'.cell? ⟨ad146.block, ad146.off + 1, none⟩ = some (.int .u64 (rd t142 1))) (ds := []) #[false, false, false, false, false, false, false, false, false, false, false] (by kernel_rfl) rfl rfl ⟨(blk_cell BK168.out 0).trans rfl, (blk_cell BK168.out 1).trans rfl, (blk_cell BK168.out 2).trans rfl, (blk_cell BK168.out 3).trans rfl, (blk_cell BK168.out 4).trans rfl, (blk_cell BK168.out 5).trans rfl, (blk_cell BK168.out 6).trans rfl, (blk_cell BK168.out 7).trans rfl, (blk_cell BK168.out 8).trans rfl, (blk_cell BK168.out 9).trans rfl, hx170_0⟩ (fun hHeld => ?_); refine with_tabW far_double.tab8 far_double.bits8 (fun HT_ HW_ => ?_)
                generalize w189.drew = w120 at HO145 BK139 BK168 BK169 HB hx170_0 hHeld ⊢
                refine pure_ (i := 0) (N := some 53) (v := ?_) (a' := ?_) #[true, false, false, false, false, false, false, false, false, false, false] rfl rfl (any_of HT_.out (by kernel_rfl)) (fun _ _ _ h => h) (Or.inl ⟨by rfl, ?_⟩) ?_ ?_
                rotate_left
                · intro w'
                  go_simp
                  with_reducible rfl
                rotate_left
                · simp only [Act.put, List.setIfInBounds_toArray, List.set_cons_zero, List.set_cons_succ, i64_w, i32_w]
                  rfl
                refine pure_ (i := 1) (N := some 54) (v := ?_) (a' := ?_) #[true, true, false, false, false, false, false, false, false, false, false] rfl rfl (any_of HT_.out (by kernel_rfl)) (fun _ _ _ h => h) (Or.inl ⟨by rfl, ?_⟩) ?_ ?_
                rotate_left
                · intro w'
                  go_simp
                  with_reducible rfl
                rotate_left
                · simp only [Act.put, List.setIfInBounds_toArray, List.set_cons_zero, List.set_cons_succ, i64_w, i32_w]
                  rfl
                refine pure_ (i := 3) (N := some 56) (v := ?_) (a' := ?_) #[true, true, false, true, false, false, false, false, false, false, false] rfl rfl (any_of HT_.out (by kernel_rfl)) (fun _ _ _ h => h) (Or.inl ⟨by rfl, ?_⟩) ?_ ?_
                rotate_left
                · intro w'
                  go_simp
                  with_reducible rfl
                rotate_left
                · simp only [Act.put, List.setIfInBounds_toArray, List.set_cons_zero, List.set_cons_succ, i64_w, i32_w]
                  rfl
                refine pure_ (i := 6) (N := some 59) (v := ?_) (a' := ?_) #[true, true, false, true, false, false, true, false, false, false, false] rfl rfl (any_of HT_.out (by kernel_rfl)) (fun _ _ _ h => h) (Or.inl ⟨by rfl, ?_⟩) ?_ ?_
                rotate_left
                · intro w'
                  go_simp
                  with_reducible rfl
                rotate_left
                · simp only [Act.put, List.setIfInBounds_toArray, List.set_cons_zero, List.set_cons_succ, i64_w, i32_w]
                  rfl
                refine take_ (i := 2) (N := some 55) (v := ?_) (a' := ?_) #[true, true, true, true, false, false, true, false, false, false, false] rfl rfl (take_ofW HT_.out HW_.out (by kernel_rfl)) (fun _ _ _ h => h) (Or.inl ⟨by rfl, ?_⟩) hHeld ?_ ?_
                rotate_left
                · rintro w' ⟨s0, s1, s2, s3, s4, s5, s6, s7, s8, s9, s10⟩
                  go_simp
                  with_reducible rfl
                rotate_left
                · simp only [Act.put, List.setIfInBounds_toArray, List.set_cons_zero, List.set_cons_succ, i64_w, i32_w]
                  rfl
                refine take_ (i := 4) (N := some 57) (v := ?_) (a' := ?_) #[true, true, true, true, true, false, true, false, false, false, false] rfl rfl (take_ofW HT_.out HW_.out (by kernel_rfl)) (fun _ _ _ h => h) (Or.inl ⟨by rfl, ?_⟩) hHeld ?_ ?_
                rotate_left
                · rintro w' ⟨s0, s1, s2, s3, s4, s5, s6, s7, s8, s9, s10⟩
                  go_simp
                  with_reducible rfl
                rotate_left
                · simp only [Act.put, List.setIfInBounds_toArray, List.set_cons_zero, List.set_cons_succ, i64_w, i32_w]
                  rfl
                refine pure_ (i := 5) (N := some 58) (v := ?_) (a' := ?_) #[true, true, true, true, true, true, true, false, false, false, false] rfl rfl (any_of HT_.out (by kernel_rfl)) (fun _ _ _ h => h) (Or.inl ⟨by rfl, ?_⟩) ?_ ?_
                rotate_left
                · intro w'
                  go_simp
                  with_reducible rfl
                rotate_left
                · simp only [Act.put, List.setIfInBounds_toArray, List.set_cons_zero, List.set_cons_succ, i64_w, i32_w]
                  rfl
                refine take_ (i := 7) (N := some 60) (v := ?_) (a' := ?_) #[true, true, true, true, true, true, true, true, false, false, false] rfl rfl (take_ofW HT_.out HW_.out (by kernel_rfl)) (fun _ _ _ h => h) (Or.inl ⟨by rfl, ?_⟩) hHeld ?_ ?_
                rotate_left
                · rintro w' ⟨s0, s1, s2, s3, s4, s5, s6, s7, s8, s9, s10⟩
                  go_simp
                  with_reducible rfl
                rotate_left
                · simp only [Act.put, List.setIfInBounds_toArray, List.set_cons_zero, List.set_cons_succ, i64_w, i32_w]
                  rfl
                refine pure_ (i := 8) (N := some 61) (v := ?_) (a' := ?_) #[true, true, true, true, true, true, true, true, true, false, false] rfl rfl (any_of HT_.out (by kernel_rfl)) (fun _ _ _ h => h) (Or.inl ⟨by rfl, ?_⟩) ?_ ?_
                rotate_left
                · intro w'
                  go_simp
                  with_reducible rfl
                rotate_left
                · simp only [Act.put, List.setIfInBounds_toArray, List.set_cons_zero, List.set_cons_succ, i64_w, i32_w]
                  rfl
                refine one_ (i := 9) (N := none) #[true, true, true, true, true, true, true, true, true, true, false] rfl rfl (one_of HT_.out (by kernel_rfl)) (by decide) (fun K hK => ?_)
                have hs121 : w120.cell? ⟨gb139, 0, none⟩ = some (.int .u64 0) := (blk_cell BK139.out 0).trans rfl
                have hfs121 := blk_frozen BK139.out 0
                have hs122 : w120.cell? ⟨gb139, 1, none⟩ = some (.int .i64 0) := (blk_cell BK139.out 1).trans rfl
                have hfs122 := blk_frozen BK139.out 1
                have hs123 : w120.cell? ⟨gb139, 2, none⟩ = some (.int .i64 0) := (blk_cell BK139.out 2).trans rfl
                have hfs123 := blk_frozen BK139.out 2
                refine skip_ (w1 := ?_) (by rfl) rfl ?_ ?_
                rotate_left
                · go_simp
                  rfl
                refine hK.out _ _ ⟨((cell_far (p := ⟨gb139, _, none⟩) NB168_139.out _).trans (((cell_far (p := ⟨gb139, _, none⟩) NB168_139.out _).trans (((cell_far (p := ⟨gb139, _, none⟩) NB168_139.out _).trans (hHeld.1)))))), ((cell_far (p := ⟨gb139, _, none⟩) NB168_139.out _).trans (((cell_far (p := ⟨gb139, _, none⟩) NB168_139.out _).trans (((cell_far (p := ⟨gb139, _, none⟩) NB168_139.out _).trans (hHeld.2.1)))))), ((cell_far (p := ⟨gb139, _, none⟩) NB168_139.out _).trans (((cell_far (p := ⟨gb139, _, none⟩) NB168_139.out _).trans (((cell_far (p := ⟨gb139, _, none⟩) NB168_139.out _).trans (hHeld.2.2.1)))))), ((cell_far (p := ⟨gb139, _, none⟩) NB168_139.out _).trans (((cell_far (p := ⟨gb139, _, none⟩) NB168_139.out _).trans (((cell_far (p := ⟨gb139, _, none⟩) NB168_139.out _).trans (hHeld.2.2.2.1)))))), ((cell_far (p := ⟨gb139, _, none⟩) NB168_139.out _).trans (((cell_far (p := ⟨gb139, _, none⟩) NB168_139.out _).trans (((cell_far (p := ⟨gb139, _, none⟩) NB168_139.out _).trans (hHeld.2.2.2.2.1)))))), ((cell_far (p := ⟨gb139, _, none⟩) NB168_139.out _).trans (((cell_far (p := ⟨gb139, _, none⟩) NB168_139.out _).trans (((cell_far (p := ⟨gb139, _, none⟩) NB168_139.out _).trans (hHeld.2.2.2.2.2.1)))))), ((cell_far (p := ⟨gb139, _, none⟩) NB168_139.out _).trans (((cell_far (p := ⟨gb139, _, none⟩) NB168_139.out _).trans (((cell_far (p := ⟨gb139, _, none⟩) NB168_139.out _).trans (hHeld.2.2.2.2.2.2.1)))))), ((cell_far (p := ⟨gb139, _, none⟩) NB168_139.out _).trans (((cell_far (p := ⟨gb139, _, none⟩) NB168_139.out _).trans (((cell_far (p := ⟨gb139, _, none⟩) NB168_139.out _).trans (hHeld.2.2.2.2.2.2.2.1)))))), ((cell_far (p := ⟨gb139, _, none⟩) NB168_139.out _).trans (((cell_far (p := ⟨gb139, _, none⟩) NB168_139.out _).trans (((cell_far (p := ⟨gb139, _, none⟩) NB168_139.out _).trans (hHeld.2.2.2.2.2.2.2.2.1)))))), ((cell_far (p := ⟨gb139, _, none⟩) NB168_139.out _).trans (((cell_far (p := ⟨gb139, _, none⟩) NB168_139.out _).trans (((cell_far (p := ⟨gb139, _, none⟩) NB168_139.out _).trans (hHeld.2.2.2.2.2.2.2.2.2.1)))))), ((cell_far (p := ⟨gb139, _, none⟩) (by (dsimp only; exact Kd.own_blk (Kd.R_ne HO145.out BK139.out (by decide)))) _).trans (((cell_far (p := ⟨gb139, _, none⟩) (by (dsimp only; exact Kd.own_blk (Kd.R_ne HO145.out BK139.out (by decide)))) _).trans (((cell_far (p := ⟨gb139, _, none⟩) (by (dsimp only; exact Kd.own_blk (Kd.R_ne HO145.out BK139.out (by decide)))) _).trans (hHeld.2.2.2.2.2.2.2.2.2.2))))))⟩ (fun hHeld => ?_)
                clear hK K
                refine pure_ (i := 10) (N := some 5) (v := ?_) (a' := ?_) #[true, true, true, true, true, true, true, true, true, true, true] rfl rfl (any_of HT_.out (by kernel_rfl)) (fun _ _ _ h => h) (Or.inl ⟨by rfl, ?_⟩) ?_ ?_
                rotate_left
                · intro w'
                  go_simp
                  with_reducible rfl
                rotate_left
                · simp only [Act.put, List.setIfInBounds_toArray, List.set_cons_zero, List.set_cons_succ, i64_w, i32_w]
                  rfl
                refine done_ (done_of HT_.out (by kernel_rfl)) ?_
                try go_wp2
                refine bodyPost_ret (results_ct rfl _ _ gb139 60 #[.int .u64 (rd t142 1), .int .i64 (wrap64 (t155)), .int .i64 t154] (0, 0) _ rfl (by refine blk_put (cs := #[.int .u64 (rd t142 1), .int .i64 (wrap64 (t155)), .int .i64 0]) ?_ 2 _ rfl; refine blk_put (cs := #[.int .u64 (rd t142 1), .int .i64 0, .int .i64 0]) ?_ 1 _ rfl; refine blk_put (cs := #[.int .u64 0, .int .i64 0, .int .i64 0]) ?_ 0 _ rfl; exact BK139.out) Tryd.underlying60 rfl (by kernel_rfl)) rfl ?_
                exact ⟨by rfl, by repeat ((with_reducible first | exact HB.out | refine below_set ?_ GE139.out))⟩
              · rw [if_neg c84] at H
                have c84b1 : (t159 != 0) = true := bne_iff_ne.mpr c84
                simp only [Option.some.injEq, Prod.mk.injEq] at H
                obtain ⟨rfl, rfl, rfl, rfl⟩ := H
                have hcz156_0 : w189.cell? ⟨gb168, 0, none⟩ = some (.int .i64 t147) := (blk_cell BK168.out 0).trans rfl
                have hcz156_6 : w189.cell? ⟨gb168, 6, none⟩ = some (.bool false) := (blk_cell BK168.out 6).trans rfl
                have hcz158_0 : w189.cell? ⟨gb169, 0, none⟩ = some (.int .i64 t158) := (blk_cell BK169.out 0).trans rfl
                have hcz158_1 : w189.cell? ⟨gb169, 1, none⟩ = some (.int .i64 t159) := (blk_cell BK169.out 1).trans rfl
                have hcz159_0 : w189.cell? ⟨gb139, 0, none⟩ = some (.int .u64 0) := (blk_cell BK139.out 0).trans rfl
                have hcz159_1 : w189.cell? ⟨gb139, 1, none⟩ = some (.int .i64 0) := (blk_cell BK139.out 1).trans rfl
                have hcz159_2 : w189.cell? ⟨gb139, 2, none⟩ = some (.int .i64 0) := (blk_cell BK139.out 2).trans rfl
                have hfz159_0 := blk_frozen BK139.out 0
                have hfz159_1 := blk_frozen BK139.out 1
                have hfz159_2 := blk_frozen BK139.out 2
                try go_wp2
                refine bodyPost_ret (results_ct rfl _ _ gb139 60 #[.int .u64 0, .int .i64 0, .int .i64 0] (0, 0) _ rfl (by refine blk_put (cs := #[.int .u64 0, .int .i64 0, .int .i64 0]) ?_ 2 _ rfl; refine blk_put (cs := #[.int .u64 0, .int .i64 0, .int .i64 0]) ?_ 1 _ rfl; refine blk_put (cs := #[.int .u64 0, .int .i64 0, .int .i64 0]) ?_ 0 _ rfl; exact BK139.out) Tryd.underlying60 rfl (by kernel_rfl)) rfl ?_
                exact ⟨by rfl, by repeat ((with_reducible first | exact HB.out | refine below_set ?_ GE139.out))⟩
        · rw [if_neg c10] at H
          have c10b1 : (t147 != 2) = true := bne_iff_ne.mpr c10
          simp only [Option.some.injEq, Prod.mk.injEq] at H
          obtain ⟨rfl, rfl, rfl, rfl⟩ := H
          have hcz192_0 : w189.cell? ⟨gb168, 0, none⟩ = some (.int .i64 t147) := (blk_cell BK168.out 0).trans rfl
          have hcz194_0 : w189.cell? ⟨gb139, 0, none⟩ = some (.int .u64 0) := (blk_cell BK139.out 0).trans rfl
          have hcz194_1 : w189.cell? ⟨gb139, 1, none⟩ = some (.int .i64 0) := (blk_cell BK139.out 1).trans rfl
          have hcz194_2 : w189.cell? ⟨gb139, 2, none⟩ = some (.int .i64 0) := (blk_cell BK139.out 2).trans rfl
          have hfz194_0 := blk_frozen BK139.out 0
          have hfz194_1 := blk_frozen BK139.out 1
          have hfz194_2 := blk_frozen BK139.out 2
          try go_wp2
          refine bodyPost_ret (results_ct rfl _ _ gb139 60 #[.int .u64 0, .int .i64 0, .int .i64 0] (0, 0) _ rfl (by refine blk_put (cs := #[.int .u64 0, .int .i64 0, .int .i64 0]) ?_ 2 _ rfl; refine blk_put (cs := #[.int .u64 0, .int .i64 0, .int .i64 0]) ?_ 1 _ rfl; refine blk_put (cs := #[.int .u64 0, .int .i64 0, .int .i64 0]) ?_ 0 _ rfl; exact BK139.out) Tryd.underlying60 rfl (by kernel_rfl)) rfl ?_
          exact ⟨by rfl, by repeat ((with_reducible first | exact HB.out | refine below_set ?_ GE139.out))⟩
      · rw [if_neg c8] at H
        exact absurd H (by simp)
    · rw [if_neg c6] at H
      exact absurd H (by simp)
  · replace c5 := Bool.eq_false_iff.mpr c5
    subst c5
    have H1 : (some (0, 0, 0, 2)) = some (r1, r2, r3, r4) := by rw [if_neg (show ¬ (false = true) by decide)] at H; exact H
    clear H
    have H := H1
    clear H1
    simp only [Option.some.injEq, Prod.mk.injEq] at H
    obtain ⟨rfl, rfl, rfl, rfl⟩ := H
    go_enter Tryd.func35, Tryd.ntmps35
    go_wp2_with (first | ((with_reducible refine gate_dst (N := 4) rfl ?_); refine box_event ?hg (N := 4) ?hd (cs := #[.int .u64 0, .int .i64 0, .int .i64 0]) (t := 60) ?hr ?_; (case hd => rfl); (case hg => rfl); (case hr => (go_simp; done)); intro gb139 hg w195 hbox hb; replace BK139 := Aside0.mk (hbox); replace GE139 := Aside0.mk (ge_of HB.out hg); replace HB := Aside0.mk (below_step HB.out hb); clear hb hbox hg) | ((with_reducible refine gate_callee (f := 18) rfl ?_); refine goesL_ (some 14) rfl rfl Tryd.func18 (by kernel_rfl) rfl #[.int .u64 a1] rfl (by (try simp only [List.map_toArray, List.map_cons, List.map_nil]); rfl) ?_; (with_reducible refine (far_Landing.calls (gb := gb) a1 t140 t141 _ ?side1 A3.out).mono ?_); (case side1 => exact Glob.below HG.out HB.out); rintro e w196 ⟨rfl, hb⟩; refine ⟨_, rfl, ?_⟩; replace BK139 := Aside0.mk (blk_below BK139.out hb); replace HB := Aside0.mk (below_step HB.out hb); (try clear hb)) | ((with_reducible refine gate_callee (f := 48) rfl ?_); refine goesL_ (some 21) rfl rfl Tryd.func48 (by kernel_rfl) rfl #[.slice A0 l0.length c0, .int .i64 t140, .int .i64 t141, .int .i64 2] rfl (by (try simp only [List.map_toArray, List.map_cons, List.map_nil]); rfl) ?_; (with_reducible refine (arena_Slice.calls _ _ l0 t140 t141 2 t142 false _ ?side1 ?side2 A4.out).mono ?_); (case side1 => repeat ((exact (Kd.C_below HR0.out HB.out)))); (case side2 => exact HC0.out); rintro e w197 ⟨v144, rfl, ho0, hb⟩; refine ⟨_, rfl, ?_⟩; replace HO145 := Aside0.mk (Kd.R_lower ho0 (below_size HB.out)); replace BK139 := Aside0.mk (blk_below BK139.out hb); replace HB := Aside0.mk (below_step HB.out hb); (try clear hb); (try clear ho0); have hcz198_0 : w197.cell? ⟨gb139, 0, none⟩ = some (.int .u64 0) := (blk_cell BK139.out 0).trans rfl; have hcz198_1 : w197.cell? ⟨gb139, 1, none⟩ = some (.int .i64 0) := (blk_cell BK139.out 1).trans rfl; have hcz198_2 : w197.cell? ⟨gb139, 2, none⟩ = some (.int .i64 0) := (blk_cell BK139.out 2).trans rfl; have hfz198_0 := blk_frozen BK139.out 0; have hfz198_1 := blk_frozen BK139.out 1; have hfz198_2 := blk_frozen BK139.out 2))
    refine bodyPost_ret (results_ct rfl _ _ gb139 60 #[.int .u64 0, .int .i64 0, .int .i64 0] (0, 0) _ rfl (by refine blk_put (cs := #[.int .u64 0, .int .i64 0, .int .i64 0]) ?_ 2 _ rfl; refine blk_put (cs := #[.int .u64 0, .int .i64 0, .int .i64 0]) ?_ 1 _ rfl; refine blk_put (cs := #[.int .u64 0, .int .i64 0, .int .i64 0]) ?_ 0 _ rfl; exact BK139.out) Tryd.underlying60 rfl (by kernel_rfl)) rfl ?_
    exact ⟨by rfl, by repeat ((with_reducible first | exact HB.out | refine below_set ?_ GE139.out))⟩


end Go.Proofs.YtcjhejopcghgnaaDoor.P

namespace Go.Proofs.YtcjhejopcghgnaaDoor.P
open Go.RowKit Go.Proofs.YtcjhejopcghgnaaDoorW.PrintWords Go.Proofs.YtcjhejopcghgnaaDoorW.PrintLast Go.Proofs.YtcjhejopcghgnaaDoorW.PrintMore
attribute [local go_sem] max2_int min2_int max_two min_two max_three min_three max_four min_four   -- for this text's walks alone
set_option linter.unusedVariables false
set_option linter.unusedSimpArgs false

variable {gb : Bool}
attribute [local go_sem high] eqA60
/-! ### far_Follow: function 14 -/
def far_Follow.f (l0 : List (List Int)) (a1 a2 : Int) : Option (Int × Int × Int × Int) := (arena_Word.f l0 a1 a2).bind fun bt139 => (if bt139.2 = true then ((far_IsFar.f bt139.1).bind fun t142 => (if t142 = true then ((pointer_Decode.f bt139.1).bind fun bt143 => (if bt143.2.2.2.2.2.2.1 = true then ((far_double.f l0 bt139.1).bind fun bt153 => (if (bt153.1 == 0 && (bt153.2.1 == 0 && (bt153.2.2.1 == 0))) = true then (if bt153.2.2.2 = 0 then (some (bt153.1, bt153.2.1, bt153.2.2.1, 0)) else (some (0, 0, 0, bt153.2.2.2))) else (some (bt153.1, bt153.2.1, bt153.2.2.1, 0)))) else ((far_single.f l0 bt139.1).bind fun bt157 => (if (bt157.1 == 0 && (bt157.2.1 == 0 && (bt157.2.2.1 == 0))) = true then (if bt157.2.2.2 = 0 then (some (bt157.1, bt157.2.1, bt157.2.2.1, 0)) else (some (0, 0, 0, bt157.2.2.2))) else (some (bt157.1, bt157.2.1, bt157.2.2.1, 0)))))) else (if (bt139.1 == 0 && (a1 == 0 && ((wrap64 (a2 + 1)) == 0))) = true then (if 0 = 0 then (some (bt139.1, a1, wrap64 (a2 + 1), 0)) else (some (0, 0, 0, 0))) else (some (bt139.1, a1, wrap64 (a2 + 1), 0))))) else (some (0, 0, 0, 2)))
set_option maxHeartbeats 8000000 in
set_option maxRecDepth 100000 in
theorem far_Follow.calls (A0 : Option Addr) (c0 : Nat) (l0 : List (List Int)) (a1 a2 r1 r2 r3 r4 : Int) (w : World) (hG : Glob gb w) (hr0 : Kd.C (Kd.slice 23 (Kd.int .u64)) w A0 l0.length l0) (hc0 : l0.length ≤ c0) (h : far_Follow.f l0 a1 a2 = some (r1, r2, r3, r4)) :
    Calls Tryd.prog 14 #[.slice A0 l0.length c0, .int .i64 a1, .int .i64 a2] w fun e w' => e = .returned (.tuple #[.int .u64 r1, .int .i64 r2, .int .i64 r3, .int .i64 r4]) ∧ Below w.heap.size w w' := by
  have hfp : ∀ (p1 p2 p3 p4 p5 p6 : Int) (p7 : Bool) (p8 p9 p10 : Int) (W : World), (Instr.field 39 (Value.agg #[.int .i64 p1, .int .i64 p2, .int .i64 p3, .int .i64 p4, .int .i64 p5, .int .i64 p6, .bool p7, .int .i64 p8, .int .u32 p9, .int .u32 p10]) 6).run Tryd.prog W = .ok (.bool p7) W := fun p1 p2 p3 p4 p5 p6 p7 p8 p9 p10 W => by kernel_rfl
  have HG := Aside0.mk hG
  clear hG
  have HR0 := Aside0.mk hr0
  have HC0 := Aside0.mk hc0
  clear hr0 hc0
  have HB := Aside0.mk (Below.refl w.heap.size w)
  have H := h
  unfold far_Follow.f at H
  clear h
  replace H := Option.bind_eq_some_iff.mp H
  obtain ⟨⟨t139, t140⟩, A40, H⟩ := H
  dsimp only at H
  have A4 := Aside0.mk A40
  clear A40
  by_cases c5 : t140 = true
  · subst c5
    have H1 : ((far_IsFar.f t139).bind fun t142 => (if t142 = true then ((pointer_Decode.f t139).bind fun bt143 => (if bt143.2.2.2.2.2.2.1 = true then ((far_double.f l0 t139).bind fun bt153 => (if (bt153.1 == 0 && (bt153.2.1 == 0 && (bt153.2.2.1 == 0))) = true then (if bt153.2.2.2 = 0 then (some (bt153.1, bt153.2.1, bt153.2.2.1, 0)) else (some (0, 0, 0, bt153.2.2.2))) else (some (bt153.1, bt153.2.1, bt153.2.2.1, 0)))) else ((far_single.f l0 t139).bind fun bt157 => (if (bt157.1 == 0 && (bt157.2.1 == 0 && (bt157.2.2.1 == 0))) = true then (if bt157.2.2.2 = 0 then (some (bt157.1, bt157.2.1, bt157.2.2.1, 0)) else (some (0, 0, 0, bt157.2.2.2))) else (some (bt157.1, bt157.2.1, bt157.2.2.1, 0)))))) else (if (t139 == 0 && (a1 == 0 && ((wrap64 (a2 + 1)) == 0))) = true then (if 0 = 0 then (some (t139, a1, wrap64 (a2 + 1), 0)) else (some (0, 0, 0, 0))) else (some (t139, a1, wrap64 (a2 + 1), 0))))) = some (r1, r2, r3, r4) := by rw [if_pos rfl] at H; exact H
    clear H
    have H := H1
    clear H1
    replace H := Option.bind_eq_some_iff.mp H
    obtain ⟨t142, A60, H⟩ := H
    have A6 := Aside0.mk A60
    clear A60
    by_cases c7 : t142 = true
    · subst c7
      have H1 : ((pointer_Decode.f t139).bind fun bt143 => (if bt143.2.2.2.2.2.2.1 = true then ((far_double.f l0 t139).bind fun bt153 => (if (bt153.1 == 0 && (bt153.2.1 == 0 && (bt153.2.2.1 == 0))) = true then (if bt153.2.2.2 = 0 then (some (bt153.1, bt153.2.1, bt153.2.2.1, 0)) else (some (0, 0, 0, bt153.2.2.2))) else (some (bt153.1, bt153.2.1, bt153.2.2.1, 0)))) else ((far_single.f l0 t139).bind fun bt157 => (if (bt157.1 == 0 && (bt157.2.1 == 0 && (bt157.2.2.1 == 0))) = true then (if bt157.2.2.2 = 0 then (some (bt157.1, bt157.2.1, bt157.2.2.1, 0)) else (some (0, 0, 0, bt157.2.2.2))) else (some (bt157.1, bt157.2.1, bt157.2.2.1, 0)))))) = some (r1, r2, r3, r4) := by rw [if_pos rfl] at H; exact H
      clear H
      have H := H1
      clear H1
      replace H := Option.bind_eq_some_iff.mp H
      obtain ⟨⟨t143, t144, t145, t146, t147, t148, t149, t150, t151, t152⟩, A80, H⟩ := H
      dsimp only at H
      have A8 := Aside0.mk A80
      clear A80
      by_cases c9 : t149 = true
      · subst c9
        have H1 : ((far_double.f l0 t139).bind fun bt153 => (if (bt153.1 == 0 && (bt153.2.1 == 0 && (bt153.2.2.1 == 0))) = true then (if bt153.2.2.2 = 0 then (some (bt153.1, bt153.2.1, bt153.2.2.1, 0)) else (some (0, 0, 0, bt153.2.2.2))) else (some (bt153.1, bt153.2.1, bt153.2.2.1, 0)))) = some (r1, r2, r3, r4) := by rw [if_pos rfl] at H; exact H
        clear H
        have H := H1
        clear H1
        replace H := Option.bind_eq_some_iff.mp H
        obtain ⟨⟨t153, t154, t155, t156⟩, A100, H⟩ := H
        dsimp only at H
        have A10 := Aside0.mk A100
        clear A100
        by_cases c11 : (t153 == 0 && (t154 == 0 && (t155 == 0))) = true
        · rw [if_pos c11] at H
          have c11b0 : (t153 == 0 && (t154 == 0 && (t155 == 0))) = true := c11
          (try (skip))
          (try (skip))
          clear c11
          by_cases c12 : t156 = 0
          · rw [if_pos c12] at H
            have c12b1 : (t156 != 0) = false := bne_eq_false_iff_eq.mpr c12
            clear c12
            simp only [Option.some.injEq, Prod.mk.injEq] at H
            obtain ⟨rfl, rfl, rfl, rfl⟩ := H
            go_enter Tryd.func14, Tryd.ntmps14
            go_wp2_with (first | (go_at_call 32; (with_reducible refine (arena_Word.calls _ _ l0 a1 a2 t139 true _ ?side1 ?side2 A4.out).mono ?_); (case side1 => repeat (exact HR0.out)); (case side2 => exact HC0.out); rintro e w' ⟨rfl, ⟨nd, rfl⟩⟩; (try fail)) | ((with_reducible refine gate_dst (N := 12) rfl ?_); refine box_event ?hg (N := 12) ?hd (cs := #[.int .u64 0, .int .i64 0, .int .i64 0]) (t := 60) ?hr ?_; (case hd => rfl); (case hg => rfl); (case hr => (go_simp; done)); intro gb141 hg w13 hbox hb; replace BK141 := Aside0.mk (hbox); replace GE141 := Aside0.mk ((by rw [hg]; exact (below_size (by repeat ((with_reducible first | exact HB.out | apply pw_below_drewN)))) : w.heap.size ≤ gb141)); replace HB := Aside0.mk (below_step (by repeat ((with_reducible first | exact HB.out | apply pw_below_drewN))) hb); clear hb hbox hg; have hcz14_0 : w13.cell? ⟨gb141, 0, none⟩ = some (.int .u64 0) := (blk_cell BK141.out 0).trans rfl; have hcz14_1 : w13.cell? ⟨gb141, 1, none⟩ = some (.int .i64 0) := (blk_cell BK141.out 1).trans rfl; have hcz14_2 : w13.cell? ⟨gb141, 2, none⟩ = some (.int .i64 0) := (blk_cell BK141.out 2).trans rfl; have hfz14_0 := blk_frozen BK141.out 0; have hfz14_1 := blk_frozen BK141.out 1; have hfz14_2 := blk_frozen BK141.out 2) | (go_at_call 16; (with_reducible refine (far_IsFar.calls (gb := gb) t139 true _ ?side1 A6.out).mono ?_); (case side1 => exact Glob.below HG.out (by repeat ((with_reducible first | exact HB.out | refine below_set ?_ GE141.out)))); rintro e w15 ⟨rfl, hb⟩; replace BK141 := Aside0.mk (blk_below (g := gb141) (o := .cells #[.int .u64 t139, .int .i64 a1, .int .i64 (wrap64 (a2 + 1))] 60 (0, 0)) (by refine blk_put (cs := #[.int .u64 t139, .int .i64 a1, .int .i64 0]) ?_ 2 _ rfl; refine blk_put (cs := #[.int .u64 t139, .int .i64 0, .int .i64 0]) ?_ 1 _ rfl; refine blk_put (cs := #[.int .u64 0, .int .i64 0, .int .i64 0]) ?_ 0 _ rfl; exact BK141.out) hb); replace HB := Aside0.mk (below_step (by repeat ((with_reducible first | exact HB.out | refine below_set ?_ GE141.out))) hb); (try clear hb)) | (go_at_call 34; (with_reducible refine (pointer_Decode.calls (gb := gb) t139 t143 t144 t145 t146 t147 t148 true t150 t151 t152 _ ?side1 A8.out).mono ?_); (case side1 => exact Glob.below HG.out HB.out); rintro e w16 ⟨rfl, hb⟩; replace BK141 := Aside0.mk (blk_below BK141.out hb); replace HB := Aside0.mk (below_step HB.out hb); (try clear hb)) | (go_at_call 35; (with_reducible refine (far_double.calls (gb := gb) _ _ l0 t139 t153 t154 t155 t156 _ ?side1 ?side2 ?side3 A10.out).mono ?_); (case side1 => exact Glob.below HG.out HB.out); (case side2 => repeat ((exact (Kd.C_below HR0.out HB.out)))); (case side3 => exact HC0.out); rintro e w17 ⟨rfl, hb⟩; replace BK141 := Aside0.mk (blk_below BK141.out hb); replace HB := Aside0.mk (below_step HB.out hb); (try clear hb); have hcz18_0 : w17.cell? ⟨gb141, 0, none⟩ = some (.int .u64 t139) := (blk_cell BK141.out 0).trans rfl; have hcz18_1 : w17.cell? ⟨gb141, 1, none⟩ = some (.int .i64 a1) := (blk_cell BK141.out 1).trans rfl; have hcz18_2 : w17.cell? ⟨gb141, 2, none⟩ = some (.int .i64 (wrap64 (a2 + 1))) := (blk_cell BK141.out 2).trans rfl; have hfz18_0 := blk_frozen BK141.out 0; have hfz18_1 := blk_frozen BK141.out 1; have hfz18_2 := blk_frozen BK141.out 2))
            repeat (go_quiet (fail); try go_wp2_with (fail))
            refine bodyPost_ret (results_list (rs := [.tmp 6, .tmp 7, .tmp 8, .tmp 9]) rfl (by simp) (.tmp (.tmp (.tmp (.tmp .nil))))) rfl ?_
            exact ⟨by rfl, by repeat ((with_reducible first | exact HB.out | apply pw_below_drewN | refine below_set ?_ GE141.out))⟩
          · rw [if_neg c12] at H
            have c12b1 : (t156 != 0) = true := bne_iff_ne.mpr c12
            simp only [Option.some.injEq, Prod.mk.injEq] at H
            obtain ⟨rfl, rfl, rfl, rfl⟩ := H
            go_enter Tryd.func14, Tryd.ntmps14
            go_wp2_with (first | (go_at_call 32; (with_reducible refine (arena_Word.calls _ _ l0 a1 a2 t139 true _ ?side1 ?side2 A4.out).mono ?_); (case side1 => repeat (exact HR0.out)); (case side2 => exact HC0.out); rintro e w' ⟨rfl, ⟨nd, rfl⟩⟩; (try fail)) | ((with_reducible refine gate_dst (N := 12) rfl ?_); refine box_event ?hg (N := 12) ?hd (cs := #[.int .u64 0, .int .i64 0, .int .i64 0]) (t := 60) ?hr ?_; (case hd => rfl); (case hg => rfl); (case hr => (go_simp; done)); intro gb141 hg w19 hbox hb; replace BK141 := Aside0.mk (hbox); replace GE141 := Aside0.mk ((by rw [hg]; exact (below_size (by repeat ((with_reducible first | exact HB.out | apply pw_below_drewN)))) : w.heap.size ≤ gb141)); replace HB := Aside0.mk (below_step (by repeat ((with_reducible first | exact HB.out | apply pw_below_drewN))) hb); clear hb hbox hg; have hcz20_0 : w19.cell? ⟨gb141, 0, none⟩ = some (.int .u64 0) := (blk_cell BK141.out 0).trans rfl; have hcz20_1 : w19.cell? ⟨gb141, 1, none⟩ = some (.int .i64 0) := (blk_cell BK141.out 1).trans rfl; have hcz20_2 : w19.cell? ⟨gb141, 2, none⟩ = some (.int .i64 0) := (blk_cell BK141.out 2).trans rfl; have hfz20_0 := blk_frozen BK141.out 0; have hfz20_1 := blk_frozen BK141.out 1; have hfz20_2 := blk_frozen BK141.out 2) | (go_at_call 16; (with_reducible refine (far_IsFar.calls (gb := gb) t139 true _ ?side1 A6.out).mono ?_); (case side1 => exact Glob.below HG.out (by repeat ((with_reducible first | exact HB.out | refine below_set ?_ GE141.out)))); rintro e w21 ⟨rfl, hb⟩; replace BK141 := Aside0.mk (blk_below (g := gb141) (o := .cells #[.int .u64 t139, .int .i64 a1, .int .i64 (wrap64 (a2 + 1))] 60 (0, 0)) (by refine blk_put (cs := #[.int .u64 t139, .int .i64 a1, .int .i64 0]) ?_ 2 _ rfl; refine blk_put (cs := #[.int .u64 t139, .int .i64 0, .int .i64 0]) ?_ 1 _ rfl; refine blk_put (cs := #[.int .u64 0, .int .i64 0, .int .i64 0]) ?_ 0 _ rfl; exact BK141.out) hb); replace HB := Aside0.mk (below_step (by repeat ((with_reducible first | exact HB.out | refine below_set ?_ GE141.out))) hb); (try clear hb)) | (go_at_call 34; (with_reducible refine (pointer_Decode.calls (gb := gb) t139 t143 t144 t145 t146 t147 t148 true t150 t151 t152 _ ?side1 A8.out).mono ?_); (case side1 => exact Glob.below HG.out HB.out); rintro e w22 ⟨rfl, hb⟩; replace BK141 := Aside0.mk (blk_below BK141.out hb); replace HB := Aside0.mk (below_step HB.out hb); (try clear hb)) | (go_at_call 35; (with_reducible refine (far_double.calls (gb := gb) _ _ l0 t139 t153 t154 t155 t156 _ ?side1 ?side2 ?side3 A10.out).mono ?_); (case side1 => exact Glob.below HG.out HB.out); (case side2 => repeat ((exact (Kd.C_below HR0.out HB.out)))); (case side3 => exact HC0.out); rintro e w23 ⟨rfl, hb⟩; replace BK141 := Aside0.mk (blk_below BK141.out hb); replace HB := Aside0.mk (below_step HB.out hb); (try clear hb); have hcz24_0 : w23.cell? ⟨gb141, 0, none⟩ = some (.int .u64 t139) := (blk_cell BK141.out 0).trans rfl; have hcz24_1 : w23.cell? ⟨gb141, 1, none⟩ = some (.int .i64 a1) := (blk_cell BK141.out 1).trans rfl; have hcz24_2 : w23.cell? ⟨gb141, 2, none⟩ = some (.int .i64 (wrap64 (a2 + 1))) := (blk_cell BK141.out 2).trans rfl; have hfz24_0 := blk_frozen BK141.out 0; have hfz24_1 := blk_frozen BK141.out 1; have hfz24_2 := blk_frozen BK141.out 2))
            repeat (go_quiet (fail); try go_wp2_with (fail))
            refine bodyPost_ret (results_list (rs := [.tmp 6, .tmp 7, .tmp 8, .tmp 9]) rfl (by simp) (.tmp (.tmp (.tmp (.tmp .nil))))) rfl ?_
            exact ⟨by rfl, by repeat ((with_reducible first | exact HB.out | refine below_set ?_ GE141.out))⟩
        · rw [if_neg c11] at H
          have c11b0 : (t153 == 0 && (t154 == 0 && (t155 == 0))) = false := by simpa using c11
          (try (skip))
          (try (skip))
          (try (skip))
          clear c11
          simp only [Option.some.injEq, Prod.mk.injEq] at H
          obtain ⟨rfl, rfl, rfl, rfl⟩ := H
          go_enter Tryd.func14, Tryd.ntmps14
          go_wp2_with (first | (go_at_call 32; (with_reducible refine (arena_Word.calls _ _ l0 a1 a2 t139 true _ ?side1 ?side2 A4.out).mono ?_); (case side1 => repeat (exact HR0.out)); (case side2 => exact HC0.out); rintro e w' ⟨rfl, ⟨nd, rfl⟩⟩; (try fail)) | ((with_reducible refine gate_dst (N := 12) rfl ?_); refine box_event ?hg (N := 12) ?hd (cs := #[.int .u64 0, .int .i64 0, .int .i64 0]) (t := 60) ?hr ?_; (case hd => rfl); (case hg => rfl); (case hr => (go_simp; done)); intro gb141 hg w25 hbox hb; replace BK141 := Aside0.mk (hbox); replace GE141 := Aside0.mk ((by rw [hg]; exact (below_size (by repeat ((with_reducible first | exact HB.out | apply pw_below_drewN)))) : w.heap.size ≤ gb141)); replace HB := Aside0.mk (below_step (by repeat ((with_reducible first | exact HB.out | apply pw_below_drewN))) hb); clear hb hbox hg; have hcz26_0 : w25.cell? ⟨gb141, 0, none⟩ = some (.int .u64 0) := (blk_cell BK141.out 0).trans rfl; have hcz26_1 : w25.cell? ⟨gb141, 1, none⟩ = some (.int .i64 0) := (blk_cell BK141.out 1).trans rfl; have hcz26_2 : w25.cell? ⟨gb141, 2, none⟩ = some (.int .i64 0) := (blk_cell BK141.out 2).trans rfl; have hfz26_0 := blk_frozen BK141.out 0; have hfz26_1 := blk_frozen BK141.out 1; have hfz26_2 := blk_frozen BK141.out 2) | (go_at_call 16; (with_reducible refine (far_IsFar.calls (gb := gb) t139 true _ ?side1 A6.out).mono ?_); (case side1 => exact Glob.below HG.out (by repeat ((with_reducible first | exact HB.out | refine below_set ?_ GE141.out)))); rintro e w27 ⟨rfl, hb⟩; replace BK141 := Aside0.mk (blk_below (g := gb141) (o := .cells #[.int .u64 t139, .int .i64 a1, .int .i64 (wrap64 (a2 + 1))] 60 (0, 0)) (by refine blk_put (cs := #[.int .u64 t139, .int .i64 a1, .int .i64 0]) ?_ 2 _ rfl; refine blk_put (cs := #[.int .u64 t139, .int .i64 0, .int .i64 0]) ?_ 1 _ rfl; refine blk_put (cs := #[.int .u64 0, .int .i64 0, .int .i64 0]) ?_ 0 _ rfl; exact BK141.out) hb); replace HB := Aside0.mk (below_step (by repeat ((with_reducible first | exact HB.out | refine below_set ?_ GE141.out))) hb); (try clear hb)) | (go_at_call 34; (with_reducible refine (pointer_Decode.calls (gb := gb) t139 t143 t144 t145 t146 t147 t148 true t150 t151 t152 _ ?side1 A8.out).mono ?_); (case side1 => exact Glob.below HG.out HB.out); rintro e w28 ⟨rfl, hb⟩; replace BK141 := Aside0.mk (blk_below BK141.out hb); replace HB := Aside0.mk (below_step HB.out hb); (try clear hb)) | (go_at_call 35; (with_reducible refine (far_double.calls (gb := gb) _ _ l0 t139 t153 t154 t155 t156 _ ?side1 ?side2 ?side3 A10.out).mono ?_); (case side1 => exact Glob.below HG.out HB.out); (case side2 => repeat ((exact (Kd.C_below HR0.out HB.out)))); (case side3 => exact HC0.out); rintro e w29 ⟨rfl, hb⟩; replace BK141 := Aside0.mk (blk_below BK141.out hb); replace HB := Aside0.mk (below_step HB.out hb); (try clear hb); have hcz30_0 : w29.cell? ⟨gb141, 0, none⟩ = some (.int .u64 t139) := (blk_cell BK141.out 0).trans rfl; have hcz30_1 : w29.cell? ⟨gb141, 1, none⟩ = some (.int .i64 a1) := (blk_cell BK141.out 1).trans rfl; have hcz30_2 : w29.cell? ⟨gb141, 2, none⟩ = some (.int .i64 (wrap64 (a2 + 1))) := (blk_cell BK141.out 2).trans rfl; have hfz30_0 := blk_frozen BK141.out 0; have hfz30_1 := blk_frozen BK141.out 1; have hfz30_2 := blk_frozen BK141.out 2))
          repeat (go_quiet (fail); try go_wp2_with (fail))
          refine bodyPost_ret (results_list (rs := [.tmp 6, .tmp 7, .tmp 8, .tmp 9]) rfl (by simp) (.tmp (.tmp (.tmp (.tmp .nil))))) rfl ?_
          exact ⟨by rfl, by repeat ((with_reducible first | exact HB.out | apply pw_below_drewN | refine below_set ?_ GE141.out))⟩
      · replace c9 := Bool.eq_false_iff.mpr c9
        subst c9
        have H1 : ((far_single.f l0 t139).bind fun bt157 => (if (bt157.1 == 0 && (bt157.2.1 == 0 && (bt157.2.2.1 == 0))) = true then (if bt157.2.2.2 = 0 then (some (bt157.1, bt157.2.1, bt157.2.2.1, 0)) else (some (0, 0, 0, bt157.2.2.2))) else (some (bt157.1, bt157.2.1, bt157.2.2.1, 0)))) = some (r1, r2, r3, r4) := by rw [if_neg (show ¬ (false = true) by decide)] at H; exact H
        clear H
        have H := H1
        clear H1
        replace H := Option.bind_eq_some_iff.mp H
        obtain ⟨⟨t157, t158, t159, t160⟩, A310, H⟩ := H
        dsimp only at H
        have A31 := Aside0.mk A310
        clear A310
        by_cases c32 : (t157 == 0 && (t158 == 0 && (t159 == 0))) = true
        · rw [if_pos c32] at H
          have c32b0 : (t157 == 0 && (t158 == 0 && (t159 == 0))) = true := c32
          (try (skip))
          (try (skip))
          clear c32
          by_cases c33 : t160 = 0
          · rw [if_pos c33] at H
            have c33b1 : (t160 != 0) = false := bne_eq_false_iff_eq.mpr c33
            clear c33
            simp only [Option.some.injEq, Prod.mk.injEq] at H
            obtain ⟨rfl, rfl, rfl, rfl⟩ := H
            go_enter Tryd.func14, Tryd.ntmps14
            go_wp2_with (first | (go_at_call 32; (with_reducible refine (arena_Word.calls _ _ l0 a1 a2 t139 true _ ?side1 ?side2 A4.out).mono ?_); (case side1 => repeat (exact HR0.out)); (case side2 => exact HC0.out); rintro e w' ⟨rfl, ⟨nd, rfl⟩⟩; (try fail)) | ((with_reducible refine gate_dst (N := 12) rfl ?_); refine box_event ?hg (N := 12) ?hd (cs := #[.int .u64 0, .int .i64 0, .int .i64 0]) (t := 60) ?hr ?_; (case hd => rfl); (case hg => rfl); (case hr => (go_simp; done)); intro gb141 hg w34 hbox hb; replace BK141 := Aside0.mk (hbox); replace GE141 := Aside0.mk ((by rw [hg]; exact (below_size (by repeat ((with_reducible first | exact HB.out | apply pw_below_drewN)))) : w.heap.size ≤ gb141)); replace HB := Aside0.mk (below_step (by repeat ((with_reducible first | exact HB.out | apply pw_below_drewN))) hb); clear hb hbox hg; have hcz35_0 : w34.cell? ⟨gb141, 0, none⟩ = some (.int .u64 0) := (blk_cell BK141.out 0).trans rfl; have hcz35_1 : w34.cell? ⟨gb141, 1, none⟩ = some (.int .i64 0) := (blk_cell BK141.out 1).trans rfl; have hcz35_2 : w34.cell? ⟨gb141, 2, none⟩ = some (.int .i64 0) := (blk_cell BK141.out 2).trans rfl; have hfz35_0 := blk_frozen BK141.out 0; have hfz35_1 := blk_frozen BK141.out 1; have hfz35_2 := blk_frozen BK141.out 2) | (go_at_call 16; (with_reducible refine (far_IsFar.calls (gb := gb) t139 true _ ?side1 A6.out).mono ?_); (case side1 => exact Glob.below HG.out (by repeat ((with_reducible first | exact HB.out | refine below_set ?_ GE141.out)))); rintro e w36 ⟨rfl, hb⟩; replace BK141 := Aside0.mk (blk_below (g := gb141) (o := .cells #[.int .u64 t139, .int .i64 a1, .int .i64 (wrap64 (a2 + 1))] 60 (0, 0)) (by refine blk_put (cs := #[.int .u64 t139, .int .i64 a1, .int .i64 0]) ?_ 2 _ rfl; refine blk_put (cs := #[.int .u64 t139, .int .i64 0, .int .i64 0]) ?_ 1 _ rfl; refine blk_put (cs := #[.int .u64 0, .int .i64 0, .int .i64 0]) ?_ 0 _ rfl; exact BK141.out) hb); replace HB := Aside0.mk (below_step (by repeat ((with_reducible first | exact HB.out | refine below_set ?_ GE141.out))) hb); (try clear hb)) | (go_at_call 34; (with_reducible refine (pointer_Decode.calls (gb := gb) t139 t143 t144 t145 t146 t147 t148 false t150 t151 t152 _ ?side1 A8.out).mono ?_); (case side1 => exact Glob.below HG.out HB.out); rintro e w37 ⟨rfl, hb⟩; replace BK141 := Aside0.mk (blk_below BK141.out hb); replace HB := Aside0.mk (below_step HB.out hb); (try clear hb)) | (go_at_call 33; (with_reducible refine (far_single.calls (gb := gb) _ _ l0 t139 t157 t158 t159 t160 _ ?side1 ?side2 ?side3 A31.out).mono ?_); (case side1 => exact Glob.below HG.out HB.out); (case side2 => repeat ((exact (Kd.C_below HR0.out HB.out)))); (case side3 => exact HC0.out); rintro e w38 ⟨rfl, hb⟩; replace BK141 := Aside0.mk (blk_below BK141.out hb); replace HB := Aside0.mk (below_step HB.out hb); (try clear hb); have hcz39_0 : w38.cell? ⟨gb141, 0, none⟩ = some (.int .u64 t139) := (blk_cell BK141.out 0).trans rfl; have hcz39_1 : w38.cell? ⟨gb141, 1, none⟩ = some (.int .i64 a1) := (blk_cell BK141.out 1).trans rfl; have hcz39_2 : w38.cell? ⟨gb141, 2, none⟩ = some (.int .i64 (wrap64 (a2 + 1))) := (blk_cell BK141.out 2).trans rfl; have hfz39_0 := blk_frozen BK141.out 0; have hfz39_1 := blk_frozen BK141.out 1; have hfz39_2 := blk_frozen BK141.out 2))
            repeat (go_quiet (fail); try go_wp2_with (fail))
            refine bodyPost_ret (results_list (rs := [.tmp 6, .tmp 7, .tmp 8, .tmp 9]) rfl (by simp) (.tmp (.tmp (.tmp (.tmp .nil))))) rfl ?_
            exact ⟨by rfl, by repeat ((with_reducible first | exact HB.out | apply pw_below_drewN | refine below_set ?_ GE141.out))⟩
          · rw [if_neg c33] at H
            have c33b1 : (t160 != 0) = true := bne_iff_ne.mpr c33
            simp only [Option.some.injEq, Prod.mk.injEq] at H
            obtain ⟨rfl, rfl, rfl, rfl⟩ := H
            go_enter Tryd.func14, Tryd.ntmps14
            go_wp2_with (first | (go_at_call 32; (with_reducible refine (arena_Word.calls _ _ l0 a1 a2 t139 true _ ?side1 ?side2 A4.out).mono ?_); (case side1 => repeat (exact HR0.out)); (case side2 => exact HC0.out); rintro e w' ⟨rfl, ⟨nd, rfl⟩⟩; (try fail)) | ((with_reducible refine gate_dst (N := 12) rfl ?_); refine box_event ?hg (N := 12) ?hd (cs := #[.int .u64 0, .int .i64 0, .int .i64 0]) (t := 60) ?hr ?_; (case hd => rfl); (case hg => rfl); (case hr => (go_simp; done)); intro gb141 hg w40 hbox hb; replace BK141 := Aside0.mk (hbox); replace GE141 := Aside0.mk ((by rw [hg]; exact (below_size (by repeat ((with_reducible first | exact HB.out | apply pw_below_drewN)))) : w.heap.size ≤ gb141)); replace HB := Aside0.mk (below_step (by repeat ((with_reducible first | exact HB.out | apply pw_below_drewN))) hb); clear hb hbox hg; have hcz41_0 : w40.cell? ⟨gb141, 0, none⟩ = some (.int .u64 0) := (blk_cell BK141.out 0).trans rfl; have hcz41_1 : w40.cell? ⟨gb141, 1, none⟩ = some (.int .i64 0) := (blk_cell BK141.out 1).trans rfl; have hcz41_2 : w40.cell? ⟨gb141, 2, none⟩ = some (.int .i64 0) := (blk_cell BK141.out 2).trans rfl; have hfz41_0 := blk_frozen BK141.out 0; have hfz41_1 := blk_frozen BK141.out 1; have hfz41_2 := blk_frozen BK141.out 2) | (go_at_call 16; (with_reducible refine (far_IsFar.calls (gb := gb) t139 true _ ?side1 A6.out).mono ?_); (case side1 => exact Glob.below HG.out (by repeat ((with_reducible first | exact HB.out | refine below_set ?_ GE141.out)))); rintro e w42 ⟨rfl, hb⟩; replace BK141 := Aside0.mk (blk_below (g := gb141) (o := .cells #[.int .u64 t139, .int .i64 a1, .int .i64 (wrap64 (a2 + 1))] 60 (0, 0)) (by refine blk_put (cs := #[.int .u64 t139, .int .i64 a1, .int .i64 0]) ?_ 2 _ rfl; refine blk_put (cs := #[.int .u64 t139, .int .i64 0, .int .i64 0]) ?_ 1 _ rfl; refine blk_put (cs := #[.int .u64 0, .int .i64 0, .int .i64 0]) ?_ 0 _ rfl; exact BK141.out) hb); replace HB := Aside0.mk (below_step (by repeat ((with_reducible first | exact HB.out | refine below_set ?_ GE141.out))) hb); (try clear hb)) | (go_at_call 34; (with_reducible refine (pointer_Decode.calls (gb := gb) t139 t143 t144 t145 t146 t147 t148 false t150 t151 t152 _ ?side1 A8.out).mono ?_); (case side1 => exact Glob.below HG.out HB.out); rintro e w43 ⟨rfl, hb⟩; replace BK141 := Aside0.mk (blk_below BK141.out hb); replace HB := Aside0.mk (below_step HB.out hb); (try clear hb)) | (go_at_call 33; (with_reducible refine (far_single.calls (gb := gb) _ _ l0 t139 t157 t158 t159 t160 _ ?side1 ?side2 ?side3 A31.out).mono ?_); (case side1 => exact Glob.below HG.out HB.out); (case side2 => repeat ((exact (Kd.C_below HR0.out HB.out)))); (case side3 => exact HC0.out); rintro e w44 ⟨rfl, hb⟩; replace BK141 := Aside0.mk (blk_below BK141.out hb); replace HB := Aside0.mk (below_step HB.out hb); (try clear hb); have hcz45_0 : w44.cell? ⟨gb141, 0, none⟩ = some (.int .u64 t139) := (blk_cell BK141.out 0).trans rfl; have hcz45_1 : w44.cell? ⟨gb141, 1, none⟩ = some (.int .i64 a1) := (blk_cell BK141.out 1).trans rfl; have hcz45_2 : w44.cell? ⟨gb141, 2, none⟩ = some (.int .i64 (wrap64 (a2 + 1))) := (blk_cell BK141.out 2).trans rfl; have hfz45_0 := blk_frozen BK141.out 0; have hfz45_1 := blk_frozen BK141.out 1; have hfz45_2 := blk_frozen BK141.out 2))
            repeat (go_quiet (fail); try go_wp2_with (fail))
            refine bodyPost_ret (results_list (rs := [.tmp 6, .tmp 7, .tmp 8, .tmp 9]) rfl (by simp) (.tmp (.tmp (.tmp (.tmp .nil))))) rfl ?_
            exact ⟨by rfl, by repeat ((with_reducible first | exact HB.out | refine below_set ?_ GE141.out))⟩
        · rw [if_neg c32] at H
          have c32b0 : (t157 == 0 && (t158 == 0 && (t159 == 0))) = false := by simpa using c32
          (try (skip))
          (try (skip))
          (try (skip))
          clear c32
          simp only [Option.some.injEq, Prod.mk.injEq] at H
          obtain ⟨rfl, rfl, rfl, rfl⟩ := H
          go_enter Tryd.func14, Tryd.ntmps14
          go_wp2_with (first | (go_at_call 32; (with_reducible refine (arena_Word.calls _ _ l0 a1 a2 t139 true _ ?side1 ?side2 A4.out).mono ?_); (case side1 => repeat (exact HR0.out)); (case side2 => exact HC0.out); rintro e w' ⟨rfl, ⟨nd, rfl⟩⟩; (try fail)) | ((with_reducible refine gate_dst (N := 12) rfl ?_); refine box_event ?hg (N := 12) ?hd (cs := #[.int .u64 0, .int .i64 0, .int .i64 0]) (t := 60) ?hr ?_; (case hd => rfl); (case hg => rfl); (case hr => (go_simp; done)); intro gb141 hg w46 hbox hb; replace BK141 := Aside0.mk (hbox); replace GE141 := Aside0.mk ((by rw [hg]; exact (below_size (by repeat ((with_reducible first | exact HB.out | apply pw_below_drewN)))) : w.heap.size ≤ gb141)); replace HB := Aside0.mk (below_step (by repeat ((with_reducible first | exact HB.out | apply pw_below_drewN))) hb); clear hb hbox hg; have hcz47_0 : w46.cell? ⟨gb141, 0, none⟩ = some (.int .u64 0) := (blk_cell BK141.out 0).trans rfl; have hcz47_1 : w46.cell? ⟨gb141, 1, none⟩ = some (.int .i64 0) := (blk_cell BK141.out 1).trans rfl; have hcz47_2 : w46.cell? ⟨gb141, 2, none⟩ = some (.int .i64 0) := (blk_cell BK141.out 2).trans rfl; have hfz47_0 := blk_frozen BK141.out 0; have hfz47_1 := blk_frozen BK141.out 1; have hfz47_2 := blk_frozen BK141.out 2) | (go_at_call 16; (with_reducible refine (far_IsFar.calls (gb := gb) t139 true _ ?side1 A6.out).mono ?_); (case side1 => exact Glob.below HG.out (by repeat ((with_reducible first | exact HB.out | refine below_set ?_ GE141.out)))); rintro e w48 ⟨rfl, hb⟩; replace BK141 := Aside0.mk (blk_below (g := gb141) (o := .cells #[.int .u64 t139, .int .i64 a1, .int .i64 (wrap64 (a2 + 1))] 60 (0, 0)) (by refine blk_put (cs := #[.int .u64 t139, .int .i64 a1, .int .i64 0]) ?_ 2 _ rfl; refine blk_put (cs := #[.int .u64 t139, .int .i64 0, .int .i64 0]) ?_ 1 _ rfl; refine blk_put (cs := #[.int .u64 0, .int .i64 0, .int .i64 0]) ?_ 0 _ rfl; exact BK141.out) hb); replace HB := Aside0.mk (below_step (by repeat ((with_reducible first | exact HB.out | refine below_set ?_ GE141.out))) hb); (try clear hb)) | (go_at_call 34; (with_reducible refine (pointer_Decode.calls (gb := gb) t139 t143 t144 t145 t146 t147 t148 false t150 t151 t152 _ ?side1 A8.out).mono ?_); (case side1 => exact Glob.below HG.out HB.out); rintro e w49 ⟨rfl, hb⟩; replace BK141 := Aside0.mk (blk_below BK141.out hb); replace HB := Aside0.mk (below_step HB.out hb); (try clear hb)) | (go_at_call 33; (with_reducible refine (far_single.calls (gb := gb) _ _ l0 t139 t157 t158 t159 t160 _ ?side1 ?side2 ?side3 A31.out).mono ?_); (case side1 => exact Glob.below HG.out HB.out); (case side2 => repeat ((exact (Kd.C_below HR0.out HB.out)))); (case side3 => exact HC0.out); rintro e w50 ⟨rfl, hb⟩; replace BK141 := Aside0.mk (blk_below BK141.out hb); replace HB := Aside0.mk (below_step HB.out hb); (try clear hb); have hcz51_0 : w50.cell? ⟨gb141, 0, none⟩ = some (.int .u64 t139) := (blk_cell BK141.out 0).trans rfl; have hcz51_1 : w50.cell? ⟨gb141, 1, none⟩ = some (.int .i64 a1) := (blk_cell BK141.out 1).trans rfl; have hcz51_2 : w50.cell? ⟨gb141, 2, none⟩ = some (.int .i64 (wrap64 (a2 + 1))) := (blk_cell BK141.out 2).trans rfl; have hfz51_0 := blk_frozen BK141.out 0; have hfz51_1 := blk_frozen BK141.out 1; have hfz51_2 := blk_frozen BK141.out 2))
          repeat (go_quiet (fail); try go_wp2_with (fail))
          refine bodyPost_ret (results_list (rs := [.tmp 6, .tmp 7, .tmp 8, .tmp 9]) rfl (by simp) (.tmp (.tmp (.tmp (.tmp .nil))))) rfl ?_
          exact ⟨by rfl, by repeat ((with_reducible first | exact HB.out | apply pw_below_drewN | refine below_set ?_ GE141.out))⟩
    · replace c7 := Bool.eq_false_iff.mpr c7
      subst c7
      have H1 : (if (t139 == 0 && (a1 == 0 && ((wrap64 (a2 + 1)) == 0))) = true then (if 0 = 0 then (some (t139, a1, wrap64 (a2 + 1), 0)) else (some (0, 0, 0, 0))) else (some (t139, a1, wrap64 (a2 + 1), 0))) = some (r1, r2, r3, r4) := by rw [if_neg (show ¬ (false = true) by decide)] at H; exact H
      clear H
      have H := H1
      clear H1
      by_cases c52 : (t139 == 0 && (a1 == 0 && ((wrap64 (a2 + 1)) == 0))) = true
      · rw [if_pos c52] at H
        have c52b0 : (t139 == 0 && (a1 == 0 && ((wrap64 (a2 + 1)) == 0))) = true := c52
        (try (skip))
        (try (skip))
        clear c52
        by_cases c53 : 0 = 0
        · rw [if_pos c53] at H
          clear c53
          simp only [Option.some.injEq, Prod.mk.injEq] at H
          obtain ⟨rfl, rfl, rfl, rfl⟩ := H
          go_enter Tryd.func14, Tryd.ntmps14
          go_wp2_with (first | (go_at_call 32; (with_reducible refine (arena_Word.calls _ _ l0 a1 a2 t139 true _ ?side1 ?side2 A4.out).mono ?_); (case side1 => repeat (exact HR0.out)); (case side2 => exact HC0.out); rintro e w' ⟨rfl, ⟨nd, rfl⟩⟩; (try fail)) | ((with_reducible refine gate_dst (N := 12) rfl ?_); refine box_event ?hg (N := 12) ?hd (cs := #[.int .u64 0, .int .i64 0, .int .i64 0]) (t := 60) ?hr ?_; (case hd => rfl); (case hg => rfl); (case hr => (go_simp; done)); intro gb141 hg w54 hbox hb; replace BK141 := Aside0.mk (hbox); replace GE141 := Aside0.mk ((by rw [hg]; exact (below_size (by repeat ((with_reducible first | exact HB.out | apply pw_below_drewN)))) : w.heap.size ≤ gb141)); replace HB := Aside0.mk (below_step (by repeat ((with_reducible first | exact HB.out | apply pw_below_drewN))) hb); clear hb hbox hg; have hcz55_0 : w54.cell? ⟨gb141, 0, none⟩ = some (.int .u64 0) := (blk_cell BK141.out 0).trans rfl; have hcz55_1 : w54.cell? ⟨gb141, 1, none⟩ = some (.int .i64 0) := (blk_cell BK141.out 1).trans rfl; have hcz55_2 : w54.cell? ⟨gb141, 2, none⟩ = some (.int .i64 0) := (blk_cell BK141.out 2).trans rfl; have hfz55_0 := blk_frozen BK141.out 0; have hfz55_1 := blk_frozen BK141.out 1; have hfz55_2 := blk_frozen BK141.out 2) | (go_at_call 16; (with_reducible refine (far_IsFar.calls (gb := gb) t139 false _ ?side1 A6.out).mono ?_); (case side1 => exact Glob.below HG.out (by repeat ((with_reducible first | exact HB.out | refine below_set ?_ GE141.out)))); rintro e w56 ⟨rfl, hb⟩; replace BK141 := Aside0.mk (blk_below (g := gb141) (o := .cells #[.int .u64 t139, .int .i64 a1, .int .i64 (wrap64 (a2 + 1))] 60 (0, 0)) (by refine blk_put (cs := #[.int .u64 t139, .int .i64 a1, .int .i64 0]) ?_ 2 _ rfl; refine blk_put (cs := #[.int .u64 t139, .int .i64 0, .int .i64 0]) ?_ 1 _ rfl; refine blk_put (cs := #[.int .u64 0, .int .i64 0, .int .i64 0]) ?_ 0 _ rfl; exact BK141.out) hb); replace HB := Aside0.mk (below_step (by repeat ((with_reducible first | exact HB.out | refine below_set ?_ GE141.out))) hb); (try clear hb); have hcz57_0 : w56.cell? ⟨gb141, 0, none⟩ = some (.int .u64 t139) := (blk_cell BK141.out 0).trans rfl; have hcz57_1 : w56.cell? ⟨gb141, 1, none⟩ = some (.int .i64 a1) := (blk_cell BK141.out 1).trans rfl; have hcz57_2 : w56.cell? ⟨gb141, 2, none⟩ = some (.int .i64 (wrap64 (a2 + 1))) := (blk_cell BK141.out 2).trans rfl))
          repeat (go_quiet (fail); try go_wp2_with (fail))
          refine bodyPost_ret (results_list (rs := [.tmp 6, .tmp 7, .tmp 8, .tmp 9]) rfl (by simp) (.tmp (.tmp (.tmp (.tmp .nil))))) rfl ?_
          exact ⟨by rfl, by repeat ((with_reducible first | exact HB.out | apply pw_below_drewN))⟩
        · exact absurd rfl c53
      · rw [if_neg c52] at H
        have c52b0 : (t139 == 0 && (a1 == 0 && ((wrap64 (a2 + 1)) == 0))) = false := by simpa using c52
        (try (skip))
        (try (skip))
        (try (skip))
        clear c52
        simp only [Option.some.injEq, Prod.mk.injEq] at H
        obtain ⟨rfl, rfl, rfl, rfl⟩ := H
        go_enter Tryd.func14, Tryd.ntmps14
        go_wp2_with (first | (go_at_call 32; (with_reducible refine (arena_Word.calls _ _ l0 a1 a2 t139 true _ ?side1 ?side2 A4.out).mono ?_); (case side1 => repeat (exact HR0.out)); (case side2 => exact HC0.out); rintro e w' ⟨rfl, ⟨nd, rfl⟩⟩; (try fail)) | ((with_reducible refine gate_dst (N := 12) rfl ?_); refine box_event ?hg (N := 12) ?hd (cs := #[.int .u64 0, .int .i64 0, .int .i64 0]) (t := 60) ?hr ?_; (case hd => rfl); (case hg => rfl); (case hr => (go_simp; done)); intro gb141 hg w62 hbox hb; replace BK141 := Aside0.mk (hbox); replace GE141 := Aside0.mk ((by rw [hg]; exact (below_size (by repeat ((with_reducible first | exact HB.out | apply pw_below_drewN)))) : w.heap.size ≤ gb141)); replace HB := Aside0.mk (below_step (by repeat ((with_reducible first | exact HB.out | apply pw_below_drewN))) hb); clear hb hbox hg; have hcz63_0 : w62.cell? ⟨gb141, 0, none⟩ = some (.int .u64 0) := (blk_cell BK141.out 0).trans rfl; have hcz63_1 : w62.cell? ⟨gb141, 1, none⟩ = some (.int .i64 0) := (blk_cell BK141.out 1).trans rfl; have hcz63_2 : w62.cell? ⟨gb141, 2, none⟩ = some (.int .i64 0) := (blk_cell BK141.out 2).trans rfl; have hfz63_0 := blk_frozen BK141.out 0; have hfz63_1 := blk_frozen BK141.out 1; have hfz63_2 := blk_frozen BK141.out 2) | (go_at_call 16; (with_reducible refine (far_IsFar.calls (gb := gb) t139 false _ ?side1 A6.out).mono ?_); (case side1 => exact Glob.below HG.out (by repeat ((with_reducible first | exact HB.out | refine below_set ?_ GE141.out)))); rintro e w64 ⟨rfl, hb⟩; replace BK141 := Aside0.mk (blk_below (g := gb141) (o := .cells #[.int .u64 t139, .int .i64 a1, .int .i64 (wrap64 (a2 + 1))] 60 (0, 0)) (by refine blk_put (cs := #[.int .u64 t139, .int .i64 a1, .int .i64 0]) ?_ 2 _ rfl; refine blk_put (cs := #[.int .u64 t139, .int .i64 0, .int .i64 0]) ?_ 1 _ rfl; refine blk_put (cs := #[.int .u64 0, .int .i64 0, .int .i64 0]) ?_ 0 _ rfl; exact BK141.out) hb); replace HB := Aside0.mk (below_step (by repeat ((with_reducible first | exact HB.out | refine below_set ?_ GE141.out))) hb); (try clear hb); have hcz65_0 : w64.cell? ⟨gb141, 0, none⟩ = some (.int .u64 t139) := (blk_cell BK141.out 0).trans rfl; have hcz65_1 : w64.cell? ⟨gb141, 1, none⟩ = some (.int .i64 a1) := (blk_cell BK141.out 1).trans rfl; have hcz65_2 : w64.cell? ⟨gb141, 2, none⟩ = some (.int .i64 (wrap64 (a2 + 1))) := (blk_cell BK141.out 2).trans rfl))
        repeat (go_quiet (fail); try go_wp2_with (fail))
        refine bodyPost_ret (results_list (rs := [.tmp 6, .tmp 7, .tmp 8, .tmp 9]) rfl (by simp) (.tmp (.tmp (.tmp (.tmp .nil))))) rfl ?_
        exact ⟨by rfl, by repeat ((with_reducible first | exact HB.out | apply pw_below_drewN))⟩
  · replace c5 := Bool.eq_false_iff.mpr c5
    subst c5
    have H1 : (some (0, 0, 0, 2)) = some (r1, r2, r3, r4) := by rw [if_neg (show ¬ (false = true) by decide)] at H; exact H
    clear H
    have H := H1
    clear H1
    simp only [Option.some.injEq, Prod.mk.injEq] at H
    obtain ⟨rfl, rfl, rfl, rfl⟩ := H
    go_enter Tryd.func14, Tryd.ntmps14
    go_wp2_with ((go_at_call 32; (with_reducible refine (arena_Word.calls _ _ l0 a1 a2 t139 false _ ?side1 ?side2 A4.out).mono ?_); (case side1 => repeat (exact HR0.out)); (case side2 => exact HC0.out); rintro e w' ⟨rfl, ⟨nd, rfl⟩⟩; (try fail)))
    repeat (go_quiet (fail); try go_wp2_with (fail))
    refine bodyPost_ret (results_list (rs := [.tmp 6, .tmp 7, .tmp 8, .tmp 9]) rfl (by simp) (.tmp (.tmp (.tmp (.tmp .nil))))) rfl ?_
    exact ⟨by rfl, by repeat ((with_reducible first | exact HB.out | apply pw_below_drewN))⟩

end Go.Proofs.YtcjhejopcghgnaaDoor.P

namespace Go.Proofs.YtcjhejopcghgnaaDoor.P
open Go.RowKit Go.Proofs.YtcjhejopcghgnaaDoorW.PrintWords Go.Proofs.YtcjhejopcghgnaaDoorW.PrintLast Go.Proofs.YtcjhejopcghgnaaDoorW.PrintMore
attribute [local go_sem] max2_int min2_int max_two min_two max_three min_three max_four min_four   -- for this text's walks alone
set_option linter.unusedVariables false
set_option linter.unusedSimpArgs false

variable {gb : Bool}
/-! ### pointer_IsNull: function 41 -/
def pointer_IsNull.f (a0 : Int) : Option (Bool) := some (a0 == 0)
set_option maxHeartbeats 8000000 in
set_option maxRecDepth 100000 in
theorem pointer_IsNull.calls (a0 : Int) (r : Bool) (w : World) (h : pointer_IsNull.f a0 = some r) :
    Calls Tryd.prog 41 #[.int .u64 a0] w fun e w' => e = .returned (.bool r) ∧ Drawn0 w w' := by
  have H : (some (a0 == 0)) = some r := h
  clear h
  obtain rfl := Option.some.inj H
  go_enter Tryd.func41, Tryd.ntmps41
  go_wp2
  go_ret
  exact ⟨by rfl, by repeat (exact Drawn0.refl _)⟩

end Go.Proofs.YtcjhejopcghgnaaDoor.P

namespace Go.Proofs.YtcjhejopcghgnaaDoor.P
open Go.RowKit Go.Proofs.YtcjhejopcghgnaaDoorW.PrintWords Go.Proofs.YtcjhejopcghgnaaDoorW.PrintLast Go.Proofs.YtcjhejopcghgnaaDoorW.PrintMore
attribute [local go_sem] max2_int min2_int max_two min_two max_three min_three max_four min_four   -- for this text's walks alone
set_option linter.unusedVariables false
set_option linter.unusedSimpArgs false

variable {gb : Bool}
/-! ### resolve_within: function 51 -/
def resolve_within.f (l0 : List (List Int)) (a1_0 a1_1 a1_2 a1_3 a1_4 a1_5 a1_6 a1_7 a2 a3 : Int) : Option (Int × Int × Int × Int × Int × Int × Int × Int × Int) := (arena_InBounds.f l0 a1_1 a2 a3).bind fun t337 => (if t337 = true then (some (a1_0, a1_1, a1_2, a1_3, a1_4, a1_5, a1_6, a1_7, 0)) else (some (0, 0, 0, 0, 0, 0, 0, 0, 2)))
set_option maxHeartbeats 8000000 in
set_option maxRecDepth 100000 in
theorem resolve_within.calls (A0 : Option Addr) (c0 : Nat) (l0 : List (List Int)) (a1_0 a1_1 a1_2 a1_3 a1_4 a1_5 a1_6 a1_7 a2 a3 r1 r2 r3 r4 r5 r6 r7 r8 r9 : Int) (w : World) (hr0 : Kd.C (Kd.slice 23 (Kd.int .u64)) w A0 l0.length l0) (hc0 : l0.length ≤ c0) (h : resolve_within.f l0 a1_0 a1_1 a1_2 a1_3 a1_4 a1_5 a1_6 a1_7 a2 a3 = some (r1, r2, r3, r4, r5, r6, r7, r8, r9)) :
    Calls Tryd.prog 51 #[.slice A0 l0.length c0, .agg #[.int .i64 a1_0, .int .i64 a1_1, .int .i64 a1_2, .int .i64 a1_3, .int .i64 a1_4, .int .i64 a1_5, .int .i64 a1_6, .int .i64 a1_7], .int .i64 a2, .int .i64 a3] w fun e w' => e = .returned (.tuple #[.agg #[.int .i64 r1, .int .i64 r2, .int .i64 r3, .int .i64 r4, .int .i64 r5, .int .i64 r6, .int .i64 r7, .int .i64 r8], .int .i64 r9]) ∧ Below w.heap.size w w' := by
  have HR0 := Aside0.mk hr0
  have HC0 := Aside0.mk hc0
  clear hr0 hc0
  have HB := Aside0.mk (Below.refl w.heap.size w)
  have H : ((arena_InBounds.f l0 a1_1 a2 a3).bind fun t337 => (if t337 = true then (some (a1_0, a1_1, a1_2, a1_3, a1_4, a1_5, a1_6, a1_7, 0)) else (some (0, 0, 0, 0, 0, 0, 0, 0, 2)))) = some (r1, r2, r3, r4, r5, r6, r7, r8, r9) := h
  clear h
  replace H := Option.bind_eq_some_iff.mp H
  obtain ⟨t337, A50, H⟩ := H
  replace H : (if t337 = true then (some (a1_0, a1_1, a1_2, a1_3, a1_4, a1_5, a1_6, a1_7, 0)) else (some (0, 0, 0, 0, 0, 0, 0, 0, 2))) = some (r1, r2, r3, r4, r5, r6, r7, r8, r9) := H
  have A5 := Aside0.mk A50
  clear A50
  by_cases c6 : t337 = true
  · subst c6
    have H1 : (some (a1_0, a1_1, a1_2, a1_3, a1_4, a1_5, a1_6, a1_7, 0)) = some (r1, r2, r3, r4, r5, r6, r7, r8, r9) := by rw [if_pos rfl] at H; exact H
    clear H
    have H := H1
    clear H1
    simp only [Option.some.injEq, Prod.mk.injEq] at H
    obtain ⟨rfl, rfl, rfl, rfl, rfl, rfl, rfl, rfl, rfl⟩ := H
    go_enter Tryd.func51, Tryd.ntmps51
    go_wp2_with (first | ((with_reducible refine gate_dst (N := 5) rfl ?_); refine box_event ?hg (N := 5) ?hd (cs := #[.int .i64 a1_0, .int .i64 a1_1, .int .i64 a1_2, .int .i64 a1_3, .int .i64 a1_4, .int .i64 a1_5, .int .i64 a1_6, .int .i64 a1_7]) (t := 46) ?hr ?_; (case hd => rfl); (case hg => rfl); (case hr => (go_simp; done)); intro gb335 hg w7 hbox hb; replace HB := Aside0.mk (below_step HB.out hb); replace BK335 := Aside0.mk (hbox); clear hb hbox hg) | ((with_reducible refine gate_dst (N := 8) rfl ?_); refine box_event ?hg (N := 8) ?hd (cs := #[.int .i64 0, .int .i64 0, .int .i64 0, .int .i64 0, .int .i64 0, .int .i64 0, .int .i64 0, .int .i64 0]) (t := 46) ?hr ?_; (case hd => rfl); (case hg => rfl); (case hr => (go_simp; done)); intro gb336 hg w8 hbox hb; replace BK335 := Aside0.mk (blk_below BK335.out hb); replace BK336 := Aside0.mk (hbox); replace GE336 := Aside0.mk (ge_of HB.out hg); replace HB := Aside0.mk (below_step HB.out hb); clear hb hbox hg; have hcz10_1 : w8.cell? ⟨gb335, 1, none⟩ = some (.int .i64 a1_1) := (blk_cell BK335.out 1).trans rfl) | ((with_reducible refine gate_callee (f := 46) rfl ?_); refine goesL_ (some 15) rfl rfl Tryd.func46 (by kernel_rfl) rfl #[.slice A0 l0.length c0, .int .i64 a1_1, .int .i64 a2, .int .i64 a3] rfl (by (try simp only [List.map_toArray, List.map_cons, List.map_nil]); rfl) ?_; (with_reducible refine (arena_InBounds.calls _ _ l0 a1_1 a2 a3 true _ ?side1 ?side2 A5.out).mono ?_); (case side1 => repeat ((exact (Kd.C_below HR0.out HB.out)))); (case side2 => exact HC0.out); rintro e w' ⟨rfl, ⟨nd, rfl⟩⟩; refine ⟨_, rfl, ?_⟩; (try (rw [drewN_self w8]; generalize hq_ : World.drewN w8 _ = w8; replace BK335 := Aside0.mk (blk_q BK335.out hq_); replace BK336 := Aside0.mk (blk_q BK336.out hq_); replace HB := Aside0.mk (below_q HB.out hq_); (try clear hq_))); obtain ⟨hcz11_0, hcz11_1, hcz11_2, hcz11_3, hcz11_4, hcz11_5, hcz11_6, hcz11_7⟩ := cells8 BK336.out; obtain ⟨hfz11_0, hfz11_1, hfz11_2, hfz11_3, hfz11_4, hfz11_5, hfz11_6, hfz11_7⟩ := frz8 BK336.out; (try (have hcr10_0 : w8.cell? ⟨gb335, 0, none⟩ = some (.int .i64 a1_0) := (blk_cell BK335.out 0).trans rfl)); (try (have hcr10_1 : w8.cell? ⟨gb335, 1, none⟩ = some (.int .i64 a1_1) := (blk_cell BK335.out 1).trans rfl)); (try (have hcr10_2 : w8.cell? ⟨gb335, 2, none⟩ = some (.int .i64 a1_2) := (blk_cell BK335.out 2).trans rfl)); (try (have hcr10_3 : w8.cell? ⟨gb335, 3, none⟩ = some (.int .i64 a1_3) := (blk_cell BK335.out 3).trans rfl)); (try (have hcr10_4 : w8.cell? ⟨gb335, 4, none⟩ = some (.int .i64 a1_4) := (blk_cell BK335.out 4).trans rfl)); (try (have hcr10_5 : w8.cell? ⟨gb335, 5, none⟩ = some (.int .i64 a1_5) := (blk_cell BK335.out 5).trans rfl)); (try (have hcr10_6 : w8.cell? ⟨gb335, 6, none⟩ = some (.int .i64 a1_6) := (blk_cell BK335.out 6).trans rfl)); (try (have hcr10_7 : w8.cell? ⟨gb335, 7, none⟩ = some (.int .i64 a1_7) := (blk_cell BK335.out 7).trans rfl))))
    refine bodyPost_ret (results_ct rfl _ _ gb336 46 #[.int .i64 a1_0, .int .i64 a1_1, .int .i64 a1_2, .int .i64 a1_3, .int .i64 a1_4, .int .i64 a1_5, .int .i64 a1_6, .int .i64 a1_7] (0, 0) _ rfl (by exact put8 BK336.out) Tryd.underlying46 rfl (by kernel_rfl)) rfl ?_
    exact ⟨by rfl, by repeat ((with_reducible first | exact HB.out | refine below_set ?_ GE336.out))⟩
  · replace c6 := Bool.eq_false_iff.mpr c6
    subst c6
    have H1 : (some (0, 0, 0, 0, 0, 0, 0, 0, 2)) = some (r1, r2, r3, r4, r5, r6, r7, r8, r9) := by rw [if_neg (show ¬ (false = true) by decide)] at H; exact H
    clear H
    have H := H1
    clear H1
    simp only [Option.some.injEq, Prod.mk.injEq] at H
    obtain ⟨rfl, rfl, rfl, rfl, rfl, rfl, rfl, rfl, rfl⟩ := H
    go_enter Tryd.func51, Tryd.ntmps51
    go_wp2_with (first | ((with_reducible refine gate_dst (N := 5) rfl ?_); refine box_event ?hg (N := 5) ?hd (cs := #[.int .i64 a1_0, .int .i64 a1_1, .int .i64 a1_2, .int .i64 a1_3, .int .i64 a1_4, .int .i64 a1_5, .int .i64 a1_6, .int .i64 a1_7]) (t := 46) ?hr ?_; (case hd => rfl); (case hg => rfl); (case hr => (go_simp; done)); intro gb335 hg w12 hbox hb; replace HB := Aside0.mk (below_step HB.out hb); replace BK335 := Aside0.mk (hbox); clear hb hbox hg) | ((with_reducible refine gate_dst (N := 8) rfl ?_); refine box_event ?hg (N := 8) ?hd (cs := #[.int .i64 0, .int .i64 0, .int .i64 0, .int .i64 0, .int .i64 0, .int .i64 0, .int .i64 0, .int .i64 0]) (t := 46) ?hr ?_; (case hd => rfl); (case hg => rfl); (case hr => (go_simp; done)); intro gb336 hg w13 hbox hb; replace BK335 := Aside0.mk (blk_below BK335.out hb); replace BK336 := Aside0.mk (hbox); replace GE336 := Aside0.mk (ge_of HB.out hg); replace HB := Aside0.mk (below_step HB.out hb); clear hb hbox hg; have hcz15_1 : w13.cell? ⟨gb335, 1, none⟩ = some (.int .i64 a1_1) := (blk_cell BK335.out 1).trans rfl) | ((with_reducible refine gate_callee (f := 46) rfl ?_); refine goesL_ (some 15) rfl rfl Tryd.func46 (by kernel_rfl) rfl #[.slice A0 l0.length c0, .int .i64 a1_1, .int .i64 a2, .int .i64 a3] rfl (by (try simp only [List.map_toArray, List.map_cons, List.map_nil]); rfl) ?_; (with_reducible refine (arena_InBounds.calls _ _ l0 a1_1 a2 a3 false _ ?side1 ?side2 A5.out).mono ?_); (case side1 => repeat ((exact (Kd.C_below HR0.out HB.out)))); (case side2 => exact HC0.out); rintro e w' ⟨rfl, ⟨nd, rfl⟩⟩; refine ⟨_, rfl, ?_⟩; (try (rw [drewN_self w13]; generalize hq_ : World.drewN w13 _ = w13; replace BK336 := Aside0.mk (blk_q BK336.out hq_); replace HB := Aside0.mk (below_q HB.out hq_); (try clear BK335); (try clear hq_))); obtain ⟨hcz16_0, hcz16_1, hcz16_2, hcz16_3, hcz16_4, hcz16_5, hcz16_6, hcz16_7⟩ := cells8 BK336.out; obtain ⟨hfz16_0, hfz16_1, hfz16_2, hfz16_3, hfz16_4, hfz16_5, hfz16_6, hfz16_7⟩ := frz8 BK336.out; (try (skip)); (try (skip)); (try (skip)); (try (skip)); (try (skip)); (try (skip)); (try (skip)); (try (skip))))
    refine bodyPost_ret (results_ct rfl _ _ gb336 46 #[.int .i64 0, .int .i64 0, .int .i64 0, .int .i64 0, .int .i64 0, .int .i64 0, .int .i64 0, .int .i64 0] (0, 0) _ rfl (by exact put8 BK336.out) Tryd.underlying46 rfl (by kernel_rfl)) rfl ?_
    exact ⟨by rfl, by repeat ((with_reducible first | exact HB.out | refine below_set ?_ GE336.out))⟩

end Go.Proofs.YtcjhejopcghgnaaDoor.P

namespace Go.Proofs.YtcjhejopcghgnaaDoor.P
open Go.RowKit Go.Proofs.YtcjhejopcghgnaaDoorW.PrintWords Go.Proofs.YtcjhejopcghgnaaDoorW.PrintLast Go.Proofs.YtcjhejopcghgnaaDoorW.PrintMore
attribute [local go_sem] max2_int min2_int max_two min_two max_three min_three max_four min_four   -- for this text's walks alone
set_option linter.unusedVariables false
set_option linter.unusedSimpArgs false

variable {gb : Bool}
/-! ### resolve_structure: function 42 -/
def resolve_structure.f (l0 : List (List Int)) (a1_0 a1_1 a1_2 a1_3 a1_4 a1_5 : Int) (a1_6 : Bool) (a1_7 a1_8 a1_9 a2 a3 : Int) : Option (Int × Int × Int × Int × Int × Int × Int × Int × Int) := (resolve_within.f l0 1 a2 a3 a1_2 a1_3 0 0 (wrap64 (a1_2 + a1_3)) a3 (wrap64 (a1_2 + a1_3))).bind fun bt341 => (some (bt341.1, bt341.2.1, bt341.2.2.1, bt341.2.2.2.1, bt341.2.2.2.2.1, bt341.2.2.2.2.2.1, bt341.2.2.2.2.2.2.1, bt341.2.2.2.2.2.2.2.1, bt341.2.2.2.2.2.2.2.2))
set_option maxHeartbeats 8000000 in
set_option maxRecDepth 100000 in
theorem resolve_structure.calls (A0 : Option Addr) (c0 : Nat) (l0 : List (List Int)) (a1_0 a1_1 a1_2 a1_3 a1_4 a1_5 : Int) (a1_6 : Bool) (a1_7 a1_8 a1_9 a2 a3 r1 r2 r3 r4 r5 r6 r7 r8 r9 : Int) (w : World) (hr0 : Kd.C (Kd.slice 23 (Kd.int .u64)) w A0 l0.length l0) (hc0 : l0.length ≤ c0) (h : resolve_structure.f l0 a1_0 a1_1 a1_2 a1_3 a1_4 a1_5 a1_6 a1_7 a1_8 a1_9 a2 a3 = some (r1, r2, r3, r4, r5, r6, r7, r8, r9)) :
    Calls Tryd.prog 42 #[.slice A0 l0.length c0, .agg #[.int .i64 a1_0, .int .i64 a1_1, .int .i64 a1_2, .int .i64 a1_3, .int .i64 a1_4, .int .i64 a1_5, .bool a1_6, .int .i64 a1_7, .int .u32 a1_8, .int .u32 a1_9], .int .i64 a2, .int .i64 a3] w fun e w' => e = .returned (.tuple #[.agg #[.int .i64 r1, .int .i64 r2, .int .i64 r3, .int .i64 r4, .int .i64 r5, .int .i64 r6, .int .i64 r7, .int .i64 r8], .int .i64 r9]) ∧ Below w.heap.size w w' := by
  have HR0 := Aside0.mk hr0
  have HC0 := Aside0.mk hc0
  clear hr0 hc0
  have HB := Aside0.mk (Below.refl w.heap.size w)
  have H := h
  unfold resolve_structure.f at H
  clear h
  replace H := Option.bind_eq_some_iff.mp H
  obtain ⟨⟨t341, t342, t343, t344, t345, t346, t347, t348, t349⟩, A50, H⟩ := H
  replace H : (some (t341, t342, t343, t344, t345, t346, t347, t348, t349)) = some (r1, r2, r3, r4, r5, r6, r7, r8, r9) := H
  have A5 := Aside0.mk A50
  clear A50
  simp only [Option.some.injEq, Prod.mk.injEq] at H
  obtain ⟨rfl, rfl, rfl, rfl, rfl, rfl, rfl, rfl, rfl⟩ := H
  go_enter Tryd.func42, Tryd.ntmps42
  go_wp2_with (first | ((with_reducible refine gate_dst (N := 5) rfl ?_); refine box_event ?hg (N := 5) ?hd (cs := #[.int .i64 a1_0, .int .i64 a1_1, .int .i64 a1_2, .int .i64 a1_3, .int .i64 a1_4, .int .i64 a1_5, .bool a1_6, .int .i64 a1_7, .int .u32 a1_8, .int .u32 a1_9]) (t := 39) ?hr ?_; (case hd => rfl); (case hg => rfl); (case hr => (go_simp; done)); intro gb338 hg w6 hbox hb; replace HB := Aside0.mk (below_step HB.out hb); replace BK338 := Aside0.mk (hbox); clear hb hbox hg) | ((with_reducible refine gate_dst (N := 8) rfl ?_); refine box_event ?hg (N := 8) ?hd (cs := #[.int .i64 0, .int .i64 0, .int .i64 0, .int .i64 0, .int .i64 0, .int .i64 0, .int .i64 0, .int .i64 0]) (t := 46) ?hr ?_; (case hd => rfl); (case hg => rfl); (case hr => (go_simp; done)); intro gb339 hg w7 hbox hb; replace BK338 := Aside0.mk (blk_below BK338.out hb); replace BK339 := Aside0.mk (hbox); replace GE339 := Aside0.mk (ge_of HB.out hg); replace HB := Aside0.mk (below_step HB.out hb); clear hb hbox hg; obtain ⟨-, -, hcz9_2, hcz9_3, -, -, -, -, -, -⟩ := cells10 BK338.out) | ((with_reducible refine gate_dst (N := 10) rfl ?_); refine box_event ?hg (N := 10) ?hd (cs := #[.int .i64 0, .int .i64 0, .int .i64 0, .int .i64 0, .int .i64 0, .int .i64 0, .int .i64 0, .int .i64 0]) (t := 46) ?hr ?_; (case hd => rfl); (case hg => rfl); (case hr => (go_simp; done)); intro gb340 hg w10 hbox hb; replace BK340 := Aside0.mk (hbox); replace GE340 := Aside0.mk (ge_of HB.out hg); replace HB := Aside0.mk (below_step HB.out hb); replace NB339_340 := Aside0.mk (ne_l BK339.out hg); replace BK339 := Aside0.mk (blk_below BK339.out hb); clear hb hbox hg; (try clear BK338); obtain ⟨hcz13_0, hcz13_1, hcz13_2, hcz13_3, hcz13_4, hcz13_5, hcz13_6, hcz13_7⟩ := cells8 BK340.out; obtain ⟨hfz13_0, hfz13_1, hfz13_2, hfz13_3, hfz13_4, hfz13_5, hfz13_6, hfz13_7⟩ := frz8 BK340.out) | ((with_reducible refine gate_callee (f := 51) rfl ?_); refine goesL_ (some 28) rfl rfl Tryd.func51 (by kernel_rfl) rfl #[.slice A0 l0.length c0, .agg #[.int .i64 1, .int .i64 a2, .int .i64 a3, .int .i64 a1_2, .int .i64 a1_3, .int .i64 0, .int .i64 0, .int .i64 (wrap64 (a1_2 + a1_3))], .int .i64 a3, .int .i64 (wrap64 (a1_2 + a1_3))] rfl (by (try simp only [List.map_toArray, List.map_cons, List.map_nil]); rfl) ?_; (with_reducible refine (resolve_within.calls _ _ l0 1 a2 a3 a1_2 a1_3 0 0 (wrap64 (a1_2 + a1_3)) a3 (wrap64 (a1_2 + a1_3)) t341 t342 t343 t344 t345 t346 t347 t348 t349 _ ?side1 ?side2 A5.out).mono ?_); (case side1 => exact Kd.C_below HR0.out (by repeat ((with_reducible first | exact HB.out | refine below_set ?_ GE340.out)))); (case side2 => exact HC0.out); rintro e w14 ⟨rfl, hb⟩; refine ⟨_, rfl, ?_⟩; replace BK339 := Aside0.mk (blk_below (g := gb339) (o := .cells #[.int .i64 0, .int .i64 0, .int .i64 0, .int .i64 0, .int .i64 0, .int .i64 0, .int .i64 0, .int .i64 0] 46 (0, 0)) (by (iterate 8 refine blk_far ?_ NB339_340.out _); exact BK339.out) hb); replace HB := Aside0.mk (below_step (by repeat ((with_reducible first | exact HB.out | refine below_set ?_ GE340.out))) hb); (try clear BK338); (try clear BK340); (try clear hb); obtain ⟨hcz15_0, hcz15_1, hcz15_2, hcz15_3, hcz15_4, hcz15_5, hcz15_6, hcz15_7⟩ := cells8 BK339.out; obtain ⟨hfz15_0, hfz15_1, hfz15_2, hfz15_3, hfz15_4, hfz15_5, hfz15_6, hfz15_7⟩ := frz8 BK339.out))
  refine bodyPost_ret (results_ct rfl _ _ gb339 46 #[.int .i64 t341, .int .i64 t342, .int .i64 t343, .int .i64 t344, .int .i64 t345, .int .i64 t346, .int .i64 t347, .int .i64 t348] (0, 0) _ rfl (by exact put8 BK339.out) Tryd.underlying46 rfl (by kernel_rfl)) rfl ?_
  exact ⟨by rfl, by repeat ((with_reducible first | exact HB.out | refine below_set ?_ GE339.out))⟩

end Go.Proofs.YtcjhejopcghgnaaDoor.P

namespace Go.Proofs.YtcjhejopcghgnaaDoor.P
open Go.RowKit Go.Proofs.YtcjhejopcghgnaaDoorW.PrintWords Go.Proofs.YtcjhejopcghgnaaDoorW.PrintLast Go.Proofs.YtcjhejopcghgnaaDoorW.PrintMore
attribute [local go_sem] max2_int min2_int max_two min_two max_three min_three max_four min_four   -- for this text's walks alone
set_option linter.unusedVariables false
set_option linter.unusedSimpArgs false

variable {gb : Bool}
/-! ### resolve_composite: function 52 -/
mutual
def resolve_composite.j0 : Nat → Int → Int → Int → Bool → Int → Int → Int → Int → Int → Int → Bool → Int → Int → Int → Int → Int → Int → Int → Int → Int → Bool → Int → Int → Int → Option (Int × Int × Int × Int × Int × Int × Int × Int × Int)
  | 0, _, _, _, _, _, _, _, _, _, _, _, _, _, _, _, _, _, _, _, _, _, _, _, _ => none
  | k + 1, x2, x3, x13, x54, x351000, x351001, x351002, x351003, x351004, x351005, x351006, x351007, x351008, x351009, x366000, x366001, x366002, x366003, x366004, x366005, x366006, x366007, x366008, x366009 => if x54 = true then (some (0, 0, 0, 0, 0, 0, 0, 0, 5)) else (if x13 = 0 then (resolve_composite.j1 k 2 x2 (wrap64 (x3 + 1)) x366002 x366003 7 x366001 (wrap64 ((wrap64 (x351005 + 1)) + x366001))) else (resolve_composite.j1 k 2 x2 (wrap64 (x3 + 1)) x366002 x366003 7 x366001 (wrap64 (x351005 + 1))))
def resolve_composite.j1 : Nat → Int → Int → Int → Int → Int → Int → Int → Int → Option (Int × Int × Int × Int × Int × Int × Int × Int × Int)
  | 0, _, _, _, _, _, _, _, _ => none
  | k + 1, x367000, x367001, x367002, x367003, x367004, x367005, x367006, x367007 => some (x367000, x367001, x367002, x367003, x367004, x367005, x367006, x367007, 0)
end
def resolve_composite.f (k : Nat) (l0 : List (List Int)) (a1_0 a1_1 a1_2 a1_3 a1_4 a1_5 : Int) (a1_6 : Bool) (a1_7 a1_8 a1_9 a2 a3 : Int) : Option (Int × Int × Int × Int × Int × Int × Int × Int × Int) := (arena_InBounds.f l0 a2 a3 (wrap64 (a1_5 + 1))).bind fun t352 => (if t352 = true then ((arena_Word.f l0 a2 a3).bind fun bt353 => ((pointer_Decode.f bt353.1).bind fun bt355 => (if bt355.1 = 0 then (if bt355.2.1 < 0 then (resolve_composite.j0 k a2 a3 (wrap64 (bt355.2.2.1 + bt355.2.2.2.1)) true a1_0 a1_1 a1_2 a1_3 a1_4 a1_5 a1_6 a1_7 a1_8 a1_9 bt355.1 bt355.2.1 bt355.2.2.1 bt355.2.2.2.1 bt355.2.2.2.2.1 bt355.2.2.2.2.2.1 bt355.2.2.2.2.2.2.1 bt355.2.2.2.2.2.2.2.1 bt355.2.2.2.2.2.2.2.2.1 bt355.2.2.2.2.2.2.2.2.2) else (resolve_composite.j0 k a2 a3 (wrap64 (bt355.2.2.1 + bt355.2.2.2.1)) (decide ((wrap64 (bt355.2.1 * (wrap64 (bt355.2.2.1 + bt355.2.2.2.1)))) > a1_5)) a1_0 a1_1 a1_2 a1_3 a1_4 a1_5 a1_6 a1_7 a1_8 a1_9 bt355.1 bt355.2.1 bt355.2.2.1 bt355.2.2.2.1 bt355.2.2.2.2.1 bt355.2.2.2.2.2.1 bt355.2.2.2.2.2.2.1 bt355.2.2.2.2.2.2.2.1 bt355.2.2.2.2.2.2.2.2.1 bt355.2.2.2.2.2.2.2.2.2)) else (resolve_composite.j0 k a2 a3 (wrap64 (bt355.2.2.1 + bt355.2.2.2.1)) true a1_0 a1_1 a1_2 a1_3 a1_4 a1_5 a1_6 a1_7 a1_8 a1_9 bt355.1 bt355.2.1 bt355.2.2.1 bt355.2.2.2.1 bt355.2.2.2.2.1 bt355.2.2.2.2.2.1 bt355.2.2.2.2.2.2.1 bt355.2.2.2.2.2.2.2.1 bt355.2.2.2.2.2.2.2.2.1 bt355.2.2.2.2.2.2.2.2.2)))) else (some (0, 0, 0, 0, 0, 0, 0, 0, 2)))
theorem resolve_composite.mono_l : ∀ k, (∀ y0 y1 y2 y3 y4 y5 y6 y7 y8 y9 y10 y11 y12 y13 y14 y15 y16 y17 y18 y19 y20 y21 y22 y23, LeO (resolve_composite.j0 k y0 y1 y2 y3 y4 y5 y6 y7 y8 y9 y10 y11 y12 y13 y14 y15 y16 y17 y18 y19 y20 y21 y22 y23) (resolve_composite.j0 (k + 1) y0 y1 y2 y3 y4 y5 y6 y7 y8 y9 y10 y11 y12 y13 y14 y15 y16 y17 y18 y19 y20 y21 y22 y23)) ∧ (∀ y0 y1 y2 y3 y4 y5 y6 y7, LeO (resolve_composite.j1 k y0 y1 y2 y3 y4 y5 y6 y7) (resolve_composite.j1 (k + 1) y0 y1 y2 y3 y4 y5 y6 y7))
  | 0 => ⟨fun _ _ _ _ _ _ _ _ _ _ _ _ _ _ _ _ _ _ _ _ _ _ _ _ r h => by simp [resolve_composite.j0] at h, fun _ _ _ _ _ _ _ _ r h => by simp [resolve_composite.j1] at h⟩
  | k + 1 => by
    obtain ⟨ih0, ih1⟩ := resolve_composite.mono_l k
    refine ⟨?_, ?_⟩
    · intro y0 y1 y2 y3 y4 y5 y6 y7 y8 y9 y10 y11 y12 y13 y14 y15 y16 y17 y18 y19 y20 y21 y22 y23
      unfold resolve_composite.j0
      repeat' first
      | (with_reducible apply ih1)
      | (with_reducible exact LeO.refl _)
      | (with_reducible refine LeO.ite ?_ ?_)
    · intro y0 y1 y2 y3 y4 y5 y6 y7
      unfold resolve_composite.j1
      repeat' (with_reducible exact LeO.refl _)
theorem resolve_composite.mono : ∀ a0 a1 a2 a3 a4 a5 a6 a7 a8 a9 a10 a11 a12 k, LeO (resolve_composite.f k a0 a1 a2 a3 a4 a5 a6 a7 a8 a9 a10 a11 a12) (resolve_composite.f (k + 1) a0 a1 a2 a3 a4 a5 a6 a7 a8 a9 a10 a11 a12) := by
  intro a0 a1 a2 a3 a4 a5 a6 a7 a8 a9 a10 a11 a12 k
  obtain ⟨ih0, ih1⟩ := resolve_composite.mono_l k
  unfold resolve_composite.f
  repeat' first
      | (with_reducible apply ih0)
      | (with_reducible exact LeO.refl _)
      | (with_reducible refine LeO.ite ?_ ?_)
      | (with_reducible refine LeO.bind ?_ (fun _ => ?_))
set_option maxHeartbeats 8000000 in
set_option maxRecDepth 100000 in
theorem resolve_composite.calls (k : Nat) (A0 : Option Addr) (c0 : Nat) (l0 : List (List Int)) (a1_0 a1_1 a1_2 a1_3 a1_4 a1_5 : Int) (a1_6 : Bool) (a1_7 a1_8 a1_9 a2 a3 r1 r2 r3 r4 r5 r6 r7 r8 r9 : Int) (w : World) (hG : Glob gb w) (hr0 : Kd.C (Kd.slice 23 (Kd.int .u64)) w A0 l0.length l0) (hc0 : l0.length ≤ c0) (h : resolve_composite.f k l0 a1_0 a1_1 a1_2 a1_3 a1_4 a1_5 a1_6 a1_7 a1_8 a1_9 a2 a3 = some (r1, r2, r3, r4, r5, r6, r7, r8, r9)) :
    Calls Tryd.prog 52 #[.slice A0 l0.length c0, .agg #[.int .i64 a1_0, .int .i64 a1_1, .int .i64 a1_2, .int .i64 a1_3, .int .i64 a1_4, .int .i64 a1_5, .bool a1_6, .int .i64 a1_7, .int .u32 a1_8, .int .u32 a1_9], .int .i64 a2, .int .i64 a3] w fun e w' => e = .returned (.tuple #[.agg #[.int .i64 r1, .int .i64 r2, .int .i64 r3, .int .i64 r4, .int .i64 r5, .int .i64 r6, .int .i64 r7, .int .i64 r8], .int .i64 r9]) ∧ Below w.heap.size w w' := by
  have HG := Aside0.mk hG
  clear hG
  have HR0 := Aside0.mk hr0
  have HC0 := Aside0.mk hc0
  clear hr0 hc0
  have HB := Aside0.mk (Below.refl w.heap.size w)
  have H := h
  unfold resolve_composite.f at H
  clear h
  replace H := Option.bind_eq_some_iff.mp H
  obtain ⟨t352, A50, H⟩ := H
  have A5 := Aside0.mk A50
  clear A50
  by_cases c6 : t352 = true
  · subst c6
    have H1 : ((arena_Word.f l0 a2 a3).bind fun bt353 => ((pointer_Decode.f bt353.1).bind fun bt355 => (if bt355.1 = 0 then (if bt355.2.1 < 0 then (resolve_composite.j0 k a2 a3 (wrap64 (bt355.2.2.1 + bt355.2.2.2.1)) true a1_0 a1_1 a1_2 a1_3 a1_4 a1_5 a1_6 a1_7 a1_8 a1_9 bt355.1 bt355.2.1 bt355.2.2.1 bt355.2.2.2.1 bt355.2.2.2.2.1 bt355.2.2.2.2.2.1 bt355.2.2.2.2.2.2.1 bt355.2.2.2.2.2.2.2.1 bt355.2.2.2.2.2.2.2.2.1 bt355.2.2.2.2.2.2.2.2.2) else (resolve_composite.j0 k a2 a3 (wrap64 (bt355.2.2.1 + bt355.2.2.2.1)) (decide ((wrap64 (bt355.2.1 * (wrap64 (bt355.2.2.1 + bt355.2.2.2.1)))) > a1_5)) a1_0 a1_1 a1_2 a1_3 a1_4 a1_5 a1_6 a1_7 a1_8 a1_9 bt355.1 bt355.2.1 bt355.2.2.1 bt355.2.2.2.1 bt355.2.2.2.2.1 bt355.2.2.2.2.2.1 bt355.2.2.2.2.2.2.1 bt355.2.2.2.2.2.2.2.1 bt355.2.2.2.2.2.2.2.2.1 bt355.2.2.2.2.2.2.2.2.2)) else (resolve_composite.j0 k a2 a3 (wrap64 (bt355.2.2.1 + bt355.2.2.2.1)) true a1_0 a1_1 a1_2 a1_3 a1_4 a1_5 a1_6 a1_7 a1_8 a1_9 bt355.1 bt355.2.1 bt355.2.2.1 bt355.2.2.2.1 bt355.2.2.2.2.1 bt355.2.2.2.2.2.1 bt355.2.2.2.2.2.2.1 bt355.2.2.2.2.2.2.2.1 bt355.2.2.2.2.2.2.2.2.1 bt355.2.2.2.2.2.2.2.2.2)))) = some (r1, r2, r3, r4, r5, r6, r7, r8, r9) := by rw [if_pos rfl] at H; exact H
    clear H
    have H := H1
    clear H1
    replace H := Option.bind_eq_some_iff.mp H
    obtain ⟨⟨t353, t354⟩, A70, H⟩ := H
    dsimp only at H
    have A7 := Aside0.mk A70
    clear A70
    replace H := Option.bind_eq_some_iff.mp H
    obtain ⟨⟨t355, t356, t357, t358, t359, t360, t361, t362, t363, t364⟩, A80, H⟩ := H
    dsimp only at H
    have A8 := Aside0.mk A80
    clear A80
    have HC9 := Aside0.mk H
    clear H
    go_enter Tryd.func52, Tryd.ntmps52
    go_upto_region 6 with (first | ((with_reducible refine gate_dst (N := 5) rfl ?_); refine box_event ?hg (N := 5) ?hd (cs := #[.int .i64 a1_0, .int .i64 a1_1, .int .i64 a1_2, .int .i64 a1_3, .int .i64 a1_4, .int .i64 a1_5, .bool a1_6, .int .i64 a1_7, .int .u32 a1_8, .int .u32 a1_9]) (t := 39) ?hr ?_; (case hd => rfl); (case hg => rfl); (case hr => (go_simp; done)); intro gb350 hg w10 hbox hb; replace HB := Aside0.mk (below_step HB.out hb); replace BK350 := Aside0.mk (hbox); clear hb hbox hg) | ((with_reducible refine gate_dst (N := 8) rfl ?_); refine box_event ?hg (N := 8) ?hd (cs := #[.int .i64 0, .int .i64 0, .int .i64 0, .int .i64 0, .int .i64 0, .int .i64 0, .int .i64 0, .int .i64 0]) (t := 46) ?hr ?_; (case hd => rfl); (case hg => rfl); (case hr => (go_simp; done)); intro gb351 hg w11 hbox hb; replace BK351 := Aside0.mk (hbox); replace GE351 := Aside0.mk (ge_of HB.out hg); replace HB := Aside0.mk (below_step HB.out hb); replace NB350_351 := Aside0.mk (ne_l BK350.out hg); replace NB351_350 := Aside0.mk (ne_r BK350.out hg); replace BK350 := Aside0.mk (blk_below BK350.out hb); clear hb hbox hg; have hcz13_5 : w11.cell? ⟨gb350, 5, none⟩ = some (.int .i64 a1_5) := (blk_cell BK350.out 5).trans rfl) | ((with_reducible refine gate_callee (f := 46) rfl ?_); refine goesL_ (some 21) rfl rfl Tryd.func46 (by kernel_rfl) rfl #[.slice A0 l0.length c0, .int .i64 a2, .int .i64 a3, .int .i64 (wrap64 (a1_5 + 1))] rfl (by (try simp only [List.map_toArray, List.map_cons, List.map_nil]); rfl) ?_; (with_reducible refine (arena_InBounds.calls _ _ l0 a2 a3 (wrap64 (a1_5 + 1)) true _ ?side1 ?side2 A5.out).mono ?_); (case side1 => repeat ((exact (Kd.C_below HR0.out HB.out)))); (case side2 => exact HC0.out); rintro e w' ⟨rfl, ⟨nd, rfl⟩⟩; refine ⟨_, rfl, ?_⟩; (try (rw [drewN_self w11]; generalize hq_ : World.drewN w11 _ = w11; replace BK350 := Aside0.mk (blk_q BK350.out hq_); replace BK351 := Aside0.mk (blk_q BK351.out hq_); replace HB := Aside0.mk (below_q HB.out hq_); (try clear hq_)))) | ((with_reducible refine gate_callee (f := 32) rfl ?_); refine goesL_ (some 28) rfl rfl Tryd.func32 (by kernel_rfl) rfl #[.slice A0 l0.length c0, .int .i64 a2, .int .i64 a3] rfl (by (try simp only [List.map_toArray, List.map_cons, List.map_nil]); rfl) ?_; (with_reducible refine (arena_Word.calls _ _ l0 a2 a3 t353 t354 _ ?side1 ?side2 A7.out).mono ?_); (case side1 => repeat ((exact (Kd.C_below HR0.out HB.out)))); (case side2 => exact HC0.out); rintro e w' ⟨rfl, ⟨nd, rfl⟩⟩; refine ⟨_, rfl, ?_⟩; (try (rw [drewN_self w11]; generalize hq_ : World.drewN w11 _ = w11; replace BK350 := Aside0.mk (blk_q BK350.out hq_); replace BK351 := Aside0.mk (blk_q BK351.out hq_); replace HB := Aside0.mk (below_q HB.out hq_); (try clear hq_)))) | ((with_reducible refine gate_callee (f := 34) rfl ?_); refine goesL_ (some 32) rfl rfl Tryd.func34 (by kernel_rfl) rfl #[.int .u64 t353] rfl (by (try simp only [List.map_toArray, List.map_cons, List.map_nil]); rfl) ?_; (with_reducible refine (pointer_Decode.calls (gb := gb) t353 t355 t356 t357 t358 t359 t360 t361 t362 t363 t364 _ ?side1 A8.out).mono ?_); (case side1 => exact Glob.below HG.out HB.out); rintro e w14 ⟨rfl, hb⟩; refine ⟨_, rfl, ?_⟩; replace BK350 := Aside0.mk (blk_below BK350.out hb); replace BK351 := Aside0.mk (blk_below BK351.out hb); replace HB := Aside0.mk (below_step HB.out hb); (try clear hb)) | ((with_reducible refine gate_dst (N := 12) rfl ?_); refine box_event ?hg (N := 12) ?hd (cs := #[.int .i64 0, .int .i64 0, .int .i64 0, .int .i64 0, .int .i64 0, .int .i64 0, .bool false, .int .i64 0, .int .u32 0, .int .u32 0]) (t := 39) ?hr ?_; (case hd => rfl); (case hg => rfl); (case hr => (go_simp; done)); intro gb365 hg w15 hbox hb; replace BK365 := Aside0.mk (hbox); replace GE365 := Aside0.mk (ge_of HB.out hg); replace HB := Aside0.mk (below_step HB.out hb); replace NB350_365 := Aside0.mk (ne_l BK350.out hg); replace BK350 := Aside0.mk (blk_below BK350.out hb); replace NB351_365 := Aside0.mk (ne_l BK351.out hg); replace NB365_351 := Aside0.mk (ne_r BK351.out hg); replace BK351 := Aside0.mk (blk_below BK351.out hb); clear hb hbox hg; obtain ⟨hcz18_0, hcz18_1, hcz18_2, hcz18_3, hcz18_4, hcz18_5, hcz18_6, hcz18_7, hcz18_8, hcz18_9⟩ := cells10 BK365.out; obtain ⟨hfz18_0, hfz18_1, hfz18_2, hfz18_3, hfz18_4, hfz18_5, hfz18_6, hfz18_7, hfz18_8, hfz18_9⟩ := frz10 BK365.out))
    (skip)
    go_cut [54] (fun v54 wc => ∃ (kq : Nat) (x54_8 : Bool), v54 = .bool x54_8 ∧ Aside0 (resolve_composite.j0 kq a2 a3 (wrap64 (t357 + t358)) x54_8 a1_0 a1_1 a1_2 a1_3 a1_4 a1_5 a1_6 a1_7 a1_8 a1_9 t355 t356 t357 t358 t359 t360 t361 t362 t363 t364 = some (r1, r2, r3, r4, r5, r6, r7, r8, r9)) ∧ Aside0 (kq ≤ k) ∧ Aside0 (wc.heap[gb350]? = some (.cells #[.int .i64 a1_0, .int .i64 a1_1, .int .i64 a1_2, .int .i64 a1_3, .int .i64 a1_4, .int .i64 a1_5, .bool a1_6, .int .i64 a1_7, .int .u32 a1_8, .int .u32 a1_9] 39 (0, 0))) ∧ Aside0 (wc.heap[gb351]? = some (.cells #[.int .i64 0, .int .i64 0, .int .i64 0, .int .i64 0, .int .i64 0, .int .i64 0, .int .i64 0, .int .i64 0] 46 (0, 0))) ∧ Aside0 (wc.heap[gb365]? = some (.cells #[.int .i64 t355, .int .i64 t356, .int .i64 t357, .int .i64 t358, .int .i64 t359, .int .i64 t360, .bool t361, .int .i64 t362, .int .u32 t363, .int .u32 t364] 39 (0, 0))) ∧ Aside0 (Below w.heap.size w wc))
    case first =>
      have H := HC9.out
      clear HC9
      by_cases c19 : t355 = 0
      · rw [if_pos c19] at H
        have c19b1 : (t355 != 0) = false := bne_eq_false_iff_eq.mpr c19
        clear c19
        (skip)
        by_cases c20 : t356 < 0
        · rw [if_pos c20] at H
          have c20b0 : decide (t356 < 0) = true := decide_eq_true c20
          clear c20
          have H' := Aside0.mk H
          clear H
          go_wp2
          go_meet
          case rel => exact ⟨_, (true), (by rfl), H', ⟨by omega⟩, ⟨by (iterate 10 refine blk_far ?_ NB350_365.out _); exact BK350.out⟩, ⟨by (iterate 10 refine blk_far ?_ NB351_365.out _); exact BK351.out⟩, ⟨by exact put10 BK365.out⟩, ⟨by repeat ((with_reducible first | exact HB.out | refine below_set ?_ GE365.out))⟩⟩
        · rw [if_neg c20] at H
          have c20b0 : decide (t356 < 0) = false := decide_eq_false c20
          clear c20
          have H' := Aside0.mk H
          clear H
          have hnc24 := NB350_365.out
          have hnb25 := NB365_351.out
          have hnc25 := NB351_365.out
          have hnb27 := NB350_351.out
          have hnc27 := NB351_350.out
          have hcz28_5 : w15.cell? ⟨gb350, 5, none⟩ = some (.int .i64 a1_5) := (blk_cell BK350.out 5).trans rfl
          go_wp2
          go_meet
          case rel => exact ⟨_, (decide ((wrap64 (t356 * (wrap64 (t357 + t358)))) > a1_5)), (by rfl), H', ⟨by omega⟩, ⟨by (iterate 10 refine blk_far ?_ NB350_365.out _); exact BK350.out⟩, ⟨by (iterate 10 refine blk_far ?_ NB351_365.out _); exact BK351.out⟩, ⟨by exact put10 BK365.out⟩, ⟨by repeat ((with_reducible first | exact HB.out | refine below_set ?_ GE365.out))⟩⟩
      · rw [if_neg c19] at H
        have c19b1 : (t355 != 0) = true := bne_iff_ne.mpr c19
        (skip)
        have H' := Aside0.mk H
        clear H
        go_wp2
        go_meet
        case rel => exact ⟨_, (true), (by rfl), H', ⟨by omega⟩, ⟨by (iterate 10 refine blk_far ?_ NB350_365.out _); exact BK350.out⟩, ⟨by (iterate 10 refine blk_far ?_ NB351_365.out _); exact BK351.out⟩, ⟨by exact put10 BK365.out⟩, ⟨by repeat ((with_reducible first | exact HB.out | refine below_set ?_ GE365.out))⟩⟩
    case rest =>
      clear HC9
      skip
      skip
      skip
      skip
      skip
      skip
      skip
      skip
      skip
      skip
      skip
      skip
      skip
      skip
      skip
      skip
      skip
      skip
      skip
      skip
      skip
      skip
      skip
      try clear hcz13_0
      try clear hcz13_1
      try clear hcz13_2
      try clear hcz13_3
      try clear hcz13_4
      try clear hcz13_5
      try clear hcz13_6
      try clear hcz13_7
      try clear hcz13_8
      try clear hcz13_9
      try clear hcz18_0
      try clear hcz18_1
      try clear hcz18_2
      try clear hcz18_3
      try clear hcz18_4
      try clear hcz18_5
      try clear hcz18_6
      try clear hcz18_7
      try clear hcz18_8
      try clear hcz18_9
      skip
      skip
      skip
      skip
      skip
      skip
      skip
      skip
      skip
      skip
      skip
      skip
      skip
      skip
      skip
      skip
      skip
      skip
      skip
      skip
      skip
      skip
      skip
      skip
      skip
      skip
      skip
      skip
      skip
      skip
      skip
      skip
      skip
      skip
      skip
      skip
      skip
      skip
      skip
      skip
      try clear hfz13_0
      try clear hfz13_1
      try clear hfz13_2
      try clear hfz13_3
      try clear hfz13_4
      try clear hfz13_5
      try clear hfz13_6
      try clear hfz13_7
      try clear hfz13_8
      try clear hfz13_9
      try clear hfz18_0
      try clear hfz18_1
      try clear hfz18_2
      try clear hfz18_3
      try clear hfz18_4
      try clear hfz18_5
      try clear hfz18_6
      try clear hfz18_7
      try clear hfz18_8
      try clear hfz18_9
      skip
      skip
      skip
      skip
      skip
      skip
      skip
      skip
      skip
      skip
      skip
      skip
      skip
      skip
      skip
      skip
      skip
      skip
      skip
      skip
      skip
      skip
      skip
      skip
      skip
      skip
      skip
      skip
      skip
      skip
      skip
      skip
      skip
      skip
      skip
      skip
      skip
      skip
      skip
      skip
      obtain ⟨kq, x54_8, rfl, HA, HJ8, BK350, BK351, BK365, HB⟩ := hcut
      cases kq with
      | zero => exact absurd HA.out (by simp [resolve_composite.j0])
      | succ kj8 =>
        have H := HA.out
        clear HA
        simp only [resolve_composite.j0] at H
        by_cases c32 : x54_8 = true
        · subst c32
          have H1 : (some (0, 0, 0, 0, 0, 0, 0, 0, 5)) = some (r1, r2, r3, r4, r5, r6, r7, r8, r9) := by rw [if_pos rfl] at H; exact H
          clear H
          have H := H1
          clear H1
          simp only [Option.some.injEq, Prod.mk.injEq] at H
          obtain ⟨rfl, rfl, rfl, rfl, rfl, rfl, rfl, rfl, rfl⟩ := H
          obtain ⟨hcz35_0, hcz35_1, hcz35_2, hcz35_3, hcz35_4, hcz35_5, hcz35_6, hcz35_7⟩ := cells8 BK351.out
          obtain ⟨hfz35_0, hfz35_1, hfz35_2, hfz35_3, hfz35_4, hfz35_5, hfz35_6, hfz35_7⟩ := frz8 BK351.out
          go_wp2
          refine bodyPost_ret (results_ct rfl _ _ gb351 46 #[.int .i64 0, .int .i64 0, .int .i64 0, .int .i64 0, .int .i64 0, .int .i64 0, .int .i64 0, .int .i64 0] (0, 0) _ rfl (by exact put8 BK351.out) Tryd.underlying46 rfl (by kernel_rfl)) rfl ?_
          exact ⟨by rfl, by repeat ((with_reducible first | exact HB.out | refine below_set ?_ GE351.out))⟩
        · replace c32 := Bool.eq_false_iff.mpr c32
          subst c32
          have H1 : (if (wrap64 (t357 + t358)) = 0 then (resolve_composite.j1 kj8 2 a2 (wrap64 (a3 + 1)) t357 t358 7 t356 (wrap64 ((wrap64 (a1_5 + 1)) + t356))) else (resolve_composite.j1 kj8 2 a2 (wrap64 (a3 + 1)) t357 t358 7 t356 (wrap64 (a1_5 + 1)))) = some (r1, r2, r3, r4, r5, r6, r7, r8, r9) := by rw [if_neg (show ¬ (false = true) by decide)] at H; exact H
          clear H
          have H := H1
          clear H1
          have HC36 := Aside0.mk H
          clear H
          obtain ⟨-, hcz39_1, hcz39_2, hcz39_3, -, -, -, -, -, -⟩ := cells10 BK365.out
          have hcz41_5 : wc.cell? ⟨gb350, 5, none⟩ = some (.int .i64 a1_5) := (blk_cell BK350.out 5).trans rfl
          go_upto_if 70 with (((with_reducible refine gate_dst (N := 14) rfl ?_); refine box_event ?hg (N := 14) ?hd (cs := #[.int .i64 0, .int .i64 0, .int .i64 0, .int .i64 0, .int .i64 0, .int .i64 0, .int .i64 0, .int .i64 0]) (t := 46) ?hr ?_; (case hd => rfl); (case hg => rfl); (case hr => (go_simp; done)); intro gb366 hg w42 hbox hb; replace BK366 := Aside0.mk (hbox); replace GE366 := Aside0.mk (ge_of HB.out hg); replace HB := Aside0.mk (below_step HB.out hb); replace NB350_366 := Aside0.mk (ne_l BK350.out hg); replace BK350 := Aside0.mk (blk_below BK350.out hb); replace NB351_366 := Aside0.mk (ne_l BK351.out hg); replace BK351 := Aside0.mk (blk_below BK351.out hb); replace NB365_366 := Aside0.mk (ne_l BK365.out hg); replace BK365 := Aside0.mk (blk_below BK365.out hb); clear hb hbox hg; obtain ⟨hcz46_0, hcz46_1, hcz46_2, hcz46_3, hcz46_4, hcz46_5, hcz46_6, hcz46_7⟩ := cells8 BK366.out; obtain ⟨hfz46_0, hfz46_1, hfz46_2, hfz46_3, hfz46_4, hfz46_5, hfz46_6, hfz46_7⟩ := frz8 BK366.out))
          (skip)
          go_cut [] (fun wc => ∃ (kq : Nat) (x367007_35 : Int), Aside0 (resolve_composite.j1 kq 2 a2 (wrap64 (a3 + 1)) t357 t358 7 t356 x367007_35 = some (r1, r2, r3, r4, r5, r6, r7, r8, r9)) ∧ Aside0 (kq ≤ kj8) ∧ Aside0 (wc.heap[gb350]? = some (.cells #[.int .i64 a1_0, .int .i64 a1_1, .int .i64 a1_2, .int .i64 a1_3, .int .i64 a1_4, .int .i64 a1_5, .bool a1_6, .int .i64 a1_7, .int .u32 a1_8, .int .u32 a1_9] 39 (0, 0))) ∧ Aside0 (wc.heap[gb351]? = some (.cells #[.int .i64 0, .int .i64 0, .int .i64 0, .int .i64 0, .int .i64 0, .int .i64 0, .int .i64 0, .int .i64 0] 46 (0, 0))) ∧ Aside0 (wc.heap[gb365]? = some (.cells #[.int .i64 t355, .int .i64 t356, .int .i64 t357, .int .i64 t358, .int .i64 t359, .int .i64 t360, .bool t361, .int .i64 t362, .int .u32 t363, .int .u32 t364] 39 (0, 0))) ∧ Aside0 (wc.heap[gb366]? = some (.cells #[.int .i64 2, .int .i64 a2, .int .i64 (wrap64 (a3 + 1)), .int .i64 t357, .int .i64 t358, .int .i64 7, .int .i64 t356, .int .i64 x367007_35] 46 (0, 0))) ∧ Aside0 (Below w.heap.size w wc))
          case first =>
            have H := HC36.out
            clear HC36
            by_cases c47 : (wrap64 (t357 + t358)) = 0
            · rw [if_pos c47] at H
              have c47b0 : ((wrap64 (t357 + t358)) == 0) = true := beq_iff_eq.mpr c47
              clear c47
              (rw [c47b0])
              have H' := Aside0.mk H
              clear H
              go_wp2
              go_meet
              case rel => exact ⟨_, (wrap64 ((wrap64 (a1_5 + 1)) + t356)), H', ⟨by omega⟩, ⟨by (iterate 9 refine blk_far ?_ NB350_366.out _); exact BK350.out⟩, ⟨by (iterate 9 refine blk_far ?_ NB351_366.out _); exact BK351.out⟩, ⟨by (iterate 9 refine blk_far ?_ NB365_366.out _); exact BK365.out⟩, ⟨by refine blk_put (cs := #[.int .i64 2, .int .i64 a2, .int .i64 (wrap64 (a3 + 1)), .int .i64 t357, .int .i64 t358, .int .i64 7, .int .i64 t356, .int .i64 (wrap64 (a1_5 + 1))]) ?_ 7 _ rfl; exact put8 BK366.out⟩, ⟨by repeat ((with_reducible first | exact HB.out | refine below_set ?_ GE366.out))⟩⟩
            · rw [if_neg c47] at H
              have c47b0 : ((wrap64 (t357 + t358)) == 0) = false := beq_eq_false_iff_ne.mpr c47
              (rw [c47b0])
              have H' := Aside0.mk H
              clear H
              go_wp2
              go_meet
              case rel => exact ⟨_, (wrap64 (a1_5 + 1)), H', ⟨by omega⟩, ⟨by (iterate 8 refine blk_far ?_ NB350_366.out _); exact BK350.out⟩, ⟨by (iterate 8 refine blk_far ?_ NB351_366.out _); exact BK351.out⟩, ⟨by (iterate 8 refine blk_far ?_ NB365_366.out _); exact BK365.out⟩, ⟨by exact put8 BK366.out⟩, ⟨by repeat ((with_reducible first | exact HB.out | refine below_set ?_ GE366.out))⟩⟩
          case rest =>
            clear HC36
            skip
            skip
            skip
            skip
            skip
            skip
            skip
            skip
            skip
            skip
            skip
            skip
            skip
            skip
            skip
            skip
            skip
            skip
            skip
            skip
            skip
            skip
            skip
            skip
            skip
            skip
            skip
            skip
            skip
            skip
            skip
            skip
            skip
            skip
            skip
            skip
            skip
            skip
            skip
            skip
            skip
            skip
            skip
            skip
            skip
            skip
            skip
            skip
            skip
            skip
            skip
            skip
            skip
            skip
            skip
            skip
            skip
            skip
            skip
            skip
            skip
            skip
            skip
            skip
            skip
            skip
            skip
            skip
            skip
            skip
            skip
            skip
            skip
            skip
            skip
            skip
            skip
            skip
            skip
            skip
            skip
            skip
            skip
            skip
            skip
            skip
            skip
            skip
            skip
            skip
            skip
            skip
            skip
            skip
            skip
            skip
            skip
            skip
            skip
            skip
            skip
            skip
            skip
            skip
            skip
            skip
            skip
            try clear hcz39_0
            try clear hcz39_1
            try clear hcz39_2
            try clear hcz39_3
            try clear hcz39_4
            try clear hcz39_5
            try clear hcz39_6
            try clear hcz39_7
            try clear hcz39_8
            try clear hcz39_9
            try clear hcz41_0
            try clear hcz41_1
            try clear hcz41_2
            try clear hcz41_3
            try clear hcz41_4
            try clear hcz41_5
            try clear hcz41_6
            try clear hcz41_7
            try clear hcz41_8
            try clear hcz41_9
            try clear hcz46_0
            try clear hcz46_1
            try clear hcz46_2
            try clear hcz46_3
            try clear hcz46_4
            try clear hcz46_5
            try clear hcz46_6
            try clear hcz46_7
            skip
            skip
            skip
            skip
            skip
            skip
            skip
            skip
            skip
            skip
            skip
            skip
            skip
            skip
            skip
            skip
            skip
            skip
            skip
            skip
            skip
            skip
            skip
            skip
            skip
            skip
            skip
            skip
            skip
            skip
            skip
            skip
            skip
            skip
            skip
            skip
            skip
            skip
            skip
            skip
            skip
            skip
            skip
            skip
            skip
            skip
            skip
            skip
            skip
            skip
            skip
            skip
            skip
            skip
            skip
            skip
            skip
            skip
            skip
            skip
            skip
            skip
            skip
            skip
            skip
            skip
            skip
            skip
            skip
            skip
            skip
            skip
            skip
            skip
            skip
            skip
            try clear hfz39_0
            try clear hfz39_1
            try clear hfz39_2
            try clear hfz39_3
            try clear hfz39_4
            try clear hfz39_5
            try clear hfz39_6
            try clear hfz39_7
            try clear hfz39_8
            try clear hfz39_9
            try clear hfz41_0
            try clear hfz41_1
            try clear hfz41_2
            try clear hfz41_3
            try clear hfz41_4
            try clear hfz41_5
            try clear hfz41_6
            try clear hfz41_7
            try clear hfz41_8
            try clear hfz41_9
            try clear hfz46_0
            try clear hfz46_1
            try clear hfz46_2
            try clear hfz46_3
            try clear hfz46_4
            try clear hfz46_5
            try clear hfz46_6
            try clear hfz46_7
            skip
            skip
            skip
            skip
            skip
            skip
            skip
            skip
            skip
            skip
            obtain ⟨kq, x367007_35, HA, HJ35, BK350, BK351, BK365, BK366, HB⟩ := hcut
            cases kq with
            | zero => exact absurd HA.out (by simp [resolve_composite.j1])
            | succ kj35 =>
              have H := HA.out
              clear HA
              simp only [resolve_composite.j1] at H
              simp only [Option.some.injEq, Prod.mk.injEq] at H
              obtain ⟨rfl, rfl, rfl, rfl, rfl, rfl, rfl, rfl, rfl⟩ := H
              obtain ⟨hcz55_0, hcz55_1, hcz55_2, hcz55_3, hcz55_4, hcz55_5, hcz55_6, hcz55_7⟩ := cells8 BK366.out
              obtain ⟨hcz58_0, hcz58_1, hcz58_2, hcz58_3, hcz58_4, hcz58_5, hcz58_6, hcz58_7⟩ := cells8 BK351.out
              obtain ⟨hfz58_0, hfz58_1, hfz58_2, hfz58_3, hfz58_4, hfz58_5, hfz58_6, hfz58_7⟩ := frz8 BK351.out
              go_wp2
              refine bodyPost_ret (results_ct rfl _ _ gb351 46 #[.int .i64 2, .int .i64 a2, .int .i64 (wrap64 (a3 + 1)), .int .i64 t357, .int .i64 t358, .int .i64 7, .int .i64 t356, .int .i64 x367007_35] (0, 0) _ rfl (by exact put8 BK351.out) Tryd.underlying46 rfl (by kernel_rfl)) rfl ?_
              exact ⟨by rfl, by repeat ((with_reducible first | exact HB.out | refine below_set ?_ GE351.out))⟩
  · replace c6 := Bool.eq_false_iff.mpr c6
    subst c6
    have H1 : (some (0, 0, 0, 0, 0, 0, 0, 0, 2)) = some (r1, r2, r3, r4, r5, r6, r7, r8, r9) := by rw [if_neg (show ¬ (false = true) by decide)] at H; exact H
    clear H
    have H := H1
    clear H1
    simp only [Option.some.injEq, Prod.mk.injEq] at H
    obtain ⟨rfl, rfl, rfl, rfl, rfl, rfl, rfl, rfl, rfl⟩ := H
    go_enter Tryd.func52, Tryd.ntmps52
    go_wp2_with (first | ((with_reducible refine gate_dst (N := 5) rfl ?_); refine box_event ?hg (N := 5) ?hd (cs := #[.int .i64 a1_0, .int .i64 a1_1, .int .i64 a1_2, .int .i64 a1_3, .int .i64 a1_4, .int .i64 a1_5, .bool a1_6, .int .i64 a1_7, .int .u32 a1_8, .int .u32 a1_9]) (t := 39) ?hr ?_; (case hd => rfl); (case hg => rfl); (case hr => (go_simp; done)); intro gb350 hg w59 hbox hb; replace HB := Aside0.mk (below_step HB.out hb); replace BK350 := Aside0.mk (hbox); clear hb hbox hg) | ((with_reducible refine gate_dst (N := 8) rfl ?_); refine box_event ?hg (N := 8) ?hd (cs := #[.int .i64 0, .int .i64 0, .int .i64 0, .int .i64 0, .int .i64 0, .int .i64 0, .int .i64 0, .int .i64 0]) (t := 46) ?hr ?_; (case hd => rfl); (case hg => rfl); (case hr => (go_simp; done)); intro gb351 hg w60 hbox hb; replace BK350 := Aside0.mk (blk_below BK350.out hb); replace BK351 := Aside0.mk (hbox); replace GE351 := Aside0.mk (ge_of HB.out hg); replace HB := Aside0.mk (below_step HB.out hb); clear hb hbox hg; have hcz62_5 : w60.cell? ⟨gb350, 5, none⟩ = some (.int .i64 a1_5) := (blk_cell BK350.out 5).trans rfl) | ((with_reducible refine gate_callee (f := 46) rfl ?_); refine goesL_ (some 21) rfl rfl Tryd.func46 (by kernel_rfl) rfl #[.slice A0 l0.length c0, .int .i64 a2, .int .i64 a3, .int .i64 (wrap64 (a1_5 + 1))] rfl (by (try simp only [List.map_toArray, List.map_cons, List.map_nil]); rfl) ?_; (with_reducible refine (arena_InBounds.calls _ _ l0 a2 a3 (wrap64 (a1_5 + 1)) false _ ?side1 ?side2 A5.out).mono ?_); (case side1 => repeat ((exact (Kd.C_below HR0.out HB.out)))); (case side2 => exact HC0.out); rintro e w' ⟨rfl, ⟨nd, rfl⟩⟩; refine ⟨_, rfl, ?_⟩; (try (rw [drewN_self w60]; generalize hq_ : World.drewN w60 _ = w60; replace BK351 := Aside0.mk (blk_q BK351.out hq_); replace HB := Aside0.mk (below_q HB.out hq_); (try clear BK350); (try clear hq_))); obtain ⟨hcz63_0, hcz63_1, hcz63_2, hcz63_3, hcz63_4, hcz63_5, hcz63_6, hcz63_7⟩ := cells8 BK351.out; obtain ⟨hfz63_0, hfz63_1, hfz63_2, hfz63_3, hfz63_4, hfz63_5, hfz63_6, hfz63_7⟩ := frz8 BK351.out))
    refine bodyPost_ret (results_ct rfl _ _ gb351 46 #[.int .i64 0, .int .i64 0, .int .i64 0, .int .i64 0, .int .i64 0, .int .i64 0, .int .i64 0, .int .i64 0] (0, 0) _ rfl (by exact put8 BK351.out) Tryd.underlying46 rfl (by kernel_rfl)) rfl ?_
    exact ⟨by rfl, by repeat ((with_reducible first | exact HB.out | refine below_set ?_ GE351.out))⟩

end Go.Proofs.YtcjhejopcghgnaaDoor.P

namespace Go.Proofs.YtcjhejopcghgnaaDoor.P
open Go.RowKit Go.Proofs.YtcjhejopcghgnaaDoorW.PrintWords Go.Proofs.YtcjhejopcghgnaaDoorW.PrintLast Go.Proofs.YtcjhejopcghgnaaDoorW.PrintMore
attribute [local go_sem] max2_int min2_int max_two min_two max_three min_three max_four min_four   -- for this text's walks alone
set_option linter.unusedVariables false
set_option linter.unusedSimpArgs false

variable {gb : Bool}
/-! ### listsize_up: function 58 -/
def listsize_up.f (a0 a1 : Int) : Option (Int) := if a1 = 0 then (none) else (some (wrap64 (Int.tdiv (wrap64 ((wrap64 (a0 + a1)) - 1)) a1)))
set_option maxHeartbeats 8000000 in
set_option maxRecDepth 100000 in
theorem listsize_up.calls (a0 a1 r : Int) (w : World) (h : listsize_up.f a0 a1 = some r) :
    Calls Tryd.prog 58 #[.int .i64 a0, .int .i64 a1] w fun e w' => e = .returned (.int .i64 r) ∧ Drawn0 w w' := by
  have H : (if a1 = 0 then (none) else (some (wrap64 (Int.tdiv (wrap64 ((wrap64 (a0 + a1)) - 1)) a1)))) = some r := h
  clear h
  by_cases c3 : a1 = 0
  · rw [if_pos c3] at H
    exact absurd H (by simp)
  · rw [if_neg c3] at H
    obtain rfl := Option.some.inj H
    go_enter Tryd.func58, Tryd.ntmps58
    go_wp2
    go_ret
    exact ⟨by rfl, by repeat (exact Drawn0.refl _)⟩

end Go.Proofs.YtcjhejopcghgnaaDoor.P

namespace Go.Proofs.YtcjhejopcghgnaaDoor.P
open Go.RowKit Go.Proofs.YtcjhejopcghgnaaDoorW.PrintWords Go.Proofs.YtcjhejopcghgnaaDoorW.PrintLast Go.Proofs.YtcjhejopcghgnaaDoorW.PrintMore
attribute [local go_sem] max2_int min2_int max_two min_two max_three min_three max_four min_four   -- for this text's walks alone
set_option linter.unusedVariables false
set_option linter.unusedSimpArgs false

variable {gb : Bool}
/-! ### listsize_Words: function 53 -/
def listsize_Words.f (a0 a1 : Int) : Option (Int) := if a0 = 7 then some (wrap64 (a1 + 1)) else (if 0 ≤ a0 ∧ a0 < 8 then listsize_up.f (wrap64 (bitsOf a0.toNat * a1)) 64 else none)
set_option maxHeartbeats 1600000 in
set_option maxRecDepth 100000 in
theorem listsize_Words.calls (a0 a1 r : Int) (w : World) (hG : Glob true w) (h : listsize_Words.f a0 a1 = some r) :
    Calls Tryd.prog 53 #[.int .i64 a0, .int .i64 a1] w fun e w' => e = .returned (.int .i64 r) ∧ Drawn0 w w' := by
  unfold listsize_Words.f at h
  by_cases c : a0 = 7
  · rw [if_pos c] at h
    subst c
    obtain rfl := Option.some.inj h
    go_enter Tryd.func53, Tryd.ntmps53
    go_wp2
    go_ret
    exact ⟨by rfl, Drawn0.refl _⟩
  · rw [if_neg c] at h
    split at h
    · rename_i hc
      obtain ⟨i, rfl⟩ := Int.eq_ofNat_of_zero_le hc.1
      have hb := hG.bits rfl i (by omega)
      have H := Aside0.mk h
      clear h hG
      rw [Int.toNat_natCast] at H
      have h8 : (i : Int) < 8 := hc.2
      have c7 : ¬ (i : Int) = 7 := c
      clear hc c
      go_enter Tryd.func53, Tryd.ntmps53
      go_wp2_with fail
      refine (listsize_up.calls _ _ _ _ H.out).mono ?_
      rintro e w1 ⟨rfl, hd⟩
      have HD := Aside0.mk hd
      clear hd
      go_wp2
      go_ret
      exact ⟨by rfl, HD.out⟩
    · exact absurd h (by simp)

end Go.Proofs.YtcjhejopcghgnaaDoor.P
