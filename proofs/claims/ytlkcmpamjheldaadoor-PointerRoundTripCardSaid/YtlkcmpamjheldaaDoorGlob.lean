import Derived.Test.YtlkcmpamjheldaaDoorProg
import Derived.Below
import Derived.WalkKit
import Derived.KernelRfl
import Derived.Test.YtlkcmpamjheldaaDoorWWords
set_option linter.unusedVariables false
namespace Go.Proofs.YtlkcmpamjheldaaDoor.P
open Go.RowKit
/-- What the package variables hold: the table of decoders, its look-ups answered in every world that keeps its block. -/
structure Glob (w : World) : Prop where
  dec : ∃ bm es clock, w.cell? ⟨0, 0, none⟩ = some (.map (some bm)) ∧ w.heap[bm]? = some (.map es clock) ∧
    ∀ W : World, W.heap[bm]? = some (.map es clock) →
      (Instr.lookup 40 (.map (some bm)) (.int .i64 0) false).run Tryd.prog W = .ok (.func (.func 41) #[] #[]) W ∧
      (Instr.lookup 40 (.map (some bm)) (.int .i64 1) false).run Tryd.prog W = .ok (.func (.func 43) #[] #[]) W ∧
      (Instr.lookup 40 (.map (some bm)) (.int .i64 2) false).run Tryd.prog W = .ok (.func (.func 44) #[] #[]) W ∧
      (Instr.lookup 40 (.map (some bm)) (.int .i64 3) false).run Tryd.prog W = .ok (.func (.func 45) #[] #[]) W
theorem lt_of_block {w : World} {k : Nat} {o : Obj} (h : w.heap[k]? = some o) : k < w.heap.size := (Array.getElem?_eq_some_iff.1 h).1
theorem Glob.below {w w' : World} (h : Glob w) (hb : Below w.heap.size w w') : Glob w' := by
  obtain ⟨bm, es, clock, hc, hm, hl⟩ := h.dec
  exact ⟨⟨bm, es, clock, (hb.cell (World.block_lt_of_cell? w _ hc)).trans hc, (hb.block bm (lt_of_block hm)).trans hm, hl⟩⟩
theorem Glob.alloc {w : World} (h : Glob w) (o : Obj) : Glob (w.alloc o) := h.below ((Below.refl _ _).alloc (Nat.le_refl _) o)
theorem Glob.drew {w : World} (h : Glob w) : Glob w.drew := h.below (Below.refl _ _).drew
theorem Glob.drewN {w : World} (h : Glob w) (n : Nat) : Glob (w.drewN n) := by
  induction n generalizing w with
  | zero => exact h
  | succ n ih => exact (ih h).drew
theorem blk_newN {w : World} {n : Nat} {o : Obj} (h : n = w.heap.size) : (w.alloc o).heap[n]? = some o := by subst h; exact heap_alloc_new w o
end Go.Proofs.YtlkcmpamjheldaaDoor.P
