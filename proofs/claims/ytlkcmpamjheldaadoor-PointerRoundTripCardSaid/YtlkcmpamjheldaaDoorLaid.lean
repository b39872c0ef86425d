import Derived.Test.YtlkcmpamjheldaaDoorRows
import Derived.Test.YtlkcmpamjheldaaDoorOpen
import Derived.Maps.OwnSet
import Derived.Maps.Keyed
namespace Go.Proofs.YtlkcmpamjheldaaDoor.P
open Go.RowKit Go.WideMaps Go.WideElems
theorem gDec : Tryd.prog.globalNamed "capnp/pointer.decoders" = some 0 := by kernel_rfl
theorem tDec : (Tryd.prog.globals[0]?).map (·.type) = some 40 := by kernel_rfl
theorem zFunc (W : World) : (zeroValue 29).run Tryd.prog W = .ok .nilFunc W := by kernel_rfl
def decD : DataW (List UInt8) := .map [(.int .i64 0, .held [99, 97, 112, 110, 112, 47, 112, 111, 105, 110, 116, 101, 114, 46, 100, 101, 99, 111, 100, 101, 114, 115, 36, 49]), (.int .i64 1, .held [99, 97, 112, 110, 112, 47, 112, 111, 105, 110, 116, 101, 114, 46, 100, 101, 99, 111, 100, 101, 114, 115, 36, 50]), (.int .i64 2, .held [99, 97, 112, 110, 112, 47, 112, 111, 105, 110, 116, 101, 114, 46, 100, 101, 99, 111, 100, 101, 114, 115, 36, 51]), (.int .i64 3, .held [99, 97, 112, 110, 112, 47, 112, 111, 105, 110, 116, 101, 114, 46, 100, 101, 99, 111, 100, 101, 114, 115, 36, 52])]
theorem glob_of_laid {W : World} (h : laidMetH Tryd.prog [("capnp/pointer.decoders", Rows.laid_capnp_pointer_decoders)] W) : Glob W := by
  obtain ⟨g, t, cs, fuel, p, hg, ht, hv, hd⟩ := h.funcs (List.mem_singleton.2 rfl)
  obtain rfl := Option.some.inj (gDec.symm.trans hg)
  obtain rfl := Option.some.inj (tDec.symm.trans ht)
  have hd' : DataW.trod (funcToken Tryd.prog) Tryd.prog W 0 (fun _ => true) true fuel 40 cs.toList = some (decD, p) := hd
  rcases open_map Tryd.underlying40 hd' with ⟨_, hx⟩ | ⟨bm, es, clock, n, rfl, hcs, hb, _, F, hx⟩
  · simp [decD] at hx
  simp only [Prod.mk.injEq] at hx
  have hcell : W.cell? ⟨0, 0, none⟩ = some (.map (some bm)) := by
    have := World.var?_cell hg hv 0
    rw [Array.eq_one_of_toList hcs] at this
    simpa using this
  refine ⟨⟨bm, es, clock, hcell, hb, fun W' hb' => ?_⟩⟩
  have key : ∀ (k : Int) (f : FuncId) (b : UInt8) (r : List UInt8), (Lit.int .i64 k).wf = true → (∀ zd, DataW.atKey (.map ((es.toList.map (rg Tryd.prog 3 (elemAt (funcToken Tryd.prog) Tryd.prog W 0 (fun _ => true) true n 29))).foldr DataW.insert [])) (.int .i64 k) zd = .held (b :: r)) →
      ((List.range Tryd.prog.funcs.size).filter fun f => (Tryd.prog.funcs[f]?).any (·.name.toUTF8.data.toList == b :: r)) = [f] →
      (Instr.lookup 40 (.map (some bm)) (.int .i64 k) false).run Tryd.prog W' = .ok (.func (.func f) #[] #[]) W' := by
    intro k f b r hwf hat0 hone
    rcases Maps.fit_look false (Maps.int_keyed Tryd.underlying3) Tryd.underlying40 (zFunc W') hb' F (Maps.keyOf_int_mk Tryd.underlying3 hwf) with ⟨_, _, hat⟩ | ⟨e0, y, _, _, hrun, hRv, hat, _⟩
    · have := hat .nil
      rw [hat0] at this
      cases this
    · have h1 := hat .nil
      rw [hat0] at h1
      obtain ⟨y1, y2⟩ := y
      simp only at h1
      subst h1
      unfold elemAt at hRv
      split at hRv
      · rename_i hf
        have hv1 : e0.val.cells.toList = [e0.val] := by
          cases he : e0.val <;> simp_all [Value.cells, Value.formed, Tryd.underlying29]
        rw [hv1] at hRv
        have := func_of_trod Tryd.underlying29 hone hRv
        rw [this] at hrun
        simpa using hrun
      · cases hRv
  exact ⟨key 0 41 _ _ rfl (fun zd => by rw [← hx.1]; rfl) (by kernel_rfl), key 1 43 _ _ rfl (fun zd => by rw [← hx.1]; rfl) (by kernel_rfl), key 2 44 _ _ rfl (fun zd => by rw [← hx.1]; rfl) (by kernel_rfl), key 3 45 _ _ rfl (fun zd => by rw [← hx.1]; rfl) (by kernel_rfl)⟩
end Go.Proofs.YtlkcmpamjheldaaDoor.P
