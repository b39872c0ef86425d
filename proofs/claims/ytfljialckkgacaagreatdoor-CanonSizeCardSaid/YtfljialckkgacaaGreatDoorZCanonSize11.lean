/- This text is one of those that prove the law CanonSize of the given program, as its statement says it: true on every input that the statement covers. Its conditions are the statement's own. -/
import Derived.Test.YtfljialckkgacaaGreatDoorZCanonSize1
import Derived.Test.YtfljialckkgacaaGreatDoorZCanonSize2
import Derived.Test.YtfljialckkgacaaGreatDoorZCanonSize3
import Derived.Test.YtfljialckkgacaaGreatDoorZCanonSize4
import Derived.Test.YtfljialckkgacaaGreatDoorZCanonSize5
import Derived.Test.YtfljialckkgacaaGreatDoorZCanonSize6
import Derived.Test.YtfljialckkgacaaGreatDoorZCanonSize7
import Derived.Test.YtfljialckkgacaaGreatDoorZCanonSize8
import Derived.Test.YtfljialckkgacaaGreatDoorZCanonSize9
import Derived.Test.YtfljialckkgacaaGreatDoorZCanonSize10
set_option linter.unusedVariables false
set_option linter.unusedSimpArgs false
set_option linter.unusedVariables false
set_option linter.unusedSimpArgs false
namespace Go.Proofs.YtfljialckkgacaaGreatDoor.E
/-! The canonical form denotes the node. -/
theorem den_step {W : List Int} {w : Int} {a : Nat} (h : At W a [w]) (h4 : w % 4 ≠ 2) (h0 : w ≠ 0) (D : Nat) (m : Int) : den [W] (D + 1) m 0 a = denO (den [W] D) [W] m (objP [W] 0 (a + 1) (decI w)) := by
  rw [den]
  dsimp only
  have hf := fol_here h h4
  unfold obj
  rw [hf]
  dsimp only
  rw [if_pos rfl, if_neg h0, if_pos rfl, if_neg h0]
theorem den_null {W : List Int} {a : Nat} (h : At W a [0]) (D : Nat) (m : Int) : den [W] D m 0 a = (nd0, m, 0) := by
  have hf := fol_here h (by decide)
  cases D with
  | zero => unfold den; rw [hf]; rfl
  | succ D => rw [den]; dsimp only; rw [hf]; rfl
theorem sumL_flat (c : Nd → Int) : ∀ l : List Nd, sumL ((l.flatMap Nd.kids).map c) = sumL (l.map fun k => sumL (k.kids.map c))
  | [] => rfl
  | k :: l => by rw [List.flatMap_cons, List.map_append, sumL_app, List.map_cons, sumL_cons, sumL_flat c l]
theorem flat_flat (B : Nd → List Int) : ∀ l : List Nd, (l.flatMap Nd.kids).flatMap B = l.flatMap fun k => k.kids.flatMap B
  | [] => rfl
  | k :: l => by rw [List.flatMap_cons, List.flatMap_append, List.flatMap_cons, flat_flat B l]
theorem ok_tgt {D : Nat} {x : Nd} (h : Ok (D + 1) x) (h0 : x.kind ≠ 0) : ∀ t ∈ tgt x, Ok D t := by
  have hd := h.dp.resolve_left h0
  intro t ht
  refine ⟨vn_tgt h.vn t ht, ?_, good_tgt h.gd t ht, hd.2 t ht⟩
  have htr := h.tr
  have tk : ∀ {y : Nd}, TrN y → ∀ z ∈ y.kids, TrN z := fun hy => by
    cases hy with
    | mk t1 t2 => exact t2
  unfold tgt at ht
  split at ht
  · obtain ⟨k, hk1, hk2⟩ := List.mem_flatMap.1 ht
    exact tk (tk htr k hk1) t hk2
  · exact tk htr t ht
theorem ownC_mk (k e n : Int) (d : List Int) (ks : List Nd) : ownC (.mk k e n d ks) = objSz (.mk k e n d ks) + (if k = 2 ∧ e = 7 ∧ uniD ks + uniP ks = 0 then n else 0) := rfl
/-- A well-formed trimmed struct. -/
theorem st_parts {k : Nd} (hv : VN k) (ht : TrN k) (hg : good k) (h1 : k.kind = 1) : ∃ d q, k = .mk 1 0 0 d q ∧ 8 * wordsT d = d.length ∧ ptrsT q = q.length ∧ (∀ x ∈ d, Byte x) ∧ d.length % 8 = 0 ∧ d.length ≤ 524280 ∧ q.length ≤ 65535 := by
  cases hv with
  | mk v1 v2 v3 =>
    rename_i k e n d ks
    have h1' : k = 1 := h1
    subst h1'
    rcases v3 with ⟨a1, _⟩ | ⟨_, a2, a3, a4, a5, a6⟩ | ⟨a1, _⟩
    · omega
    · subst a2; subst a3
      cases ht with
      | mk t1 t2 =>
        rw [good] at hg
        exact ⟨d, ks, rfl, (t1 rfl).1, (t1 rfl).2, hg.1.2.1, a4, a5, a6⟩
    · omega
theorem trimB_pad {e n : Int} {d : List Int} {z : Nat} (hn0 : 0 ≤ n) (hl : (d.length : Int) = bytesN e n) : trimB e n (d ++ List.replicate z 0) = trimB e n d := by
  unfold trimB
  split
  · rename_i h
    have hn : 1 ≤ bytesN e n := by
      unfold bytesN bitsOf
      rw [if_pos h.1]
      omega
    rw [List.take_append_of_le_length (by omega)]
    congr 3
    unfold rd
    rw [List.getD_eq_getElem?_getD, List.getD_eq_getElem?_getD, List.getElem?_append_left (by omega)]
  · rw [List.take_append_of_le_length (by omega)]
theorem bytes_words {e n : Int} (he : 0 ≤ e ∧ e < 6) (hn : 0 ≤ n ∧ n ≤ 536870911) : bytesN e n ≤ 8 * wordsOf e n := by
  have h := bits_mul (e := e) hn
  unfold bytesN wordsOf
  rw [if_neg (by omega)]
  omega
theorem can_zero {W : List Int} {D : Nat} (R : Rt W (den [W] D) (body D) (cstN D) (Ok D)) {a : Nat} {w : Int} (ha : At W a [w]) (m : Int) (hm : 0 ≤ m) : ∃ y, denO (den [W] D) [W] m (objS [W] 0 (a : Int) 0 0) = (y, m, 0) ∧ trimN y = .mk 1 0 0 [] [] := by
  have ha0 : At W a [] := (show At W a ([] ++ [w]) from ha).app.1
  obtain ⟨y, k1, k2⟩ := strct_rt R a (d := []) (ks := []) rfl rfl (fun x h => by cases h) (a := 0) (z := 0) (i0 := 0) (pos := 0) (Nat.zero_le _) (fun t h => by cases h) (m := m - 0) ha0 ha0 (by simp [sumL_nil]; omega) (o := ⟨1, 0, a, 0, 0, 0, 0, 0 + 0⟩) rfl rfl rfl rfl
  refine ⟨y, ?_, k2⟩
  unfold objS denO
  rw [if_pos (ha0.inB (n := 0 + 0) rfl)]
  dsimp only at k1 ⊢
  rw [if_pos rfl, if_neg (by omega), if_pos rfl]
  simp only [sumL_nil, List.map_nil] at k1
  have : strct (den [W] D) [W] (m - (0 + 0)) ⟨1, 0, a, 0, 0, 0, 0, 0 + 0⟩ = (y, m - 0 - 0, 0) := k1
  rw [this]
  simp
theorem can_struct {W : List Int} (hW : W.length ≤ 268435456) {D : Nat} (R : Rt W (den [W] D) (body D) (cstN D) (Ok D)) {d : List Int} {ks : List Nd} (h8 : 8 * wordsT d = d.length) (hq : ptrsT ks = ks.length) (hb : ∀ x ∈ d, Byte x) (hd8 : d.length % 8 = 0) (hd : d.length ≤ 524280) (hk : ks.length ≤ 65535) (hQ : ∀ t ∈ ks, Ok D t) {p a : Nat} {m : Int}
    (h1 : At W p (obW (body D) (.mk 1 0 0 d ks) ++ ks.flatMap (body D))) (h2 : At W a [ptrI (.mk 1 0 0 d ks) ((p : Int) - a - 1)]) (hm : ((d.length / 8 + ks.length : Nat) : Int) + sumL (ks.map (cstN D)) ≤ m) :
    ∃ y, den [W] (D + 1) m 0 a = (y, m - (((d.length / 8 + ks.length : Nat) : Int) + sumL (ks.map (cstN D))), 0) ∧ trimN y = .mk 1 0 0 d ks := by
  have hp := h1.len
  have ha := h2.len
  have e1 : ptrI (.mk 1 0 0 d ks) ((p : Int) - a - 1) = if d.length / 8 = 0 ∧ ks.length = 0 then encS (-1) 0 0 else encS ((p : Int) - a - 1) (d.length / 8) ks.length := rfl
  have hsn := sum_nn R hQ
  rw [e1] at h2
  simp only [List.length_singleton] at ha
  by_cases hz : d.length / 8 = 0 ∧ ks.length = 0
  · rw [if_pos hz] at h2
    obtain rfl : d = [] := List.length_eq_zero_iff.1 (by omega)
    obtain rfl : ks = [] := List.length_eq_zero_iff.1 hz.2
    obtain ⟨q1, q2, q3⟩ := decI_encS (off := -1) (d := 0) (q := 0) (by decide) (by decide) (by decide)
    rw [den_step h2 (by omega) (by decide), q1]
    unfold objP
    dsimp only
    rw [if_pos rfl, show (a : Int) + 1 + -1 = a by omega]
    obtain ⟨y, k1, k2⟩ := can_zero R h2 m (by simp [sumL_nil] at hm; omega)
    exact ⟨y, by rw [show ((0 : Nat) : Int) = 0 from rfl, k1]; simp [sumL_nil], k2⟩
  · rw [if_neg hz] at h2
    obtain ⟨q1, q2, q3⟩ := decI_encS (off := (p : Int) - a - 1) (d := d.length / 8) (q := ks.length) (by omega) (by omega) hk
    have hne : encS ((p : Int) - a - 1) (d.length / 8) ks.length ≠ 0 := by
      unfold encS
      have := Int.emod_nonneg ((p : Int) - a - 1) (show (1073741824 : Int) ≠ 0 by decide)
      omega
    rw [den_step h2 (by omega) hne, q1]
    unfold objP
    dsimp only
    rw [if_pos rfl, show (a : Int) + 1 + ((p : Int) - a - 1) = p by omega]
    have e2 : obW (body D) (.mk 1 0 0 d ks) = wrdN (d.length / 8) d ++ ptrW (body D) (d.length / 8) (d.length / 8 + ks.length) ks := rfl
    rw [e2] at h1
    obtain ⟨h1a, h1b⟩ := h1.app
    have hlen : (wrdN (d.length / 8) d ++ ptrW (body D) (d.length / 8) (d.length / 8 + ks.length) ks).length = d.length / 8 + ks.length := by rw [List.length_append, wrdN_len, ptrW_len]
    rw [hlen] at h1b
    have hin := h1a.inB (n := ((d.length / 8 : Nat) : Int) + (ks.length : Int)) (by rw [hlen]; push_cast; rfl)
    obtain ⟨y, k1, k2⟩ := strct_rt R p h8 hq hb (a := d.length / 8) (z := 0) (i0 := 0) (pos := d.length / 8 + ks.length) (by omega) hQ (m := m - (((d.length / 8 : Nat) : Int) + (ks.length : Int))) (by simpa using h1a) h1b (by push_cast at hm; omega) (o := ⟨1, 0, p, ((d.length / 8 : Nat) : Int), ks.length, 0, 0, ((d.length / 8 : Nat) : Int) + (ks.length : Int)⟩) rfl rfl rfl (by simp)
    refine ⟨y, ?_, k2⟩
    unfold objS denO
    rw [if_pos hin]
    dsimp only at k1 ⊢
    rw [if_pos rfl, if_neg (by push_cast at hm; omega), if_pos rfl, k1]
    congr 2
    push_cast
    omega
theorem can_plain {W : List Int} (hW : W.length ≤ 268435456) {D : Nat} {e n : Int} {d : List Int} (he : 0 ≤ e ∧ e < 6) (hn : 0 ≤ n ∧ n ≤ 536870911) (hl : (d.length : Int) = bytesN e n) (ht : trimB e n d = d) (hb : ∀ x ∈ d, Byte x) {p a : Nat} {m : Int}
    (h1 : At W p (obW (body D) (.mk 2 e n d []))) (h2 : At W a [ptrI (.mk 2 e n d []) ((p : Int) - a - 1)]) (hm : wordsOf e n ≤ m) :
    ∃ y, den [W] (D + 1) m 0 a = (y, m - wordsOf e n, 0) ∧ trimN y = .mk 2 e n d [] := by
  have hp := h1.len
  have ha := h2.len
  have e1 : ptrI (.mk 2 e n d []) ((p : Int) - a - 1) = encL ((p : Int) - a - 1) e n := by
    unfold ptrI
    show (if (2 : Int) = 0 then 0 else if (2 : Int) = 1 then _ else if e = 7 then _ else encL ((p : Int) - a - 1) e n) = _
    rw [if_neg (by decide), if_neg (by decide), if_neg (by omega)]
  have e2 : obW (body D) (.mk 2 e n d []) = wrdN (wordsOf e n).toNat d := by
    unfold obW
    show (if (2 : Int) = 1 then _ else if e = 7 then _ else if e = 6 then _ else wrdN (wordsOf e n).toNat d) = _
    rw [if_neg (by decide), if_neg (by omega), if_neg (by omega)]
  rw [e1] at h2
  rw [e2] at h1
  have hw := wordsOf_range (e := e) hn
  simp only [List.length_singleton] at ha
  rw [e2, wrdN_len] at hp
  obtain ⟨q1, q2, q3⟩ := decI_encL (off := (p : Int) - a - 1) (e := e) (c := n) (by omega) (by omega) hn
  have hne : encL ((p : Int) - a - 1) e n ≠ 0 := by omega
  rw [den_step h2 (by omega) hne, q1]
  unfold objP
  dsimp only
  rw [if_neg (by decide), if_pos rfl, show (a : Int) + 1 + ((p : Int) - a - 1) = p by omega]
  have hin := h1.inB (n := wordsOf e n) (by rw [wrdN_len]; omega)
  have h7 : ¬ e = 7 := by omega
  unfold objL denO
  rw [if_neg h7, if_pos hin]
  dsimp only
  rw [if_pos rfl, if_neg (by omega), if_neg (by decide)]
  unfold denL
  dsimp only
  rw [if_pos he.2, h1.cutB (by rw [wrdN_len]; omega)]
  have hbw := bytes_words he hn
  refine ⟨_, rfl, ?_⟩
  rw [byt_wrdN _ hb (by omega), trimB_pad hn.1 hl, ht, trimN, if_neg (by decide)]
  rfl
theorem can_ptrs {W : List Int} (hW : W.length ≤ 268435456) {D : Nat} (R : Rt W (den [W] D) (body D) (cstN D) (Ok D)) {n : Int} {ks : List Nd} (hn : 0 ≤ n ∧ n ≤ 536870911) (hk : (ks.length : Int) = n) (hQ : ∀ t ∈ ks, Ok D t) {p a : Nat} {m : Int}
    (h1 : At W p (obW (body D) (.mk 2 6 n [] ks) ++ ks.flatMap (body D))) (h2 : At W a [ptrI (.mk 2 6 n [] ks) ((p : Int) - a - 1)]) (hm : wordsOf 6 n + sumL (ks.map (cstN D)) ≤ m) :
    ∃ y, den [W] (D + 1) m 0 a = (y, m - (wordsOf 6 n + sumL (ks.map (cstN D))), 0) ∧ trimN y = .mk 2 6 n [] ks := by
  have hp := h1.len
  have ha := h2.len
  have e1 : ptrI (.mk 2 6 n [] ks) ((p : Int) - a - 1) = encL ((p : Int) - a - 1) 6 n := rfl
  have e2 : obW (body D) (.mk 2 6 n [] ks) = ptrW (body D) 0 ks.length ks := rfl
  rw [e1] at h2
  rw [e2] at h1
  have hw : wordsOf 6 n = n := by unfold wordsOf bitsOf; simp; omega
  have hsn := sum_nn R hQ
  simp only [List.length_singleton] at ha
  obtain ⟨q1, q2, q3⟩ := decI_encL (off := (p : Int) - a - 1) (e := 6) (c := n) (by omega) (by omega) hn
  have hne : encL ((p : Int) - a - 1) 6 n ≠ 0 := by omega
  obtain ⟨h1a, h1b⟩ := h1.app
  rw [ptrW_len] at h1b
  rw [den_step h2 (by omega) hne, q1]
  unfold objP
  dsimp only
  rw [if_neg (by decide), if_pos rfl, show (a : Int) + 1 + ((p : Int) - a - 1) = p by omega]
  have hin := h1a.inB (n := wordsOf 6 n) (by rw [ptrW_len]; omega)
  unfold objL denO
  rw [if_neg (show ¬ (6 : Int) = 7 by decide), if_pos hin]
  dsimp only
  rw [if_pos rfl, if_neg (by omega), if_neg (by decide)]
  unfold denL
  dsimp only
  rw [if_neg (by decide)]
  obtain ⟨ys, k1, k2⟩ := kids_rt R p ks 0 ks.length 0 (m - wordsOf 6 n) [] (fun m (i : Nat) => if (6 : Int) = 6 then den [W] D m 0 ((p : Int) + i) else strct (den [W] D) [W] m (elt ⟨2, 0, p, 0, 0, 6, n, wordsOf 6 n⟩ i)) (fun m j => by
    rw [if_pos (show (6 : Int) = 6 from rfl)]
    congr 1
    omega) hQ h1a h1b (by omega)
  rw [show n.toNat = ks.length by omega, k1]
  unfold wrapK
  dsimp only
  rw [if_pos rfl, List.nil_append]
  refine ⟨_, by rw [show m - wordsOf 6 n - sumL (ks.map (cstN D)) = m - (wordsOf 6 n + sumL (ks.map (cstN D))) by omega], ?_⟩
  rw [trimN, if_neg (by decide), trimNs_eq, k2]
theorem can_comp {W : List Int} (hW : W.length ≤ 268435456) {D : Nat} (R : Rt W (den [W] D) (body D) (cstN D) (Ok D)) {n : Int} {ks : List Nd} (hn : 0 ≤ n ∧ n ≤ 536870911) (hk : (ks.length : Int) = n)
    (hs : ∀ k ∈ ks, ∃ d q, k = .mk 1 0 0 d q ∧ 8 * wordsT d = d.length ∧ ptrsT q = q.length ∧ (∀ x ∈ d, Byte x) ∧ d.length % 8 = 0 ∧ d.length ≤ 524280 ∧ q.length ≤ 65535) (hQ : ∀ t ∈ ks.flatMap Nd.kids, Ok D t) {p a : Nat} {m : Int}
    (h1 : At W p (obW (body D) (.mk 2 7 n [] ks) ++ (ks.flatMap Nd.kids).flatMap (body D))) (h2 : At W a [ptrI (.mk 2 7 n [] ks) ((p : Int) - a - 1)]) (hm : ownC (.mk 2 7 n [] ks) + sumL ((ks.flatMap Nd.kids).map (cstN D)) ≤ m) :
    ∃ y, den [W] (D + 1) m 0 a = (y, m - (ownC (.mk 2 7 n [] ks) + sumL ((ks.flatMap Nd.kids).map (cstN D))), 0) ∧ trimN y = .mk 2 7 n [] ks := by
  have hp := h1.len
  have ha := h2.len
  have e1 : ptrI (.mk 2 7 n [] ks) ((p : Int) - a - 1) = encL ((p : Int) - a - 1) 7 (n * ((uniD ks + uniP ks : Nat) : Int)) := rfl
  have e2 : obW (body D) (.mk 2 7 n [] ks) = encS n (uniD ks) (uniP ks) :: asmC (body D) (uniD ks) (uniP ks) 1 (1 + ks.length * (uniD ks + uniP ks)) ks := rfl
  have e3 : ownC (.mk 2 7 n [] ks) = 1 + n * ((uniD ks + uniP ks : Nat) : Int) + (if uniD ks + uniP ks = 0 then n else 0) := by
    show (1 + n * ((uniD ks + uniP ks : Nat) : Int)) + (if (2 : Int) = 2 ∧ (7 : Int) = 7 ∧ uniD ks + uniP ks = 0 then n else 0) = _
    simp only [true_and]
  have hal := asmC_len (body D) (uniD ks) (uniP ks) 1 (1 + ks.length * (uniD ks + uniP ks)) ks (fun k hk => uniP_mem hk)
  rw [e1] at h2
  rw [e2, List.cons_append] at h1
  rw [e2, List.cons_append, List.length_cons, List.length_append, hal] at hp
  have hnu : n * ((uniD ks + uniP ks : Nat) : Int) = ((ks.length * (uniD ks + uniP ks) : Nat) : Int) := by rw [← hk]; push_cast; rfl
  rw [e3, hnu] at hm ⊢
  rw [hnu] at h2
  have hsn := sum_nn R hQ
  have hud : uniD ks ≤ 65535 := uniD_le fun x hx => by
    obtain ⟨d, q, rfl, _, _, _, _, g1, _⟩ := hs x hx
    show d.length / 8 ≤ 65535
    omega
  have huq : uniP ks ≤ 65535 := uniP_le fun x hx => by
    obtain ⟨d, q, rfl, _, _, _, _, _, g1⟩ := hs x hx
    exact g1
  simp only [List.length_singleton] at ha
  obtain ⟨q1, q2, q3⟩ := decI_encL (off := (p : Int) - a - 1) (e := 7) (c := ((ks.length * (uniD ks + uniP ks) : Nat) : Int)) (by omega) (by omega) (by omega)
  have hne : encL ((p : Int) - a - 1) 7 ((ks.length * (uniD ks + uniP ks) : Nat) : Int) ≠ 0 := by omega
  obtain ⟨t1, t2, t3⟩ := decI_encS (off := n) (d := uniD ks) (q := uniP ks) (by omega) hud huq
  obtain ⟨w1, w2, w3⟩ := h1.cons
  obtain ⟨h1a, h1b⟩ := w3.app
  rw [hal] at h1b
  have hin : inB [W] 0 p (((ks.length * (uniD ks + uniP ks) : Nat) : Int) + 1) := by
    have := (show At W p ([encS n (uniD ks) (uniP ks)] ++ (asmC (body D) (uniD ks) (uniP ks) 1 (1 + ks.length * (uniD ks + uniP ks)) ks ++ (ks.flatMap Nd.kids).flatMap (body D))) from h1)
    rw [← List.append_assoc] at this
    exact this.app.1.inB (by rw [List.length_append, hal, List.length_singleton]; push_cast; omega)
  rw [den_step h2 (by omega) hne, q1]
  unfold objP
  dsimp only
  rw [if_neg (by decide), if_pos rfl, show (a : Int) + 1 + ((p : Int) - a - 1) = p by omega]
  unfold objL objC denO
  rw [if_pos (show (7 : Int) = 7 from rfl), if_pos hin, w1, t1]
  dsimp only
  have hcond : (0 : Int) = 0 ∧ 0 ≤ n ∧ n * ((uniD ks : Int) + (uniP ks : Int)) ≤ ((ks.length * (uniD ks + uniP ks) : Nat) : Int) := ⟨rfl, hn.1, by rw [show n * ((uniD ks : Int) + (uniP ks : Int)) = n * ((uniD ks + uniP ks : Nat) : Int) by push_cast; rfl, hnu]; exact Int.le_refl _⟩
  rw [if_pos hcond]
  dsimp only
  have hun : ((uniD ks : Int) + (uniP ks : Int) = 0) = (uniD ks + uniP ks = 0) := by
    apply propext
    omega
  simp only [hun]
  generalize hz : (if uniD ks + uniP ks = 0 then n else 0) = z at hm ⊢
  have hz0 : 0 ≤ z := by subst hz; split <;> omega
  rw [if_pos trivial, if_neg (by omega), if_neg (by decide)]
  unfold denL
  dsimp only
  rw [if_neg (by decide)]
  rw [sumL_flat] at hm hsn ⊢
  rw [flat_flat] at h1b
  obtain ⟨ys, k1, k2⟩ := elems_rt R p (uniD ks) (uniP ks) ks 1 (1 + ks.length * (uniD ks + uniP ks)) 0 (m - (((ks.length * (uniD ks + uniP ks) : Nat) : Int) + 1 + z)) [] (fun m (i : Nat) => if (7 : Int) = 6 then den [W] D m 0 ((p : Int) + 1 + i) else strct (den [W] D) [W] m (elt ⟨2, 0, (p : Int) + 1, uniD ks, uniP ks, 7, n, ((ks.length * (uniD ks + uniP ks) : Nat) : Int) + 1 + z⟩ i)) (fun m j => by
    rw [if_neg (show ¬ (7 : Int) = 6 by decide)]
    unfold elt
    congr 2
    push_cast
    rw [Int.zero_add]) (fun k hk => by
    obtain ⟨d, q, rfl, g1, g2, g3, g4, g5, g6⟩ := hs k hk
    have hud := uniD_mem hk
    have hup := uniP_mem hk
    have hud' : d.length / 8 ≤ uniD ks := hud
    exact ⟨⟨d, q, rfl, g1, g2, g3, by omega, hup⟩, fun t ht => hQ t (List.mem_flatMap.2 ⟨_, hk, ht⟩)⟩) h1a (by rw [← Nat.add_assoc]; exact h1b) (by omega)
  rw [show n.toNat = ks.length by omega, k1]
  unfold wrapK
  dsimp only
  rw [if_pos rfl, List.nil_append]
  refine ⟨_, by congr 2; omega, ?_⟩
  rw [trimN, if_neg (by decide), trimNs_eq, k2]
/-- The canonical form of a node denotes it, whatever stands around it. -/
theorem den_can {W : List Int} (hW : W.length ≤ 268435456) : ∀ D, Rt W (den [W] D) (body D) (cstN D) (Ok D)
  | 0 => ⟨fun t a q m h1 h2 h3 h4 => by
      have hk : t.kind = 0 := h1.dp
      have := vn_null h1.vn hk
      subst this
      exact ⟨nd0, by rw [den_null h3]; show _ = (nd0, m - 0, _); rw [Int.sub_zero], trimN0⟩, fun a m h => den_null h 0 m, fun t h => cstN_nn 0 h.vn⟩
  | D + 1 => by
    have R := den_can hW D
    refine ⟨fun t a q m h1 h2 h3 h4 => ?_, fun a m h => den_null h (D + 1) m, fun t h => cstN_nn (D + 1) h.vn⟩
    by_cases h0 : t.kind = 0
    · have := vn_null h1.vn h0
      subst this
      refine ⟨nd0, ?_, trimN0⟩
      rw [den_null h3]
      show _ = (nd0, m - 0, _)
      rw [Int.sub_zero]
    · have hT := ok_tgt h1 h0
      rw [body, if_neg h0] at h2
      rw [cstN, if_neg h0] at h4 ⊢
      obtain ⟨hs, hkk⟩ := vn_shp h1.vn
      rcases hs with hs | hs | hs
      · exact absurd hs.1 h0
      · obtain ⟨d, ks, rfl, g1, g2, g3, g4, g5, g6⟩ := st_parts h1.vn h1.tr h1.gd hs.1
        have e : ownC (.mk 1 0 0 d ks) = ((d.length / 8 + ks.length : Nat) : Int) := by
          rw [ownC_mk, if_neg (fun h => absurd h.1 (by decide)), Int.add_zero]
          rfl
        rw [e] at h4 ⊢
        exact can_struct hW R g1 g2 g3 g4 g5 g6 hT h2 h3 h4
      · cases t with
        | mk k e n d ks =>
          obtain ⟨k2, hn, he, h6, hl6⟩ := hs
          have k2' : k = 2 := k2
          subst k2'
          have hn' : 0 ≤ n ∧ n ≤ 536870911 := hn
          have he' : 0 ≤ e ∧ e ≤ 7 := he
          have hg := h1.gd
          rw [good] at hg
          by_cases e7 : e = 7
          · subst e7
            obtain ⟨a1, a2⟩ := h6 (show (6 : Int) ≤ 7 by decide)
            obtain rfl : d = [] := List.length_eq_zero_iff.1 a1
            have hst : ∀ k ∈ ks, k.kind = 1 := by
              cases h1.vn with
              | mk v1 v2 v3 => exact v2 rfl rfl
            have htr : ∀ k ∈ ks, TrN k := by
              cases h1.tr with
              | mk t1 t2 => exact t2
            exact can_comp hW R hn' a2 (fun k hk => st_parts (hkk k hk) (htr k hk) (goods_iff.1 hg.2 k hk) (hst k hk)) hT h2 h3 h4
          · have et : tgt (.mk 2 e n d ks) = ks := by
              show (if (2 : Int) = 2 ∧ e = 7 then _ else ks) = _
              rw [if_neg (fun h => e7 h.2)]
            have eo : ownC (.mk 2 e n d ks) = wordsOf e n := by
              rw [ownC_mk, if_neg (fun h => e7 h.2.1), Int.add_zero]
              unfold objSz
              show (if (2 : Int) = 0 then 0 else if (2 : Int) = 1 then _ else if e = 7 then _ else wordsOf e n) = _
              rw [if_neg (by decide), if_neg (by decide), if_neg e7]
            rw [et] at h2 h4 hT ⊢
            rw [eo] at h4 ⊢
            by_cases e6 : e = 6
            · subst e6
              obtain ⟨a1, a2⟩ := h6 (show (6 : Int) ≤ 6 by decide)
              obtain rfl : d = [] := List.length_eq_zero_iff.1 a1
              exact can_ptrs hW R hn' a2 hT h2 h3 h4
            · obtain ⟨b1, b2, b3⟩ := hl6 (show e < 6 by omega)
              obtain rfl : ks = [] := List.length_eq_zero_iff.1 b1
              rw [List.flatMap_nil, List.append_nil] at h2
              simp only [List.map_nil, sumL_nil, Int.add_zero] at h4 ⊢
              exact can_plain hW (e := e) ⟨he'.1, by omega⟩ hn' b2 b3 hg.1.2.1 h2 h3 h4
end Go.Proofs.YtfljialckkgacaaGreatDoor.E
set_option linter.unusedVariables false
set_option linter.unusedSimpArgs false
namespace Go.Proofs.YtfljialckkgacaaGreatDoor.E
/-! Words encoded. -/
theorem and_high {w i m : Nat} (hw : w < 2 ^ i) (h : i + m ≤ 64) : w &&& (2 ^ 64 - 1 - (2 ^ m - 1) * 2 ^ i) = w := by
  have hk : 2 ^ 64 = 2 ^ (64 - i) * 2 ^ i := by rw [← Nat.pow_add]; congr 1; omega
  have hmi : 2 ^ m ≤ 2 ^ (64 - i) := Nat.pow_le_pow_right (by decide) (by omega)
  have hi : 0 < 2 ^ i := Nat.pow_pos (by decide)
  have hm : 0 < 2 ^ m := Nat.pow_pos (by decide)
  have e : 2 ^ 64 - 1 - (2 ^ m - 1) * 2 ^ i = 2 ^ i * (2 ^ (64 - i) - 2 ^ m) + (2 ^ i - 1) := by
    have h2 : 2 ^ m * 2 ^ i ≤ 2 ^ (64 - i) * 2 ^ i := Nat.mul_le_mul_right _ hmi
    rw [hk, Nat.sub_mul, Nat.one_mul, Nat.mul_sub, Nat.mul_comm (2 ^ i) (2 ^ (64 - i)), Nat.mul_comm (2 ^ i) (2 ^ m)]
    have h3 : 2 ^ i ≤ 2 ^ m * 2 ^ i := Nat.le_mul_of_pos_left _ hm
    omega
  rw [e]
  apply Nat.eq_of_testBit_eq
  intro j
  rw [Nat.testBit_and, Nat.testBit_two_pow_mul_add _ (by omega)]
  by_cases hj : j < i
  · rw [if_pos hj, Nat.testBit_two_pow_sub_one, decide_eq_true hj, Bool.and_true]
  · rw [if_neg hj]
    have : w.testBit j = false := Nat.testBit_lt_two_pow (Nat.lt_of_lt_of_le hw (Nat.pow_le_pow_right (by decide) (by omega)))
    rw [this, Bool.false_and]
theorem and_mid {v i m : Nat} (h : i + m ≤ 64) : (v * 2 ^ i % 2 ^ 64) &&& ((2 ^ m - 1) * 2 ^ i) = v % 2 ^ m * 2 ^ i := by
  apply Nat.eq_of_testBit_eq
  intro j
  rw [Nat.testBit_and, Nat.testBit_mod_two_pow, Nat.mul_comm v, Nat.mul_comm (2 ^ m - 1), Nat.mul_comm (v % 2 ^ m), Nat.testBit_two_pow_mul, Nat.testBit_two_pow_mul, Nat.testBit_two_pow_mul, Nat.testBit_two_pow_sub_one, Nat.testBit_mod_two_pow]
  by_cases h1 : j ≥ i
  · by_cases h2 : j - i < m
    · rw [decide_eq_true h1, decide_eq_true h2, decide_eq_true (show j < 64 by omega)]; simp
    · rw [decide_eq_false h2]; simp
  · rw [decide_eq_false h1]; simp
theorem V_Insert {w v i m : Nat} (hw : w < 2 ^ i) (hv : v < 2 ^ 64) (h1 : 1 ≤ m) (h2 : i + m ≤ 64) : ev 119 [.pv (U (w : Int)), .pv (I (i : Int)), .pv (I (m : Int)), .pv (U (v : Int))] [] = ok (U ((w + v % 2 ^ m * 2 ^ i : Nat) : Int)) := by
  have hk : 2 ^ 64 = 2 ^ (64 - i) * 2 ^ i := by rw [← Nat.pow_add]; congr 1; omega
  have hmi : 2 ^ m ≤ 2 ^ (64 - i) := Nat.pow_le_pow_right (by decide) (by omega)
  have hi : 0 < 2 ^ i := Nat.pow_pos (by decide)
  have hm : 0 < 2 ^ m := Nat.pow_pos (by decide)
  have h64 : 2 ^ m * 2 ^ i ≤ 2 ^ 64 := by rw [hk]; exact Nat.mul_le_mul_right _ hmi
  have hM : (2 ^ m - 1) * 2 ^ i < 2 ^ 64 := by
    rw [Nat.sub_mul, Nat.one_mul]
    have h3 : 2 ^ i ≤ 2 ^ m * 2 ^ i := Nat.le_mul_of_pos_left _ hm
    omega
  have hw64 : w < 2 ^ 64 := Nat.lt_of_lt_of_le hw (Nat.pow_le_pow_right (by decide) (by omega))
  have hx : v % 2 ^ m * 2 ^ i < 2 ^ 64 := by
    have := Nat.mod_lt v hm
    have : v % 2 ^ m * 2 ^ i ≤ (2 ^ m - 1) * 2 ^ i := Nat.mul_le_mul_right _ (by omega)
    omega
  rw [word_Insert_eq, V_mask m h1 (by omega), wu_nat (n := i) (by omega)]
  dsimp only [callT_ret, callT_pan, onlyPV_v, Option.bind_some, pBool_v, pTup_v, pAgg_v, aggOf_v, pSl_v, pInt_v, pI64, pU64, pU32, pU8, List.getElem?_cons_zero, List.getElem?_cons_succ, cells_v, cells_sl, cells_agg, isCell_v, isCell_sl, cnd_t, cnd_f, tt_and, ff_and, nt_t, nt_f, len1, len3, len5, len8, len10, hlen1, clen1, clen5]
  have hmin : min (i : Int).toNat 64 = i := by rw [Int.toNat_natCast, Nat.min_eq_left (by omega)]
  have ei : (2 : Int) ^ i = ((2 ^ i : Nat) : Int) := by push_cast; rfl
  have eM : IntKind.wrap .u64 (((2 ^ m - 1 : Nat) : Int) * 2 ^ i) = (((2 ^ m - 1) * 2 ^ i : Nat) : Int) := by
    rw [ei, ← Int.natCast_mul]; exact wu_nat hM
  have eV : IntKind.wrap .u64 ((v : Int) * 2 ^ i) = ((v * 2 ^ i % 2 ^ 64 : Nat) : Int) := by
    rw [wu64_any, ei, ← Int.natCast_mul]
    have : (18446744073709551616 : Int) = ((2 ^ 64 : Nat) : Int) := rfl
    rw [this, ← Int.natCast_emod]
  rw [hmin, eM, eV]
  have e1 : (BitVec.ofInt 64 (w : Int) &&& ~~~BitVec.ofInt 64 (((2 ^ m - 1) * 2 ^ i : Nat) : Int)).toNat = w := by
    rw [BitVec.toNat_and, BitVec.toNat_not, ofInt_toNat hw64, ofInt_toNat hM, and_high hw h2]
  have e2 : (BitVec.ofInt 64 ((v * 2 ^ i % 2 ^ 64 : Nat) : Int) &&& BitVec.ofInt 64 (((2 ^ m - 1) * 2 ^ i : Nat) : Int)).toNat = v % 2 ^ m * 2 ^ i := by
    rw [BitVec.toNat_and, ofInt_toNat (Nat.mod_lt _ (by decide)), ofInt_toNat hM, and_mid h2]
  rw [e1, e2, wu_nat hw64, wu_nat hx]
  have e3 : (BitVec.ofInt 64 (w : Int) ||| BitVec.ofInt 64 ((v % 2 ^ m * 2 ^ i : Nat) : Int)).toNat = w + v % 2 ^ m * 2 ^ i := by
    rw [BitVec.toNat_or, ofInt_toNat hw64, ofInt_toNat hx, Nat.or_comm, Nat.mul_comm, ← Nat.two_pow_add_eq_or_of_lt hw]
    omega
  have hs : w + v % 2 ^ m * 2 ^ i < 2 ^ 64 := by
    have h3 : v % 2 ^ m * 2 ^ i ≤ (2 ^ m - 1) * 2 ^ i := Nat.mul_le_mul_right _ (by have := Nat.mod_lt v hm; omega)
    have h4 : (2 ^ m - 1) * 2 ^ i + 2 ^ i ≤ 2 ^ 64 := by
      rw [Nat.sub_mul, Nat.one_mul]
      have h3 : 2 ^ i ≤ 2 ^ m * 2 ^ i := Nat.le_mul_of_pos_left _ hm
      omega
    omega
  rw [e3, wu_nat hs]
  simp [okBin]
theorem V_InsertI {w v : Int} {i m : Nat} (hw : 0 ≤ w ∧ w < 2 ^ i) (hv : 0 ≤ v ∧ v < 18446744073709551616) (h1 : 1 ≤ m) (h2 : i + m ≤ 64) : ev 119 [.pv (U w), .pv (I (i : Int)), .pv (I (m : Int)), .pv (U v)] [] = ok (U (w + v % 2 ^ m * 2 ^ i)) := by
  obtain ⟨a, rfl⟩ := Int.eq_ofNat_of_zero_le hw.1
  obtain ⟨b, rfl⟩ := Int.eq_ofNat_of_zero_le hv.1
  have hw' : a < 2 ^ i := by have := hw.2; exact_mod_cast this
  have hv' : b < 2 ^ 64 := by have := hv.2; omega
  rw [V_Insert hw' hv' h1 h2]
  push_cast
  rfl
theorem V_pack0 {off : Int} {d q : Nat} (hd : d ≤ 65535) (hq : q ≤ 65535) : ev 99 [.pv (.agg [I 0, I off, I d, I q, I 0, I 0, Bo false, I 0, U32 0, U32 0])] [] = ok (U (encS off d q)) := by
  have hm := Int.emod_nonneg off (show (1073741824 : Int) ≠ 0 by decide)
  have hl := Int.emod_lt_of_pos off (show (0 : Int) < 1073741824 by decide)
  have i1 := V_InsertI (w := 0) (v := 0) (i := 0) (m := 2) (by decide) (by decide) (by decide) (by decide)
  have i2 := V_InsertI (w := 0) (v := off % 18446744073709551616) (i := 2) (m := 30) (by decide) (by omega) (by decide) (by decide)
  have e2 : (0 : Int) + off % 18446744073709551616 % 2 ^ 30 * 2 ^ 2 = off % 1073741824 * 4 := by omega
  rw [e2] at i2
  have i3 := V_InsertI (w := off % 1073741824 * 4) (v := d) (i := 32) (m := 16) (by omega) (by omega) (by decide) (by decide)
  have e3 : off % 1073741824 * 4 + (d : Int) % 2 ^ 16 * 2 ^ 32 = off % 1073741824 * 4 + d * 4294967296 := by omega
  rw [e3] at i3
  have i4 := V_InsertI (w := off % 1073741824 * 4 + d * 4294967296) (v := q) (i := 48) (m := 16) (by omega) (by omega) (by decide) (by decide)
  have e4 : off % 1073741824 * 4 + d * 4294967296 + (q : Int) % 2 ^ 16 * 2 ^ 48 = encS off d q := by unfold encS; omega
  rw [e4] at i4
  rw [pointer_pack_eq, show IntKind.wrap .u64 0 = 0 from rfl, show ev 119 [.pv (U 0), .pv (I 0), .pv (I 2), .pv (U 0)] [] = ok (U 0) from i1]
  dsimp only [callT_ret, callT_pan, onlyPV_v, Option.bind_some, pBool_v, pTup_v, pAgg_v, aggOf_v, pSl_v, pInt_v, pI64, pU64, pU32, pU8, List.getElem?_cons_zero, List.getElem?_cons_succ, cells_v, cells_sl, cells_agg, isCell_v, isCell_sl, cnd_t, cnd_f, tt_and, ff_and, nt_t, nt_f, len1, len3, len5, len8, len10, hlen1, clen1, clen5]
  rw [show ((0 : Int) == 0) = true from rfl, wu64_any off]
  dsimp only [callT_ret, callT_pan, onlyPV_v, Option.bind_some, pBool_v, pTup_v, pAgg_v, aggOf_v, pSl_v, pInt_v, pI64, pU64, pU32, pU8, List.getElem?_cons_zero, List.getElem?_cons_succ, cells_v, cells_sl, cells_agg, isCell_v, isCell_sl, cnd_t, cnd_f, tt_and, ff_and, nt_t, nt_f, len1, len3, len5, len8, len10, hlen1, clen1, clen5]
  rw [show ev 119 [.pv (U 0), .pv (I 2), .pv (I 30), .pv (U (off % 18446744073709551616))] [] = ok (U (off % 1073741824 * 4)) from i2]
  dsimp only [callT_ret, callT_pan, onlyPV_v, Option.bind_some, pBool_v, pTup_v, pAgg_v, aggOf_v, pSl_v, pInt_v, pI64, pU64, pU32, pU8, List.getElem?_cons_zero, List.getElem?_cons_succ, cells_v, cells_sl, cells_agg, isCell_v, isCell_sl, cnd_t, cnd_f, tt_and, ff_and, nt_t, nt_f, len1, len3, len5, len8, len10, hlen1, clen1, clen5]
  rw [wu64 (x := (d : Int)) (by omega), show ev 119 [.pv (U (off % 1073741824 * 4)), .pv (I 32), .pv (I 16), .pv (U d)] [] = ok (U (off % 1073741824 * 4 + d * 4294967296)) from i3]
  dsimp only [callT_ret, callT_pan, onlyPV_v, Option.bind_some, pBool_v, pTup_v, pAgg_v, aggOf_v, pSl_v, pInt_v, pI64, pU64, pU32, pU8, List.getElem?_cons_zero, List.getElem?_cons_succ, cells_v, cells_sl, cells_agg, isCell_v, isCell_sl, cnd_t, cnd_f, tt_and, ff_and, nt_t, nt_f, len1, len3, len5, len8, len10, hlen1, clen1, clen5]
  rw [wu64 (x := (q : Int)) (by omega), show ev 119 [.pv (U (off % 1073741824 * 4 + d * 4294967296)), .pv (I 48), .pv (I 16), .pv (U q)] [] = ok (U (encS off d q)) from i4]
  rfl
theorem V_pack1 {off e c : Int} (he : 0 ≤ e ∧ e ≤ 7) (hc : 0 ≤ c ∧ c ≤ 536870911) : ev 99 [.pv (.agg [I 1, I off, I 0, I 0, I e, I c, Bo false, I 0, U32 0, U32 0])] [] = ok (U (encL off e c)) := by
  have hm := Int.emod_nonneg off (show (1073741824 : Int) ≠ 0 by decide)
  have hl := Int.emod_lt_of_pos off (show (0 : Int) < 1073741824 by decide)
  have i1 := V_InsertI (w := 0) (v := 1) (i := 0) (m := 2) (by decide) (by decide) (by decide) (by decide)
  have i2 := V_InsertI (w := 1) (v := off % 18446744073709551616) (i := 2) (m := 30) (by decide) (by omega) (by decide) (by decide)
  have e2 : (1 : Int) + off % 18446744073709551616 % 2 ^ 30 * 2 ^ 2 = off % 1073741824 * 4 + 1 := by omega
  rw [e2] at i2
  have i3 := V_InsertI (w := off % 1073741824 * 4 + 1) (v := e) (i := 32) (m := 3) (by omega) (by omega) (by decide) (by decide)
  have e3 : off % 1073741824 * 4 + 1 + e % 2 ^ 3 * 2 ^ 32 = off % 1073741824 * 4 + 1 + e * 4294967296 := by omega
  rw [e3] at i3
  have i4 := V_InsertI (w := off % 1073741824 * 4 + 1 + e * 4294967296) (v := c) (i := 35) (m := 29) (by omega) (by omega) (by decide) (by decide)
  have e4 : off % 1073741824 * 4 + 1 + e * 4294967296 + c % 2 ^ 29 * 2 ^ 35 = encL off e c := by unfold encL; omega
  rw [e4] at i4
  rw [pointer_pack_eq, show IntKind.wrap .u64 1 = 1 from rfl, show ev 119 [.pv (U 0), .pv (I 0), .pv (I 2), .pv (U 1)] [] = ok (U 1) from i1]
  dsimp only [callT_ret, callT_pan, onlyPV_v, Option.bind_some, pBool_v, pTup_v, pAgg_v, aggOf_v, pSl_v, pInt_v, pI64, pU64, pU32, pU8, List.getElem?_cons_zero, List.getElem?_cons_succ, cells_v, cells_sl, cells_agg, isCell_v, isCell_sl, cnd_t, cnd_f, tt_and, ff_and, nt_t, nt_f, len1, len3, len5, len8, len10, hlen1, clen1, clen5]
  rw [show ((1 : Int) == 0) = false from rfl, show ((1 : Int) == 1) = true from rfl, wu64_any off]
  dsimp only [callT_ret, callT_pan, onlyPV_v, Option.bind_some, pBool_v, pTup_v, pAgg_v, aggOf_v, pSl_v, pInt_v, pI64, pU64, pU32, pU8, List.getElem?_cons_zero, List.getElem?_cons_succ, cells_v, cells_sl, cells_agg, isCell_v, isCell_sl, cnd_t, cnd_f, tt_and, ff_and, nt_t, nt_f, len1, len3, len5, len8, len10, hlen1, clen1, clen5]
  rw [show ev 119 [.pv (U 1), .pv (I 2), .pv (I 30), .pv (U (off % 18446744073709551616))] [] = ok (U (off % 1073741824 * 4 + 1)) from i2]
  dsimp only [callT_ret, callT_pan, onlyPV_v, Option.bind_some, pBool_v, pTup_v, pAgg_v, aggOf_v, pSl_v, pInt_v, pI64, pU64, pU32, pU8, List.getElem?_cons_zero, List.getElem?_cons_succ, cells_v, cells_sl, cells_agg, isCell_v, isCell_sl, cnd_t, cnd_f, tt_and, ff_and, nt_t, nt_f, len1, len3, len5, len8, len10, hlen1, clen1, clen5]
  rw [wu64 (x := e) (by omega), show ev 119 [.pv (U (off % 1073741824 * 4 + 1)), .pv (I 32), .pv (I 3), .pv (U e)] [] = ok (U (off % 1073741824 * 4 + 1 + e * 4294967296)) from i3]
  dsimp only [callT_ret, callT_pan, onlyPV_v, Option.bind_some, pBool_v, pTup_v, pAgg_v, aggOf_v, pSl_v, pInt_v, pI64, pU64, pU32, pU8, List.getElem?_cons_zero, List.getElem?_cons_succ, cells_v, cells_sl, cells_agg, isCell_v, isCell_sl, cnd_t, cnd_f, tt_and, ff_and, nt_t, nt_f, len1, len3, len5, len8, len10, hlen1, clen1, clen5]
  rw [wu64 (x := c) (by omega), show ev 119 [.pv (U (off % 1073741824 * 4 + 1 + e * 4294967296)), .pv (I 35), .pv (I 29), .pv (U c)] [] = ok (U (encL off e c)) from i4]
  rfl
theorem eq10 {a1 a2 a3 a4 a5 a6 a7 a8 a9 : Int} {b : Bool} : eqCells [false, false, false, false, false, false, true, false, false, false] [I a1, I a2, I a3, I a4, I a5, I a6, Bo b, I a7, U32 a8, U32 a9] [I a1, I a2, I a3, I a4, I a5, I a6, Bo b, I a7, U32 a8, U32 a9] = some true := by
  simp [eqCells]
theorem V_Encode0 {off : Int} {d q : Nat} (ho : -536870912 ≤ off ∧ off ≤ 536870911) (hd : d ≤ 65535) (hq : q ≤ 65535) : ev 78 [.pv (.agg [I 0, I off, I d, I q, I 0, I 0, Bo false, I 0, U32 0, U32 0])] [] = ok (.tup [U (encS off d q), Bo true]) := by
  have hp := V_pack0 (off := off) hd hq
  obtain ⟨q1, q2, q3⟩ := decI_encS ho hd hq
  rw [pointer_Encode_eq, pointer_Valid_eq, hp]
  dsimp only [callT_ret, callT_pan, onlyPV_v, Option.bind_some, pBool_v, pTup_v, pAgg_v, aggOf_v, pSl_v, pInt_v, pI64, pU64, pU32, pU8, List.getElem?_cons_zero, List.getElem?_cons_succ, cells_v, cells_sl, cells_agg, isCell_v, isCell_sl, cnd_t, cnd_f, tt_and, ff_and, nt_t, nt_f, len1, len3, len5, len8, len10, hlen1, clen1, clen5]
  rw [V_Decode q2, q1]
  dsimp only [ptc, callT_ret, callT_pan, onlyPV_v, Option.bind_some, pBool_v, pTup_v, pAgg_v, aggOf_v, pSl_v, pInt_v, pI64, pU64, pU32, pU8, List.getElem?_cons_zero, List.getElem?_cons_succ, cells_v, cells_sl, cells_agg, isCell_v, isCell_sl, cnd_t, cnd_f, tt_and, ff_and, nt_t, nt_f, len1, len3, len5, len8, len10, hlen1, clen1, clen5]
  rw [eq10]
  rfl
theorem V_Encode1 {off e c : Int} (ho : -536870912 ≤ off ∧ off ≤ 536870911) (he : 0 ≤ e ∧ e ≤ 7) (hc : 0 ≤ c ∧ c ≤ 536870911) : ev 78 [.pv (.agg [I 1, I off, I 0, I 0, I e, I c, Bo false, I 0, U32 0, U32 0])] [] = ok (.tup [U (encL off e c), Bo true]) := by
  have hp := V_pack1 (off := off) he hc
  obtain ⟨q1, q2, q3⟩ := decI_encL ho he hc
  rw [pointer_Encode_eq, pointer_Valid_eq, hp]
  dsimp only [callT_ret, callT_pan, onlyPV_v, Option.bind_some, pBool_v, pTup_v, pAgg_v, aggOf_v, pSl_v, pInt_v, pI64, pU64, pU32, pU8, List.getElem?_cons_zero, List.getElem?_cons_succ, cells_v, cells_sl, cells_agg, isCell_v, isCell_sl, cnd_t, cnd_f, tt_and, ff_and, nt_t, nt_f, len1, len3, len5, len8, len10, hlen1, clen1, clen5]
  rw [V_Decode q2, q1]
  dsimp only [ptc, callT_ret, callT_pan, onlyPV_v, Option.bind_some, pBool_v, pTup_v, pAgg_v, aggOf_v, pSl_v, pInt_v, pI64, pU64, pU32, pU8, List.getElem?_cons_zero, List.getElem?_cons_succ, cells_v, cells_sl, cells_agg, isCell_v, isCell_sl, cnd_t, cnd_f, tt_and, ff_and, nt_t, nt_f, len1, len3, len5, len8, len10, hlen1, clen1, clen5]
  rw [eq10]
  rfl
end Go.Proofs.YtfljialckkgacaaGreatDoor.E
set_option linter.unusedVariables false
set_option linter.unusedSimpArgs false
namespace Go.Proofs.YtfljialckkgacaaGreatDoor.E
/-! A canonical form costs no more than the message. -/
theorem nodSz_le : ∀ (D : Nat) {x : Nd}, VN x → Dp D x → nodSz D x ≤ cstN D x
  | 0, x, hv, hd => by
    have h0 : x.kind = 0 := hd
    rw [nodSz_null hv h0]
    exact Int.le_refl _
  | D + 1, x, hv, hd => by
    by_cases h0 : x.kind = 0
    · rw [nodSz_null hv h0]
      exact cstN_nn (D + 1) hv
    · have hd' := (hd.resolve_left h0).2
      rw [nodSz, cstN, if_neg h0]
      have h1 : objSz x ≤ ownC x := by
        unfold ownC
        split
        · rename_i h
          obtain ⟨hs, _⟩ := vn_shp hv
          rcases hs with hs | hs | hs <;> omega
        · omega
      have h2 : ∀ l : List Nd, (∀ t ∈ l, nodSz D t ≤ cstN D t) → sumL (l.map (nodSz D)) ≤ sumL (l.map (cstN D)) := by
        intro l
        induction l with
        | nil => intro _; exact Int.le_refl _
        | cons t l ih =>
          intro h
          rw [List.map_cons, List.map_cons, sumL_cons, sumL_cons]
          have := h t List.mem_cons_self
          have := ih fun x hx => h x (List.mem_cons_of_mem _ hx)
          omega
      have := h2 (tgt x) fun t ht => nodSz_le D (vn_tgt hv t ht) (hd' t ht)
      omega
theorem kids_cost {C : Nd → Int} {G : Int → Nat → Nd × Int × Int} {Q : Nd → Prop} : ∀ (c i : Nat) (m : Int) (acc : List Nd), (∀ m j, i ≤ j → j < i + c → (G m j).2.2 = 0 → C (G m j).1 ≤ m - (G m j).2.1 ∧ Q (G m j).1) → (kidsF G c i m acc).2.2 = 0 →
    ∃ ys, (kidsF G c i m acc).1 = acc ++ ys ∧ ys.length = c ∧ sumL (ys.map C) ≤ m - (kidsF G c i m acc).2.1 ∧ ∀ y ∈ ys, Q y
  | 0, i, m, acc, h, h0 => ⟨[], by simp [kidsF], rfl, by simp [kidsF, sumL_nil], fun y hy => by cases hy⟩
  | c + 1, i, m, acc, h, h0 => by
    rw [kidsF] at h0 ⊢
    by_cases e : (G m i).2.2 = 0
    · rw [if_pos e] at h0 ⊢
      obtain ⟨ys, k1, k2, k3, k4⟩ := kids_cost c (i + 1) _ _ (fun m j q1 q2 => h m j (by omega) (by omega)) h0
      obtain ⟨g1, g2⟩ := h m i (Nat.le_refl _) (by omega) e
      refine ⟨(G m i).1 :: ys, by rw [k1]; simp, by simp [k2], ?_, fun y hy => ?_⟩
      · rw [List.map_cons, sumL_cons]; omega
      · rcases List.mem_cons.1 hy with rfl | hy
        · exact g2
        · exact k4 y hy
    · rw [if_neg e] at h0
      exact absurd h0 e
theorem sumL_take {c : Nd → Int} : ∀ (l : List Nd) (n : Nat), (∀ x ∈ l, 0 ≤ c x) → sumL ((l.take n).map c) ≤ sumL (l.map c)
  | [], n, _ => by simp
  | x :: l, 0, h => by
    rw [List.take_zero, List.map_nil, sumL_nil]
    exact sumL_nn fun y hy => by
      obtain ⟨t, ht, rfl⟩ := List.mem_map.1 hy
      exact h t ht
  | x :: l, n + 1, h => by
    rw [List.take_succ_cons, List.map_cons, List.map_cons, sumL_cons, sumL_cons]
    have := sumL_take l n fun y hy => h y (List.mem_cons_of_mem _ hy)
    omega
/-- A traversal's answer costs at least what the canonical form of its value costs. -/
def Cst (D : Nat) (F : Int → Int → Int → Nd × Int × Int) : Prop := ∀ m s a, (F m s a).2.2 = 0 → cstN D (trimN (F m s a).1) ≤ m - (F m s a).2.1 ∧ VN (F m s a).1
theorem strct_cst {D : Nat} {F : Int → Int → Int → Nd × Int × Int} (h : Cst D F) (l : List (List Int)) (m : Int) {o : Ob} (hd : 0 ≤ o.data) (hz : (strct F l m o).2.2 = 0) :
    ∃ d ks, (strct F l m o).1 = .mk 1 0 0 d ks ∧ d.length ≤ 8 * o.data.toNat ∧ ks.length = o.ptrs.toNat ∧ sumL ((ks.map trimN).map (cstN D)) ≤ m - (strct F l m o).2.1 ∧ (∀ y ∈ ks, VN y) ∧ ((strct F l m o).2.1 = (strct F l m o).2.1) := by
  unfold strct at hz ⊢
  have hz' : (kidsF (fun m (i : Nat) => F m o.seg (o.at_ + o.data + i)) o.ptrs.toNat 0 m []).2.2 = 0 := hz
  obtain ⟨ys, k1, k2, k3, k4⟩ := kids_cost (C := fun x => cstN D (trimN x)) (Q := VN) o.ptrs.toNat 0 m [] (fun m j _ _ h0 => h m o.seg (o.at_ + o.data + j) h0) hz'
  rw [wrapK_ok0 hz']
  have hcl := cutB_len l o.seg o.at_ o.data
  refine ⟨_, _, rfl, by rw [byt_len]; omega, by rw [k1, List.nil_append, k2], ?_, fun y hy => k4 y (by rw [k1, List.nil_append] at hy; exact hy), rfl⟩
  rw [k1, List.nil_append, List.map_map]
  exact k3
theorem trim_mk1 (d : List Int) (ks : List Nd) : trimN (.mk 1 0 0 d ks) = .mk 1 0 0 (d.take (8 * wordsT d)) ((ks.map trimN).take (ptrsT ks)) := by rw [trimN, if_pos rfl, trimNs_eq]
/-- What an object charges. -/
theorem obj_cst {l : List (List Int)} (hl : Segs l) (hs : Sm l) {s a : Int} (h0 : (fol l s a).1 ≠ 0) (hf : (fol l s a).2.2.2 = 0) (he : (obj l s a).2 = 0) :
    ((obj l s a).1.kind = 1 → (obj l s a).1.data + (obj l s a).1.ptrs ≤ (obj l s a).1.cost) ∧ ((obj l s a).1.kind = 2 → (obj l s a).1.elem ≠ 7 → wordsOf (obj l s a).1.elem (obj l s a).1.n ≤ (obj l s a).1.cost) ∧
    ((obj l s a).1.kind = 2 → (obj l s a).1.elem = 7 → 1 + (obj l s a).1.n * ((obj l s a).1.data + (obj l s a).1.ptrs) ≤ (obj l s a).1.cost ∧ ((obj l s a).1.data + (obj l s a).1.ptrs = 0 → 1 + (obj l s a).1.n ≤ (obj l s a).1.cost)) := by
  have hd := dec_small (fol_word hl s a)
  unfold obj at he ⊢
  rw [if_pos hf, if_neg h0] at he ⊢
  unfold objP at he ⊢
  generalize decI (fol l s a).1 = p at he hd ⊢
  by_cases k0 : p.1 = 0
  · rw [if_pos k0] at he ⊢
    unfold objS at he ⊢
    by_cases hb : inB l (fol l s a).2.1 ((fol l s a).2.2.1 + p.2.1) (p.2.2.1 + p.2.2.2.1)
    · rw [if_pos hb]
      exact ⟨fun _ => by dsimp only; omega, fun h => absurd h (by dsimp only; omega), fun h => absurd h (by dsimp only; omega)⟩
    · rw [if_neg hb] at he; exact bad_no he (by decide)
  · rw [if_neg k0] at he ⊢
    by_cases k1 : p.1 = 1
    · rw [if_pos k1] at he ⊢
      unfold objL at he ⊢
      by_cases h7 : p.2.2.2.2.1 = 7
      · rw [if_pos h7] at he ⊢
        unfold objC at he ⊢
        by_cases hb : inB l (fol l s a).2.1 ((fol l s a).2.2.1 + p.2.1) (p.2.2.2.2.2.1 + 1)
        · rw [if_pos hb] at he ⊢
          split at he
          · rename_i hk
            rw [if_pos hk]
            refine ⟨fun h => absurd h (by dsimp only; omega), fun _ h => absurd rfl h, fun _ _ => ⟨?_, fun h => ?_⟩⟩
            · have := hk.2.1
              have := hk.2.2
              dsimp only
              split <;> omega
            · dsimp only at h ⊢
              rw [if_pos h]
              omega
          · exact bad_no he (by decide)
        · rw [if_neg hb] at he; exact bad_no he (by decide)
      · rw [if_neg h7] at he ⊢
        by_cases hb : inB l (fol l s a).2.1 ((fol l s a).2.2.1 + p.2.1) (wordsOf p.2.2.2.2.1 p.2.2.2.2.2.1)
        · rw [if_pos hb]
          exact ⟨fun h => absurd h (by dsimp only; omega), fun _ _ => by dsimp only; omega, fun _ h => absurd h h7⟩
        · rw [if_neg hb] at he; exact bad_no he (by decide)
    · rw [if_neg k1] at he
      split at he
      · exact bad_no he (by decide)
      · exact bad_no he (by decide)
theorem den_cst {l : List (List Int)} (hl : Segs l) (hs : Sm l) : ∀ D, Cst D (den l D) := by
  intro D
  induction D with
  | zero =>
    intro m s a hz
    unfold den at hz ⊢
    by_cases h1 : (fol l s a).2.2.2 = 0
    · rw [if_pos h1] at hz ⊢
      by_cases h2 : (fol l s a).1 = 0
      · rw [if_pos h2]
        exact ⟨by show 0 ≤ m - m; omega, vn0⟩
      · rw [if_neg h2] at hz; exact absurd hz (show ¬ (7 : Int) = 0 by decide)
    · rw [if_neg h1] at hz; exact absurd hz h1
  | succ D ih =>
    intro m s a hz
    refine ⟨?_, (den_okd hl hs (D + 1) m s a hz).1⟩
    rw [den] at hz ⊢
    dsimp only at hz ⊢
    by_cases h1 : (fol l s a).2.2.2 = 0
    · rw [if_pos h1] at hz ⊢
      by_cases h2 : (fol l s a).1 = 0
      · rw [if_pos h2]
        show cstN (D + 1) (trimN nd0) ≤ m - m
        rw [trimN0, cstN]
        show (if (0 : Int) = 0 then 0 else _) ≤ _
        rw [if_pos rfl]
        omega
      · rw [if_neg h2] at hz ⊢
        unfold denO at hz ⊢
        by_cases h3 : (obj l s a).2 = 0
        · rw [if_pos h3] at hz ⊢
          have ho := obj_ok hl hs h2 h1 h3
          have hi := obj_cst hl hs h2 h1 h3
          generalize (obj l s a).1 = o at hz ho hi ⊢
          by_cases h4 : o.cost > m
          · rw [if_pos h4] at hz; exact absurd hz (show ¬ (8 : Int) = 0 by decide)
          · rw [if_neg h4] at hz ⊢
            obtain ⟨hat, hd, hq, hel, hn, hco, hk, hw, hzz⟩ := ho
            by_cases k1 : o.kind = 1
            · rw [if_pos k1] at hz ⊢
              obtain ⟨d, ks, e1, e2, e3, e4, e5, _⟩ := strct_cst ih l (m - o.cost) hd.1 hz
              rw [e1, trim_mk1, cstN]
              show (if (1 : Int) = 0 then 0 else ownC (.mk 1 0 0 (d.take (8 * wordsT d)) ((ks.map trimN).take (ptrsT ks))) + sumL (((ks.map trimN).take (ptrsT ks)).map (cstN D))) ≤ _
              rw [if_neg (by decide), ownC_mk, if_neg (fun h => absurd h.1 (by decide))]
              have e6 : objSz (.mk 1 0 0 (d.take (8 * wordsT d)) ((ks.map trimN).take (ptrsT ks))) = (((d.take (8 * wordsT d)).length / 8 + ((ks.map trimN).take (ptrsT ks)).length : Nat) : Int) := rfl
              have e7 := sumL_take (c := cstN D) (ks.map trimN) (ptrsT ks) (fun x hx => by
                obtain ⟨y, hy, rfl⟩ := List.mem_map.1 hx
                exact cstN_nn D (vn_trim y (e5 y hy)))
              rw [e6, List.length_take, List.length_take, List.length_map]
              have := hi.1 k1
              omega
            · have k2 : o.kind = 2 := by omega
              rw [if_neg k1] at hz ⊢
              unfold denL at hz ⊢
              by_cases h6 : o.elem < 6
              · rw [if_pos h6]
                show cstN (D + 1) (trimN (.mk 2 o.elem o.n _ [])) ≤ m - (m - o.cost)
                rw [trimN, if_neg (by decide), cstN]
                show (if (2 : Int) = 0 then 0 else ownC (.mk 2 o.elem o.n _ []) + sumL ((tgt (.mk 2 o.elem o.n _ [])).map (cstN D))) ≤ _
                rw [if_neg (by decide), ownC_mk, if_neg (fun h => by omega), tgt_mk, if_neg (fun h => by omega)]
                have e6 : ∀ d, objSz (.mk 2 o.elem o.n d []) = wordsOf o.elem o.n := fun d => by
                  unfold objSz
                  show (if (2 : Int) = 0 then 0 else if (2 : Int) = 1 then _ else if o.elem = 7 then _ else wordsOf o.elem o.n) = _
                  rw [if_neg (by decide), if_neg (by decide), if_neg (by omega)]
                show objSz (.mk 2 o.elem o.n _ []) + 0 + 0 ≤ _
                rw [e6, ← (hw k2 h6).2]
                omega
              · rw [if_neg h6] at hz ⊢
                have hz' : (kidsF (fun m (i : Nat) => if o.elem = 6 then den l D m o.seg (o.at_ + i) else strct (den l D) l m (elt o i)) o.n.toNat 0 (m - o.cost) []).2.2 = 0 := hz
                rw [wrapK_ok0 hz']
                by_cases e6 : o.elem = 6
                · obtain ⟨ys, q1, q2, q3, q4⟩ := kids_cost (C := fun x => cstN D (trimN x)) (Q := VN) o.n.toNat 0 (m - o.cost) [] (fun m j _ _ h0 => by
                    rw [if_pos e6] at h0 ⊢
                    exact ih _ _ _ h0) hz'
                  generalize kidsF (fun m (i : Nat) => if o.elem = 6 then den l D m o.seg (o.at_ + i) else strct (den l D) l m (elt o i)) o.n.toNat 0 (m - o.cost) [] = K at q1 q3 ⊢
                  show cstN (D + 1) (trimN (.mk 2 o.elem o.n [] K.1)) ≤ m - K.2.1
                  rw [q1, List.nil_append, trimN, if_neg (by decide), trimNs_eq, cstN]
                  show (if (2 : Int) = 0 then 0 else ownC (.mk 2 o.elem o.n [] (ys.map trimN)) + sumL ((tgt (.mk 2 o.elem o.n [] (ys.map trimN))).map (cstN D))) ≤ _
                  rw [if_neg (by decide), ownC_mk, if_neg (fun h => by omega), tgt_mk, if_neg (fun h => by omega)]
                  have e7 : objSz (.mk 2 o.elem o.n [] (ys.map trimN)) = wordsOf o.elem o.n := by
                    unfold objSz
                    show (if (2 : Int) = 0 then 0 else if (2 : Int) = 1 then _ else if o.elem = 7 then _ else wordsOf o.elem o.n) = _
                    rw [if_neg (by decide), if_neg (by decide), if_neg (by omega)]
                  have := hi.2.1 k2 (by omega)
                  rw [e7, List.map_map]
                  have q3' : sumL (ys.map (cstN D ∘ trimN)) ≤ m - o.cost - K.2.1 := q3
                  omega
                · have e7 : o.elem = 7 := by omega
                  obtain ⟨ys, q1, q2, q3, q4⟩ := kids_cost (C := fun x => sumL ((trimN x).kids.map (cstN D))) (Q := fun x => (trimN x).data.length / 8 ≤ o.data.toNat ∧ (trimN x).kids.length ≤ o.ptrs.toNat) o.n.toNat 0 (m - o.cost) [] (fun m j _ _ h0 => by
                    rw [if_neg e6] at h0 ⊢
                    obtain ⟨d, ks, g1, g2, g3, g4, g5, _⟩ := strct_cst ih l m (o := elt o j) hd.1 h0
                    have g6 := sumL_take (c := cstN D) (ks.map trimN) (ptrsT ks) (fun x hx => by
                      obtain ⟨y, hy, rfl⟩ := List.mem_map.1 hx
                      exact cstN_nn D (vn_trim y (g5 y hy)))
                    rw [g1, trim_mk1]
                    refine ⟨?_, ?_, ?_⟩
                    · show sumL (((ks.map trimN).take (ptrsT ks)).map (cstN D)) ≤ _
                      omega
                    · show (d.take (8 * wordsT d)).length / 8 ≤ _
                      have g2' : d.length ≤ 8 * o.data.toNat := g2
                      rw [List.length_take]
                      omega
                    · show ((ks.map trimN).take (ptrsT ks)).length ≤ _
                      have g3' : ks.length = o.ptrs.toNat := g3
                      rw [List.length_take, List.length_map]
                      omega) hz'
                  generalize kidsF (fun m (i : Nat) => if o.elem = 6 then den l D m o.seg (o.at_ + i) else strct (den l D) l m (elt o i)) o.n.toNat 0 (m - o.cost) [] = K at q1 q3 ⊢
                  show cstN (D + 1) (trimN (.mk 2 o.elem o.n [] K.1)) ≤ m - K.2.1
                  rw [q1, List.nil_append, trimN, if_neg (by decide), trimNs_eq, cstN]
                  show (if (2 : Int) = 0 then 0 else ownC (.mk 2 o.elem o.n [] (ys.map trimN)) + sumL ((tgt (.mk 2 o.elem o.n [] (ys.map trimN))).map (cstN D))) ≤ _
                  rw [if_neg (by decide), ownC_mk, show tgt (.mk 2 o.elem o.n [] (ys.map trimN)) = (ys.map trimN).flatMap Nd.kids from if_pos ⟨rfl, e7⟩, sumL_flat, List.map_map]
                  have e8 : objSz (.mk 2 o.elem o.n [] (ys.map trimN)) = 1 + o.n * ((uniD (ys.map trimN) + uniP (ys.map trimN) : Nat) : Int) := by
                    unfold objSz
                    show (if (2 : Int) = 0 then 0 else if (2 : Int) = 1 then _ else if o.elem = 7 then 1 + o.n * ((uniD (ys.map trimN) + uniP (ys.map trimN) : Nat) : Int) else _) = _
                    rw [if_neg (by decide), if_neg (by decide), if_pos e7]
                  have u1 : uniD (ys.map trimN) ≤ o.data.toNat := uniD_le fun x hx => by
                    obtain ⟨y, hy, rfl⟩ := List.mem_map.1 hx
                    exact (q4 y hy).1
                  have u2 : uniP (ys.map trimN) ≤ o.ptrs.toNat := uniP_le fun x hx => by
                    obtain ⟨y, hy, rfl⟩ := List.mem_map.1 hx
                    exact (q4 y hy).2
                  have hc7 := hi.2.2 k2 e7
                  have hmul : o.n * ((uniD (ys.map trimN) + uniP (ys.map trimN) : Nat) : Int) ≤ o.n * (o.data + o.ptrs) := Int.mul_le_mul_of_nonneg_left (by omega) hn.1
                  rw [e8]
                  have q3' : sumL (ys.map ((fun k => sumL (k.kids.map (cstN D))) ∘ trimN)) ≤ m - o.cost - K.2.1 := q3
                  split
                  · rename_i hu
                    rw [hu.2.2]
                    have : o.n ≤ o.n * (o.data + o.ptrs) ∨ o.data + o.ptrs = 0 := by
                      by_cases hz0 : o.data + o.ptrs = 0
                      · exact .inr hz0
                      · left
                        have := Int.mul_le_mul_of_nonneg_left (show (1 : Int) ≤ o.data + o.ptrs by omega) hn.1
                        omega
                    rcases this with h | h
                    · simp only [Int.natCast_zero, Int.mul_zero]
                      have := hc7.1
                      omega
                    · have := hc7.2 h
                      simp only [Int.natCast_zero, Int.mul_zero]
                      omega
                  · have := hc7.1
                    omega
        · rw [if_neg h3] at hz; exact absurd hz h3
    · rw [if_neg h1] at hz; exact absurd hz h1
end Go.Proofs.YtfljialckkgacaaGreatDoor.E
set_option linter.unusedVariables false
set_option linter.unusedSimpArgs false
namespace Go.Proofs.YtfljialckkgacaaGreatDoor.E
/-! The program's sizes of canonical forms. -/
def vh (s : Int) : Heap := [[.pv (I s)], [.clo (.func 88) [] [.ptr 0 0, .ptr 1 0]]]
theorem vsame : sameClo (.func 88) [] [.ptr 0 0, .ptr 1 0] (.clo (.func 88) [] [.ptr 0 0, .ptr 1 0]) = true := rfl
theorem hlen2 (a b : List AV) : decide ([a, b].length = 2) = true := rfl
def Vis (D : Nat) (t : Nd) : Prop := ∀ s : Int, 0 ≤ s → s + nodSz D t ≤ 4611686018427387904 → ev 88 [.pv t.x, .ptr 0 0, .ptr 1 0] (vh s) = some (.ret (.pv (.tup [])), vh (s + nodSz D t))
theorem nodSz_nn : ∀ (D : Nat) {x : Nd}, VN x → 0 ≤ nodSz D x
  | 0, x, hv => objSz_nn hv
  | D + 1, x, hv => by
    rw [nodSz]
    have := objSz_nn hv
    have := sumL_nn (l := (tgt x).map (nodSz D)) fun y hy => by
      obtain ⟨t, ht, rfl⟩ := List.mem_map.1 hy
      exact nodSz_nn D (vn_tgt hv t ht)
    omega
theorem drop_sum {f : Nd → Int} {l : List Nd} {i : Nat} (h : i < l.length) : sumL ((l.drop i).map f) = f l[i] + sumL ((l.drop (i + 1)).map f) := by
  rw [List.drop_eq_getElem_cons h, List.map_cons, sumL_cons]
theorem visit_in {D : Nat} {q : List Nd} (hq : q.length ≤ 1073741824) (hv : ∀ t ∈ q, Vis D t) (hn : ∀ t ∈ q, VN t) (ks : List PV) (i1 i2 i7 i8 i9 : Int) (xs10 xs11 : List PV) (c0 c1 c2 c3 c4 : PV) : ∀ (c j : Nat) (s : Int), j + c = q.length → 0 ≤ s → s + sumL ((q.drop j).map (nodSz D)) ≤ 4611686018427387904 →
    canonsize_Node_1_L2 ks i1 i2 (.sl 5 (pvs q)) q.length j (I s) i7 i8 i9 xs10 xs11 c0 c1 c2 c3 c4 = canonsize_Node_1_L0 ks i1 (IntKind.wrap .i64 (i2 + 1)) (I (s + sumL ((q.drop j).map (nodSz D)))) i7 i8 i9 xs10 xs11 := by
  intro c
  induction c with
  | zero =>
    intro j s hj h0 hs
    rw [canonsize_Node_1_L2_eq, decide_eq_false (by omega), List.drop_eq_nil_of_le (by omega)]
    simp [sumL_nil]
  | succ c ih =>
    intro j s hj h0 hs
    have hjl : j < q.length := by omega
    have hV := hv _ (List.getElem_mem hjl) s h0
    have hp := nodSz_nn D (hn _ (List.getElem_mem hjl))
    have hr : 0 ≤ sumL ((q.drop (j + 1)).map (nodSz D)) := sumL_nn fun y hy => by
      obtain ⟨t, ht, rfl⟩ := List.mem_map.1 hy
      exact nodSz_nn D (hn t (List.mem_of_mem_drop ht))
    rw [drop_sum hjl] at hs ⊢
    have hV' := hV (by omega)
    unfold vh at hV'
    dsimp only [Nd.x] at hV'
    rw [canonsize_Node_1_L2_eq, decide_eq_true (show (j : Int) < (q.length : Int) by omega)]
    dsimp only [callT_ret, callT_pan, onlyPV_v, Option.bind_some, pBool_v, pTup_v, pAgg_v, aggOf_v, pSl_v, pInt_v, pI64, pU64, pU32, pU8, List.getElem?_cons_zero, List.getElem?_cons_succ, cells_v, cells_sl, cells_agg, isCell_v, isCell_sl, cnd_t, cnd_f, tt_and, ff_and, nt_t, nt_f, len1, len3, len5, len8, len10, hlen1, clen1, clen5]
    rw [decide_eq_true (show (5 : Nat) = 5 from rfl), decide_eq_true (show 0 ≤ (j : Int) by omega), decide_eq_true (show (j : Int) < ((pvs q).length : Int) by simp; omega)]
    dsimp only [callT_ret, callT_pan, onlyPV_v, Option.bind_some, pBool_v, pTup_v, pAgg_v, aggOf_v, pSl_v, pInt_v, pI64, pU64, pU32, pU8, List.getElem?_cons_zero, List.getElem?_cons_succ, cells_v, cells_sl, cells_agg, isCell_v, isCell_sl, cnd_t, cnd_f, tt_and, ff_and, nt_t, nt_f, len1, len3, len5, len8, len10, hlen1, clen1, clen5]
    rw [Int.toNat_natCast, pvs_get hjl]
    dsimp only [callT_ret, callT_pan, onlyPV_v, Option.bind_some, pBool_v, pTup_v, pAgg_v, aggOf_v, pSl_v, pInt_v, pI64, pU64, pU32, pU8, List.getElem?_cons_zero, List.getElem?_cons_succ, cells_v, cells_sl, cells_agg, isCell_v, isCell_sl, cnd_t, cnd_f, tt_and, ff_and, nt_t, nt_f, len1, len3, len5, len8, len10, hlen1, clen1, clen5]
    rw [nd_five, nd_cells, show (q[j].c.drop 0).take 5 = q[j].c from rfl]
    dsimp only [Nd.c, callT_ret, callT_pan, onlyPV_v, Option.bind_some, pBool_v, pTup_v, pAgg_v, aggOf_v, pSl_v, pInt_v, pI64, pU64, pU32, pU8, List.getElem?_cons_zero, List.getElem?_cons_succ, cells_v, cells_sl, cells_agg, isCell_v, isCell_sl, cnd_t, cnd_f, tt_and, ff_and, nt_t, nt_f, len1, len3, len5, len8, len10, hlen1, clen1, clen5]
    rw [hV']
    dsimp only [callT_ret, callT_pan, onlyPV_v, Option.bind_some, pBool_v, pTup_v, pAgg_v, aggOf_v, pSl_v, pInt_v, pI64, pU64, pU32, pU8, List.getElem?_cons_zero, List.getElem?_cons_succ, cells_v, cells_sl, cells_agg, isCell_v, isCell_sl, cnd_t, cnd_f, tt_and, ff_and, nt_t, nt_f, len1, len3, len5, len8, len10, hlen1, clen1, clen5]
    rw [vsame, hlen2, w64 (x := (j : Int) + 1) (by omega)]
    dsimp only [callT_ret, callT_pan, onlyPV_v, Option.bind_some, pBool_v, pTup_v, pAgg_v, aggOf_v, pSl_v, pInt_v, pI64, pU64, pU32, pU8, List.getElem?_cons_zero, List.getElem?_cons_succ, cells_v, cells_sl, cells_agg, isCell_v, isCell_sl, cnd_t, cnd_f, tt_and, ff_and, nt_t, nt_f, len1, len3, len5, len8, len10, hlen1, clen1, clen5]
    have := ih (j + 1) (s + nodSz D q[j]) (by omega) (by omega) (by omega)
    rw [show s + (nodSz D q[j] + sumL ((q.drop (j + 1)).map (nodSz D))) = s + nodSz D q[j] + sumL ((q.drop (j + 1)).map (nodSz D)) by omega]
    exact this
theorem visit_plain {D : Nat} {ks : List Nd} (hq : ks.length ≤ 1073741824) (hv : ∀ t ∈ ks, Vis D t) (hn : ∀ t ∈ ks, VN t) (i4 i5 i6 : Int) (h7 : i5 ≠ 7) (xs7 xs8 : List PV) : ∀ (c j : Nat) (s : Int), j + c = ks.length → 0 ≤ s → s + sumL ((ks.drop j).map (nodSz D)) ≤ 4611686018427387904 →
    canonsize_Node_1_L0 (pvs ks) ks.length j (I s) i4 i5 i6 xs7 xs8 = some (.ret (.pv (.tup [])), vh (s + sumL ((ks.drop j).map (nodSz D)))) := by
  intro c
  induction c with
  | zero =>
    intro j s hj h0 hs
    rw [canonsize_Node_1_L0_eq, decide_eq_false (by omega), List.drop_eq_nil_of_le (by omega)]
    simp [sumL_nil, vh]
  | succ c ih =>
    intro j s hj h0 hs
    have hjl : j < ks.length := by omega
    have hV := hv _ (List.getElem_mem hjl) s h0
    have hp := nodSz_nn D (hn _ (List.getElem_mem hjl))
    have hr : 0 ≤ sumL ((ks.drop (j + 1)).map (nodSz D)) := sumL_nn fun y hy => by
      obtain ⟨t, ht, rfl⟩ := List.mem_map.1 hy
      exact nodSz_nn D (hn t (List.mem_of_mem_drop ht))
    rw [drop_sum hjl] at hs ⊢
    have hV' := hV (by omega)
    unfold vh at hV'
    dsimp only [Nd.x] at hV'
    rw [canonsize_Node_1_L0_eq, decide_eq_true (show (j : Int) < (ks.length : Int) by omega), decide_eq_true (show 0 ≤ (j : Int) by omega), decide_eq_true (show (j : Int) < ((pvs ks).length : Int) by simp; omega)]
    dsimp only [callT_ret, callT_pan, onlyPV_v, Option.bind_some, pBool_v, pTup_v, pAgg_v, aggOf_v, pSl_v, pInt_v, pI64, pU64, pU32, pU8, List.getElem?_cons_zero, List.getElem?_cons_succ, cells_v, cells_sl, cells_agg, isCell_v, isCell_sl, cnd_t, cnd_f, tt_and, ff_and, nt_t, nt_f, len1, len3, len5, len8, len10, hlen1, clen1, clen5]
    rw [Int.toNat_natCast, pvs_get hjl]
    dsimp only [callT_ret, callT_pan, onlyPV_v, Option.bind_some, pBool_v, pTup_v, pAgg_v, aggOf_v, pSl_v, pInt_v, pI64, pU64, pU32, pU8, List.getElem?_cons_zero, List.getElem?_cons_succ, cells_v, cells_sl, cells_agg, isCell_v, isCell_sl, cnd_t, cnd_f, tt_and, ff_and, nt_t, nt_f, len1, len3, len5, len8, len10, hlen1, clen1, clen5]
    rw [nd_five, nd_cells, show (ks[j].c.drop 0).take 5 = ks[j].c from rfl, show (i5 != 7) = true from by simpa using h7]
    dsimp only [Nd.c, callT_ret, callT_pan, onlyPV_v, Option.bind_some, pBool_v, pTup_v, pAgg_v, aggOf_v, pSl_v, pInt_v, pI64, pU64, pU32, pU8, List.getElem?_cons_zero, List.getElem?_cons_succ, cells_v, cells_sl, cells_agg, isCell_v, isCell_sl, cnd_t, cnd_f, tt_and, ff_and, nt_t, nt_f, len1, len3, len5, len8, len10, hlen1, clen1, clen5]
    rw [hV']
    dsimp only [callT_ret, callT_pan, onlyPV_v, Option.bind_some, pBool_v, pTup_v, pAgg_v, aggOf_v, pSl_v, pInt_v, pI64, pU64, pU32, pU8, List.getElem?_cons_zero, List.getElem?_cons_succ, cells_v, cells_sl, cells_agg, isCell_v, isCell_sl, cnd_t, cnd_f, tt_and, ff_and, nt_t, nt_f, len1, len3, len5, len8, len10, hlen1, clen1, clen5]
    rw [vsame, hlen2, w64 (x := (j : Int) + 1) (by omega)]
    dsimp only [callT_ret, callT_pan, onlyPV_v, Option.bind_some, pBool_v, pTup_v, pAgg_v, aggOf_v, pSl_v, pInt_v, pI64, pU64, pU32, pU8, List.getElem?_cons_zero, List.getElem?_cons_succ, cells_v, cells_sl, cells_agg, isCell_v, isCell_sl, cnd_t, cnd_f, tt_and, ff_and, nt_t, nt_f, len1, len3, len5, len8, len10, hlen1, clen1, clen5]
    have := ih (j + 1) (s + nodSz D ks[j]) (by omega) (by omega) (by omega)
    rw [show s + (nodSz D ks[j] + sumL ((ks.drop (j + 1)).map (nodSz D))) = s + nodSz D ks[j] + sumL ((ks.drop (j + 1)).map (nodSz D)) by omega]
    exact this
theorem visit_comp {D : Nat} {ks : List Nd} (hq : ks.length ≤ 1073741824) (hk : ∀ k ∈ ks, k.kids.length ≤ 1073741824) (hv : ∀ k ∈ ks, ∀ t ∈ k.kids, Vis D t) (hn : ∀ k ∈ ks, ∀ t ∈ k.kids, VN t) (i4 i6 : Int) (xs7 xs8 : List PV) : ∀ (c j : Nat) (s : Int), j + c = ks.length → 0 ≤ s → s + sumL ((ks.drop j).map fun k => sumL (k.kids.map (nodSz D))) ≤ 4611686018427387904 →
    canonsize_Node_1_L0 (pvs ks) ks.length j (I s) i4 7 i6 xs7 xs8 = some (.ret (.pv (.tup [])), vh (s + sumL ((ks.drop j).map fun k => sumL (k.kids.map (nodSz D))))) := by
  intro c
  induction c with
  | zero =>
    intro j s hj h0 hs
    rw [canonsize_Node_1_L0_eq, decide_eq_false (by omega), List.drop_eq_nil_of_le (by omega)]
    simp [sumL_nil, vh]
  | succ c ih =>
    intro j s hj h0 hs
    have hjl : j < ks.length := by omega
    have hmem := List.getElem_mem hjl
    have nn : ∀ k ∈ ks, 0 ≤ sumL (k.kids.map (nodSz D)) := fun k hk => sumL_nn fun y hy => by
      obtain ⟨t, ht, rfl⟩ := List.mem_map.1 hy
      exact nodSz_nn D (hn k hk t ht)
    have hp := nn _ hmem
    have hr : 0 ≤ sumL ((ks.drop (j + 1)).map fun k => sumL (k.kids.map (nodSz D))) := sumL_nn fun y hy => by
      obtain ⟨t, ht, rfl⟩ := List.mem_map.1 hy
      exact nn t (List.mem_of_mem_drop ht)
    rw [drop_sum hjl] at hs ⊢
    have hin := visit_in (hk _ hmem) (hv _ hmem) (hn _ hmem) (pvs ks) ks.length j i4 7 i6 xs7 xs8 (I ks[j].kind) (I ks[j].elem) (I ks[j].n) (.sl 1 (bs ks[j].data)) (.sl 5 (pvs ks[j].kids)) ks[j].kids.length 0 s (by omega) h0 (by rw [List.drop_zero]; omega)
    rw [List.drop_zero, w64 (x := (j : Int) + 1) (by omega)] at hin
    rw [canonsize_Node_1_L0_eq, decide_eq_true (show (j : Int) < (ks.length : Int) by omega), decide_eq_true (show 0 ≤ (j : Int) by omega), decide_eq_true (show (j : Int) < ((pvs ks).length : Int) by simp; omega)]
    dsimp only [callT_ret, callT_pan, onlyPV_v, Option.bind_some, pBool_v, pTup_v, pAgg_v, aggOf_v, pSl_v, pInt_v, pI64, pU64, pU32, pU8, List.getElem?_cons_zero, List.getElem?_cons_succ, cells_v, cells_sl, cells_agg, isCell_v, isCell_sl, cnd_t, cnd_f, tt_and, ff_and, nt_t, nt_f, len1, len3, len5, len8, len10, hlen1, clen1, clen5]
    rw [Int.toNat_natCast, pvs_get hjl]
    dsimp only [callT_ret, callT_pan, onlyPV_v, Option.bind_some, pBool_v, pTup_v, pAgg_v, aggOf_v, pSl_v, pInt_v, pI64, pU64, pU32, pU8, List.getElem?_cons_zero, List.getElem?_cons_succ, cells_v, cells_sl, cells_agg, isCell_v, isCell_sl, cnd_t, cnd_f, tt_and, ff_and, nt_t, nt_f, len1, len3, len5, len8, len10, hlen1, clen1, clen5]
    rw [nd_five, nd_cells, show (ks[j].c.drop 0).take 5 = ks[j].c from rfl, show ((7 : Int) != 7) = false from rfl]
    dsimp only [Nd.c, callT_ret, callT_pan, onlyPV_v, Option.bind_some, pBool_v, pTup_v, pAgg_v, aggOf_v, pSl_v, pInt_v, pI64, pU64, pU32, pU8, List.getElem?_cons_zero, List.getElem?_cons_succ, cells_v, cells_sl, cells_agg, isCell_v, isCell_sl, cnd_t, cnd_f, tt_and, ff_and, nt_t, nt_f, len1, len3, len5, len8, len10, hlen1, clen1, clen5]
    rw [pvs_len]
    refine hin.trans ?_
    have := ih (j + 1) (s + sumL (ks[j].kids.map (nodSz D))) (by omega) (by omega) (by omega)
    rw [show s + (sumL (ks[j].kids.map (nodSz D)) + sumL ((ks.drop (j + 1)).map fun k => sumL (k.kids.map (nodSz D)))) = s + sumL (ks[j].kids.map (nodSz D)) + sumL ((ks.drop (j + 1)).map fun k => sumL (k.kids.map (nodSz D))) by omega]
    exact this
theorem uni_small {x : Nd} (hg : good x) (hv : VN x) : uniD x.kids + uniP x.kids ≤ 4611686018427387904 := by
  obtain ⟨hd, hk, hks⟩ := good_len hg
  have := uniD_le (l := x.kids) (b := 17592186044416) fun y hy => by
    have := (good_len (hks y hy)).1
    omega
  have := uniP_le (l := x.kids) (b := 1073741824) fun y hy => (good_len (hks y hy)).2.1
  omega
theorem visit_ok : ∀ (D : Nat) (x : Nd), good x → VN x → Dp D x → Vis D x
  | D, x, hg, hv, hd => by
    intro s h0 hs
    have ho := objSz_nn hv
    obtain ⟨hgd, hgk, hgs⟩ := good_len hg
    have hob : objSz x ≤ nodSz D x := by
      cases D with
      | zero => exact Int.le_refl _
      | succ D =>
        rw [nodSz]
        have := sumL_nn (l := (tgt x).map (nodSz D)) fun y hy => by
          obtain ⟨t, ht, rfl⟩ := List.mem_map.1 hy
          exact nodSz_nn D (vn_tgt hv t ht)
        omega
    have hO := V_Object13 hg hv (by omega) (uni_small hg hv)
    dsimp only [Nd.x] at hO
    unfold vh
    rw [Nd.x, canonsize_Node_1_eq, hO, pvs_len]
    dsimp only [callT_ret, callT_pan, onlyPV_v, Option.bind_some, pBool_v, pTup_v, pAgg_v, aggOf_v, pSl_v, pInt_v, pI64, pU64, pU32, pU8, List.getElem?_cons_zero, List.getElem?_cons_succ, cells_v, cells_sl, cells_agg, isCell_v, isCell_sl, cnd_t, cnd_f, tt_and, ff_and, nt_t, nt_f, len1, len3, len5, len8, len10, hlen1, clen1, clen5]
    rw [w64 (x := s + objSz x) (by omega)]
    by_cases k0 : x.kind = 0
    · have := vn_null hv k0
      subst this
      have := visit_plain (D := D) (ks := []) (by simp) (fun t h => by cases h) (fun t h => by cases h) 0 0 0 (by decide) (bs []) (pvs []) 0 0 (s + objSz nd0) rfl (by omega) (by simp [sumL_nil]; omega)
      refine this.trans ?_
      rw [nodSz_null hv k0, objSz_null k0]
      simp [sumL_nil, vh]
    · cases D with
      | zero => exact absurd hd k0
      | succ D =>
        have hd' := (hd.resolve_left k0).2
        have hT : ∀ t ∈ tgt x, Vis D t := fun t ht => visit_ok D t (good_tgt hg t ht) (vn_tgt hv t ht) (hd' t ht)
        rw [nodSz] at hs ⊢
        by_cases h7 : x.kind = 2 ∧ x.elem = 7
        · have et : tgt x = x.kids.flatMap Nd.kids := if_pos h7
          rw [et, sumL_flat] at hs ⊢
          rw [et] at hT
          have := visit_comp (D := D) hgk (fun k hk => (good_len (hgs k hk)).2.1) (fun k hk t ht => hT t (List.mem_flatMap.2 ⟨k, hk, ht⟩)) (fun k hk t ht => vn_tgt hv t (by rw [et]; exact List.mem_flatMap.2 ⟨k, hk, ht⟩)) x.kind x.n (bs x.data) (pvs x.kids) x.kids.length 0 (s + objSz x) (by omega) (by omega) (by rw [List.drop_zero]; omega)
          rw [List.drop_zero] at this
          rw [h7.2]
          refine this.trans ?_
          unfold vh
          rw [show s + (objSz x + sumL (x.kids.map fun k => sumL (k.kids.map (nodSz D)))) = s + objSz x + sumL (x.kids.map fun k => sumL (k.kids.map (nodSz D))) by omega]
        · have et : tgt x = x.kids := if_neg h7
          have he7 : x.elem ≠ 7 := fun h => by
            obtain ⟨hs', _⟩ := vn_shp hv
            rcases hs' with h' | h' | h' <;> omega
          rw [et] at hs hT ⊢
          have := visit_plain (D := D) hgk hT (fun t ht => vn_tgt hv t (by rw [et]; exact ht)) x.kind x.elem x.n he7 (bs x.data) (pvs x.kids) x.kids.length 0 (s + objSz x) (by omega) (by omega) (by rw [List.drop_zero]; omega)
          rw [List.drop_zero] at this
          refine this.trans ?_
          unfold vh
          rw [show s + (objSz x + sumL (x.kids.map (nodSz D))) = s + objSz x + sumL (x.kids.map (nodSz D)) by omega]
theorem V_Node13 {D : Nat} {x : Nd} (hg : good x) (hv : VN x) (hd : Dp D x) (hb : nodSz D x ≤ 4611686018427387904) : ev 67 [.pv x.x] [] = ok (I (nodSz D x)) := by
  have h := visit_ok D x hg hv hd 0 (Int.le_refl _) (by omega)
  unfold vh at h
  dsimp only [Nd.x] at h
  rw [Nd.x, canonsize_Node_eq, h]
  dsimp only [callT_ret, callT_pan, onlyPV_v, Option.bind_some, pBool_v, pTup_v, pAgg_v, aggOf_v, pSl_v, pInt_v, pI64, pU64, pU32, pU8, List.getElem?_cons_zero, List.getElem?_cons_succ, cells_v, cells_sl, cells_agg, isCell_v, isCell_sl, cnd_t, cnd_f, tt_and, ff_and, nt_t, nt_f, len1, len3, len5, len8, len10, hlen1, clen1, clen5]
  rw [vsame, hlen2, Int.zero_add]
  rfl
theorem V_Total13 {D : Nat} {x : Nd} (hg : good x) (hv : VN x) (hd : Dp D x) (hb : nodSz D x ≤ 4611686018427387904) : ev 48 [.pv x.x] [] = ok (I (nodSz D x + 1)) := by
  have h := V_Node13 hg hv hd hb
  have hn := nodSz_nn D hv
  dsimp only [Nd.x] at h
  rw [Nd.x, canonsize_Total_eq, h]
  dsimp only [callT_ret, callT_pan, onlyPV_v, Option.bind_some, pBool_v, pTup_v, pAgg_v, aggOf_v, pSl_v, pInt_v, pI64, pU64, pU32, pU8, List.getElem?_cons_zero, List.getElem?_cons_succ, cells_v, cells_sl, cells_agg, isCell_v, isCell_sl, cnd_t, cnd_f, tt_and, ff_and, nt_t, nt_f, len1, len3, len5, len8, len10, hlen1, clen1, clen5]
  rw [w64 (by omega)]
end Go.Proofs.YtfljialckkgacaaGreatDoor.E
set_option linter.unusedVariables false
set_option linter.unusedSimpArgs false
namespace Go.Proofs.YtfljialckkgacaaGreatDoor.E
/-! Bytes as words: the program and the reference. -/
theorem getD_drop (b : List Int) (n k : Nat) : (b.drop n).getD k 0 = b.getD (n + k) 0 := by
  rw [List.getD_eq_getElem?_getD, List.getD_eq_getElem?_getD, List.getElem?_drop]
theorem bs_getD {b : List Int} {i : Nat} (h : i < b.length) : (bs b)[i]? = some (U8 (b.getD i 0)) := by
  rw [bs_get h, List.getD_eq_getElem?_getD, List.getElem?_eq_getElem h]
  rfl
def accU (f : Nat → Nat) : Nat → Nat
  | 0 => 0
  | k + 1 => accU f k + f k * 2 ^ (8 * k)
theorem accU_lt {f : Nat → Nat} (hf : ∀ k, f k < 256) : ∀ k, accU f k < 2 ^ (8 * k)
  | 0 => by show 0 < 1; decide
  | k + 1 => by
    have := accU_lt hf k
    have h1 := hf k
    have : f k * 2 ^ (8 * k) ≤ 255 * 2 ^ (8 * k) := Nat.mul_le_mul_right _ (by omega)
    rw [accU, show 8 * (k + 1) = 8 * k + 8 by omega, Nat.pow_add]
    omega
theorem or_step {a x i : Nat} (ha : a < 2 ^ i) (hx : x < 256) (hi : i + 8 ≤ 64) : IntKind.wrap .u64 (BitVec.ofInt 64 (a : Int) ||| BitVec.ofInt 64 (IntKind.wrap .u64 (IntKind.wrap .u64 (x : Int) * 2 ^ (min (i : Int).toNat 64)))).toNat = ((a + x * 2 ^ i : Nat) : Int) := by
  have hk : 2 ^ i * 2 ^ 8 ≤ 2 ^ 64 := by rw [← Nat.pow_add]; exact Nat.pow_le_pow_right (by decide) hi
  have hi0 : 0 < 2 ^ i := Nat.pow_pos (by decide)
  have hx2 : x * 2 ^ i ≤ 255 * 2 ^ i := Nat.mul_le_mul_right _ (by omega)
  have e : IntKind.wrap .u64 (IntKind.wrap .u64 (x : Int) * 2 ^ (min (i : Int).toNat 64)) = ((x * 2 ^ i : Nat) : Int) := by
    rw [wu_nat (by omega), Int.toNat_natCast, Nat.min_eq_left (by omega), show (2 : Int) ^ i = ((2 ^ i : Nat) : Int) by push_cast; rfl, ← Int.natCast_mul]
    exact wu_nat (by omega)
  rw [e]
  have e3 : (BitVec.ofInt 64 (a : Int) ||| BitVec.ofInt 64 ((x * 2 ^ i : Nat) : Int)).toNat = a + x * 2 ^ i := by
    rw [BitVec.toNat_or, ofInt_toNat (by omega), ofInt_toNat (by omega), Nat.or_comm, Nat.mul_comm, ← Nat.two_pow_add_eq_or_of_lt ha]
    omega
  rw [e3, wu_nat (by omega)]
def byteN (b : List Int) (i : Nat) : Nat := (b.getD i 0).toNat
theorem byteN_eq {b : List Int} (hb : ∀ x ∈ b, Byte x) (i : Nat) : ((byteN b i : Nat) : Int) = b.getD i 0 ∧ byteN b i < 256 := by
  have := getD_byte hb i
  unfold byteN
  omega
theorem accU_8 (f : Nat → Nat) : accU f 8 = 0 + f 0 * 1 + f 1 * 256 + f 2 * 65536 + f 3 * 16777216 + f 4 * 4294967296 + f 5 * 1099511627776 + f 6 * 281474976710656 + f 7 * 72057594037927936 := rfl
theorem accU_w8i {b : List Int} (hb : ∀ x ∈ b, Byte x) (n : Nat) : ((accU (fun k => byteN b (n + k)) 8 : Nat) : Int) = w8i (b.drop n) := by
  unfold w8i
  simp only [getD_drop]
  rw [← (byteN_eq hb (n + 0)).1, ← (byteN_eq hb (n + 1)).1, ← (byteN_eq hb (n + 2)).1, ← (byteN_eq hb (n + 3)).1, ← (byteN_eq hb (n + 4)).1, ← (byteN_eq hb (n + 5)).1, ← (byteN_eq hb (n + 6)).1, ← (byteN_eq hb (n + 7)).1]
  rw [accU_8]
  omega
theorem get_loop {b : List Int} (hb : ∀ x ∈ b, Byte x) {i : Nat} (hi : 8 * i + 8 ≤ b.length) (hl : b.length ≤ 17592186044416) : ∀ (c k : Nat), k + c = 8 → word_Get_L0 (bs b) i ((accU (fun k => byteN b (8 * i + k)) k : Nat) : Int) k = ok (.tup [U (w8i (b.drop (8 * i))), Bo true]) := by
  intro c
  induction c with
  | zero =>
    intro k hk
    have : k = 8 := by omega
    subst this
    rw [word_Get_L0_eq, decide_eq_false (by decide), accU_w8i hb]
    rfl
  | succ c ih =>
    intro k hk
    have hx := byteN_eq hb (8 * i + k)
    rw [word_Get_L0_eq, decide_eq_true (show (k : Int) < 8 by omega), w64 (x := 8 * (i : Int)) (by omega), w64 (x := 8 * (i : Int) + k) (by omega), decide_eq_true (show 0 ≤ 8 * (i : Int) + k by omega), decide_eq_true (show 8 * (i : Int) + k < ((bs b).length : Int) by simp; omega)]
    dsimp only [callT_ret, callT_pan, onlyPV_v, Option.bind_some, pBool_v, pTup_v, pAgg_v, aggOf_v, pSl_v, pInt_v, pI64, pU64, pU32, pU8, List.getElem?_cons_zero, List.getElem?_cons_succ, cells_v, cells_sl, cells_agg, isCell_v, isCell_sl, cnd_t, cnd_f, tt_and, ff_and, nt_t, nt_f, len1, len3, len5, len8, len10, hlen1, clen1, clen5]
    rw [show (8 * (i : Int) + k).toNat = 8 * i + k by omega, bs_getD (by omega), ← hx.1]
    dsimp only [callT_ret, callT_pan, onlyPV_v, Option.bind_some, pBool_v, pTup_v, pAgg_v, aggOf_v, pSl_v, pInt_v, pI64, pU64, pU32, pU8, List.getElem?_cons_zero, List.getElem?_cons_succ, cells_v, cells_sl, cells_agg, isCell_v, isCell_sl, cnd_t, cnd_f, tt_and, ff_and, nt_t, nt_f, len1, len3, len5, len8, len10, hlen1, clen1, clen5]
    rw [w64 (x := 8 * (k : Int)) (by omega), show (8 * (k : Int)) = ((8 * k : Nat) : Int) by push_cast; rfl, wu_nat (by omega), or_step (accU_lt (fun j => (byteN_eq hb (8 * i + j)).2) k) hx.2 (by omega), w64 (x := (k : Int) + 1) (by omega), show okBin .shl ((8 * k : Nat) : Int) = true from by unfold okBin; exact decide_eq_true (by omega)]
    exact ih (k + 1) (by omega)
theorem V_Get {b : List Int} (hb : ∀ x ∈ b, Byte x) {i : Nat} (hi : 8 * i + 8 ≤ b.length) (hl : b.length ≤ 17592186044416) : ev 135 [.pv (.sl 1 (bs b)), .pv (I (i : Int))] [] = ok (.tup [U (w8i (b.drop (8 * i))), Bo true]) := by
  rw [word_Get_eq, bs_len, Int.tdiv_eq_ediv_of_nonneg (by omega), w64 (x := (b.length : Int) / 8) (by omega), decide_eq_false (show ¬ (i : Int) < 0 by omega), decide_eq_false (show ¬ (i : Int) ≥ (b.length : Int) / 8 by omega)]
  exact get_loop hb hi hl 8 0 rfl
theorem wrdN_get : ∀ (n i : Nat) (b : List Int), i < n → (wrdN n b)[i]? = some (w8i (b.drop (8 * i)))
  | 0, i, b, h => by omega
  | n + 1, 0, b, h => by simp [wrdN]
  | n + 1, i + 1, b, h => by
    rw [wrdN, List.getElem?_cons_succ, wrdN_get n i (b.drop 8) (by omega), List.drop_drop]
    congr 3
    omega
theorem wrdN_snoc {n i : Nat} (b : List Int) (h : i < n) : (wrdN n b).take (i + 1) = (wrdN n b).take i ++ [w8i (b.drop (8 * i))] := by
  have hl : i < (wrdN n b).length := by rw [wrdN_len]; exact h
  rw [List.take_succ_eq_append_getElem hl]
  have := wrdN_get n i b h
  rw [List.getElem?_eq_getElem hl] at this
  rw [Option.some.inj this]
theorem w8i_pad (b : List Int) (z : Nat) : w8i (b ++ List.replicate z 0) = w8i b := by
  have h : ∀ k, (b ++ List.replicate z 0).getD k 0 = b.getD k 0 := fun k => by
    rw [List.getD_eq_getElem?_getD, List.getD_eq_getElem?_getD]
    by_cases h1 : k < b.length
    · rw [List.getElem?_append_left h1]
    · rw [List.getElem?_append_right (by omega), List.getElem?_replicate, List.getElem?_eq_none (by omega)]
      split <;> rfl
  unfold w8i
  simp only [h]
theorem wrdN_pad : ∀ (n : Nat) (b : List Int) (z : Nat), wrdN n (b ++ List.replicate z 0) = wrdN n b
  | 0, b, z => rfl
  | n + 1, b, z => by
    rw [wrdN, wrdN, w8i_pad, List.drop_append, List.drop_replicate, wrdN_pad n]
theorem words_loop {b : List Int} (hb : ∀ x ∈ b, Byte x) (hl : b.length ≤ 1099511627776) {n : Nat} (hn : 8 * n = b.length) : ∀ (c i : Nat), i + c = n → word_Words_L0 (bs b) (ws ((wrdN n b).take i)) n i = ok (.tup [.sl 1 (ws (wrdN n b)), Bo true]) := by
  intro c
  induction c with
  | zero =>
    intro i hi
    rw [word_Words_L0_eq, decide_eq_false (by omega), List.take_of_length_le (by rw [wrdN_len]; omega)]
    rfl
  | succ c ih =>
    intro i hi
    rw [word_Words_L0_eq, decide_eq_true (show (i : Int) < (n : Int) by omega), V_Get hb (by omega) (by omega)]
    dsimp only [callT_ret, callT_pan, onlyPV_v, Option.bind_some, pBool_v, pTup_v, pAgg_v, aggOf_v, pSl_v, pInt_v, pI64, pU64, pU32, pU8, List.getElem?_cons_zero, List.getElem?_cons_succ, cells_v, cells_sl, cells_agg, isCell_v, isCell_sl, cnd_t, cnd_f, tt_and, ff_and, nt_t, nt_f, len1, len3, len5, len8, len10, hlen1, clen1, clen5]
    rw [roomy_ok (by rw [ws_len, List.length_take]; omega) (by rw [ws_len, List.length_take]; omega), w64 (x := (i : Int) + 1) (by omega), ws_snoc, ← wrdN_snoc b (by omega)]
    exact ih (i + 1) (by omega)
theorem V_Words8 {b : List Int} (hb : ∀ x ∈ b, Byte x) (hl : b.length ≤ 1099511627776) {n : Nat} (hn : 8 * n = b.length) : ev 117 [.pv (.sl 1 (bs b))] [] = ok (.tup [.sl 1 (ws (wrdN n b)), Bo true]) := by
  rw [word_Words_eq, bs_len, Int.tdiv_eq_ediv_of_nonneg (by omega), Int.tmod_eq_emod_of_nonneg (by omega), show (b.length : Int) / 8 = n by omega, w64 (by omega), show ((b.length : Int) % 8 != 0) = false from by simp; omega, decide_eq_true (show 0 ≤ (n : Int) by omega), decide_eq_true (show (n : Int) ≤ 140737488355328 by omega), Int.toNat_natCast, roomy_ok (by omega) (by omega)]
  have := words_loop hb hl hn n 0 (by omega)
  rw [List.take_zero] at this
  exact this
theorem bs_pad (b : List Int) (z : Nat) : bs (b ++ List.replicate z 0) = bs b ++ List.replicate z (U8 0) := by simp [bs]
theorem byte_pad {b : List Int} (hb : ∀ x ∈ b, Byte x) (z : Nat) : ∀ x ∈ b ++ List.replicate z 0, Byte x := fun x hx => by
  rcases List.mem_append.1 hx with h | h
  · exact hb x h
  · rw [(List.mem_replicate.1 h).2]; exact ⟨by decide, by decide⟩
/-- The writer's heap. -/
def wh (W : List Int) : Heap := [[.slu 48 1 (ws W)]]
theorem ws_app (a b : List Int) : ws (a ++ b) = ws a ++ ws b := by simp [ws]
theorem ws_rep (n : Nat) : ws (List.replicate n 0) = List.replicate n (U 0) := by simp [ws]
theorem V_wbytes {W b : List Int} (hb : ∀ x ∈ b, Byte x) {n : Nat} (hn : n ≤ 137438953472) (h8 : b.length ≤ 8 * n) (hW : W.length ≤ 137438953472) : ev 96 [.ptr 0 0, .pv (.sl 1 (bs b)), .pv (I (n : Int))] (wh W) = some (.ret (.pv (.tup [])), wh (W ++ wrdN n b)) := by
  unfold wh
  rw [canonwrite_writer_bytes_eq, w64 (x := 8 * (n : Int)) (by omega), decide_eq_true (show 0 ≤ 8 * (n : Int) by omega), decide_eq_true (show 8 * (n : Int) ≤ 8 * (n : Int) by omega), decide_eq_true (show 8 * (n : Int) ≤ 140737488355328 by omega), show (8 * (n : Int)).toNat = 8 * n by omega, roomy_ok (by omega) (by omega), List.length_replicate, List.drop_replicate, bs_len, List.take_of_length_le (show (bs b).length ≤ 8 * n by rw [bs_len]; exact h8)]
  have := V_Words8 (byte_pad hb (8 * n - b.length)) (by rw [List.length_append, List.length_replicate]; omega) (n := n) (by rw [List.length_append, List.length_replicate]; omega)
  rw [bs_pad, wrdN_pad] at this
  dsimp only [callT_ret, callT_pan, onlyPV_v, Option.bind_some, pBool_v, pTup_v, pAgg_v, aggOf_v, pSl_v, pInt_v, pI64, pU64, pU32, pU8, List.getElem?_cons_zero, List.getElem?_cons_succ, cells_v, cells_sl, cells_agg, isCell_v, isCell_sl, cnd_t, cnd_f, tt_and, ff_and, nt_t, nt_f, len1, len3, len5, len8, len10, hlen1, clen1, clen5]
  rw [this]
  dsimp only [callT_ret, callT_pan, onlyPV_v, Option.bind_some, pBool_v, pTup_v, pAgg_v, aggOf_v, pSl_v, pInt_v, pI64, pU64, pU32, pU8, List.getElem?_cons_zero, List.getElem?_cons_succ, cells_v, cells_sl, cells_agg, isCell_v, isCell_sl, cnd_t, cnd_f, tt_and, ff_and, nt_t, nt_f, len1, len3, len5, len8, len10, hlen1, clen1, clen5]
  rw [ws_len, ws_len, wrdN_len, roomy_ok (by omega) (by omega), ws_app]
  rfl
theorem V_wzeros {W : List Int} {n : Nat} (hn : n ≤ 137438953472) (hW : W.length ≤ 137438953472) : ev 95 [.ptr 0 0, .pv (I (n : Int))] (wh W) = some (.ret (.pv (I (W.length : Int))), wh (W ++ List.replicate n 0)) := by
  unfold wh
  rw [canonwrite_writer_zeros_eq, decide_eq_true (show 0 ≤ (n : Int) by omega), decide_eq_true (show (n : Int) ≤ 140737488355328 by omega), Int.toNat_natCast, ws_len, List.length_replicate, roomy_ok (by omega) (by omega), ws_app, ws_rep]
  rfl
end Go.Proofs.YtfljialckkgacaaGreatDoor.E
set_option linter.unusedVariables false
set_option linter.unusedSimpArgs false
namespace Go.Proofs.YtfljialckkgacaaGreatDoor.E
/-! Placing: pure. -/
def placeP (B : Nd → List Int) (a : Nat) (t : Nd) (W : List Int) : List Int := if t.kind = 0 then W else W.set a (ptrI t ((W.length : Int) - a - 1)) ++ B t
def runP (B : Nd → List Int) : List (Nat × Nd) → List Int → List Int
  | [], W => W
  | (a, t) :: r, W => runP B r (placeP B a t W)
def prsS (i : Nat) : List Nd → List (Nat × Nd)
  | [] => []
  | t :: r => (i, t) :: prsS (i + 1) r
def prsC (a s i : Nat) : List Nd → List (Nat × Nd)
  | [] => []
  | k :: r => prsS (i + a) k.kids ++ prsC a s (i + s) r
def els (a b : Nat) (l : List Nd) : List Int := l.flatMap fun k => wrdN a k.data ++ List.replicate b 0
theorem runP_app (B : Nd → List Int) : ∀ (l m : List (Nat × Nd)) (W : List Int), runP B (l ++ m) W = runP B m (runP B l W)
  | [], m, W => rfl
  | (a, t) :: l, m, W => runP_app B l m _
theorem ptrI_null {t : Nd} (h : t.kind = 0) (o : Int) : ptrI t o = 0 := by unfold ptrI; rw [if_pos h]
theorem runS {B : Nd → List Int} (hB : ∀ t : Nd, t.kind = 0 → B t = []) : ∀ (q : List Nd) (X Y : List Int) (i n : Nat), i = X.length → n = X.length + q.length + Y.length → runP B (prsS i q) (X ++ (List.replicate q.length 0 ++ Y)) = X ++ (ptrW B i n q ++ (Y ++ q.flatMap B))
  | [], X, Y, i, n, hi, hn => by simp [runP, prsS, ptrW]
  | t :: r, X, Y, i, n, hi, hn => by
    rw [prsS, runP, ptrW, List.flatMap_cons, List.length_cons, List.replicate_succ]
    rw [List.length_cons] at hn
    have e : placeP B i t (X ++ (0 :: List.replicate r.length 0 ++ Y)) = (X ++ [ptrI t ((n : Int) - i - 1)]) ++ (List.replicate r.length 0 ++ (Y ++ B t)) := by
      unfold placeP
      by_cases h0 : t.kind = 0
      · rw [if_pos h0, ptrI_null h0, hB t h0]
        simp
      · rw [if_neg h0]
        have hl : (X ++ (0 :: List.replicate r.length 0 ++ Y)).length = n := by simp; omega
        rw [hl, hi, List.set_append_right _ _ (Nat.le_refl _), Nat.sub_self]
        simp
    rw [e, runS hB r (X ++ [ptrI t ((n : Int) - i - 1)]) (Y ++ B t) (i + 1) (n + (B t).length) (by simp [hi]) (by simp; omega)]
    simp only [List.append_assoc, List.singleton_append, List.cons_append, List.nil_append]
theorem els_cons (a b : Nat) (k : Nd) (l : List Nd) : els a b (k :: l) = wrdN a k.data ++ (List.replicate b 0 ++ els a b l) := by simp [els]
theorem els_len (a b : Nat) : ∀ l : List Nd, (els a b l).length = l.length * (a + b)
  | [] => by simp [els]
  | k :: l => by rw [els_cons, List.length_append, List.length_append, wrdN_len, List.length_replicate, els_len a b l, List.length_cons, Nat.add_mul]; omega
theorem runC {B : Nd → List Int} (hB : ∀ t : Nd, t.kind = 0 → B t = []) (a b : Nat) : ∀ (ks : List Nd) (X Y : List Int) (i n : Nat), i = X.length → n = X.length + ks.length * (a + b) + Y.length → (∀ k ∈ ks, k.kids.length ≤ b) → runP B (prsC a (a + b) i ks) (X ++ (els a b ks ++ Y)) = X ++ (asmC B a b i n ks ++ (Y ++ ks.flatMap fun k => k.kids.flatMap B))
  | [], X, Y, i, n, hi, hn, _ => by simp [runP, prsC, asmC, els]
  | k :: r, X, Y, i, n, hi, hn, hk => by
    have hb := hk k List.mem_cons_self
    rw [List.length_cons, Nat.add_mul, Nat.one_mul] at hn
    rw [prsC, runP_app, asmC, List.flatMap_cons, els_cons]
    have e1 : X ++ (wrdN a k.data ++ (List.replicate b 0 ++ els a b r) ++ Y) = (X ++ wrdN a k.data) ++ (List.replicate k.kids.length 0 ++ (List.replicate (b - k.kids.length) 0 ++ (els a b r ++ Y))) := by
      have : List.replicate b (0 : Int) = List.replicate k.kids.length 0 ++ List.replicate (b - k.kids.length) 0 := by rw [List.replicate_append_replicate]; congr 1; omega
      rw [this]
      simp only [List.append_assoc]
    rw [e1, runS hB k.kids (X ++ wrdN a k.data) (List.replicate (b - k.kids.length) 0 ++ (els a b r ++ Y)) (i + a) n (by simp [hi]) (by simp [els_len]; omega)]
    have e2 : X ++ wrdN a k.data ++ (ptrW B (i + a) n k.kids ++ (List.replicate (b - k.kids.length) 0 ++ (els a b r ++ Y) ++ k.kids.flatMap B)) = (X ++ (wrdN a k.data ++ (ptrW B (i + a) n k.kids ++ List.replicate (b - k.kids.length) 0))) ++ (els a b r ++ (Y ++ k.kids.flatMap B)) := by
      simp only [List.append_assoc]
    have r2 := runC hB a b r (X ++ (wrdN a k.data ++ (ptrW B (i + a) n k.kids ++ List.replicate (b - k.kids.length) 0))) (Y ++ k.kids.flatMap B) (i + (a + b)) (n + blen B k.kids) (by simp [hi]; omega) (by unfold blen; simp; omega) (fun x hx => hk x (List.mem_cons_of_mem _ hx))
    rw [e2, r2]
    simp only [List.append_assoc]
/-- Positions count from anywhere. -/
theorem ptrW_shift (B : Nd → List Int) (s : Nat) : ∀ (l : List Nd) (i n : Nat), ptrW B (i + s) (n + s) l = ptrW B i n l
  | [], i, n => rfl
  | t :: r, i, n => by
    rw [ptrW, ptrW]
    have e := ptrW_shift B s r (i + 1) (n + (B t).length)
    rw [show i + 1 + s = i + s + 1 by omega, show n + (B t).length + s = n + s + (B t).length by omega] at e
    rw [e]
    congr 2
    omega
theorem asmC_shift (B : Nd → List Int) (a b s : Nat) : ∀ (l : List Nd) (i n : Nat), asmC B a b (i + s) (n + s) l = asmC B a b i n l
  | [], i, n => rfl
  | k :: r, i, n => by
    rw [asmC, asmC]
    have e := asmC_shift B a b s r (i + (a + b)) (n + blen B k.kids)
    rw [show i + (a + b) + s = i + s + (a + b) by omega, show n + blen B k.kids + s = n + s + blen B k.kids by omega] at e
    rw [e]
    have e2 := ptrW_shift B s k.kids (i + a) n
    rw [show i + a + s = i + s + a by omega] at e2
    rw [e2]
/-- An object's words with null pointers, its pointers and what they refer to. -/
def shW (x : Nd) : List Int :=
  if x.kind = 1 then wrdN (x.data.length / 8) x.data ++ List.replicate x.kids.length 0
  else if x.elem = 7 then encS x.n (uniD x.kids) (uniP x.kids) :: els (uniD x.kids) (uniP x.kids) x.kids
  else if x.elem = 6 then List.replicate x.kids.length 0
  else wrdN (wordsOf x.elem x.n).toNat x.data
def prs (x : Nd) (s : Nat) : List (Nat × Nd) :=
  if x.kind = 1 then prsS (s + x.data.length / 8) x.kids
  else if x.elem = 7 then prsC (uniD x.kids) (uniD x.kids + uniP x.kids) (s + 1) x.kids
  else prsS s x.kids
theorem shW_len {B : Nd → List Int} {x : Nd} (hv : VN x) (h0 : x.kind ≠ 0) : (shW x).length = (obW B x).length := by
  obtain ⟨hs, _⟩ := vn_shp hv
  unfold shW obW
  by_cases h1 : x.kind = 1
  · rw [if_pos h1, if_pos h1]; simp
  · rw [if_neg h1, if_neg h1]
    by_cases h7 : x.elem = 7
    · rw [if_pos h7, if_pos h7, List.length_cons, List.length_cons, els_len, asmC_len _ _ _ _ _ _ (fun k hk => uniP_mem hk)]
    · rw [if_neg h7, if_neg h7]
      by_cases h6 : x.elem = 6
      · rw [if_pos h6, if_pos h6]; simp
      · rw [if_neg h6, if_neg h6]
/-- Placing what an object refers to completes it. -/
theorem runObj {B : Nd → List Int} (hB : ∀ t : Nd, t.kind = 0 → B t = []) {x : Nd} (hv : VN x) (h0 : x.kind ≠ 0) (W : List Int) : runP B (prs x W.length) (W ++ shW x) = W ++ (obW B x ++ (tgt x).flatMap B) := by
  obtain ⟨hs, _⟩ := vn_shp hv
  unfold prs shW obW
  by_cases h1 : x.kind = 1
  · rw [if_pos h1, if_pos h1, if_pos h1]
    have et : tgt x = x.kids := if_neg (fun h => by rw [h1] at h; exact absurd h.1 (by decide))
    have r := runS hB x.kids (W ++ wrdN (x.data.length / 8) x.data) [] (W.length + x.data.length / 8) (W.length + (x.data.length / 8 + x.kids.length)) (by simp) (by simp; omega)
    rw [List.append_nil] at r
    rw [← List.append_assoc, r, et, List.nil_append]
    have e := ptrW_shift B W.length x.kids (x.data.length / 8) (x.data.length / 8 + x.kids.length)
    rw [Nat.add_comm _ W.length, Nat.add_comm _ W.length] at e
    rw [e]
    simp only [List.append_assoc]
  · rw [if_neg h1, if_neg h1, if_neg h1]
    by_cases h7 : x.elem = 7
    · rw [if_pos h7, if_pos h7, if_pos h7]
      have hk2 : x.kind = 2 := by rcases hs with h | h | h <;> omega
      have et : tgt x = x.kids.flatMap Nd.kids := if_pos ⟨hk2, h7⟩
      have r := runC hB (uniD x.kids) (uniP x.kids) x.kids (W ++ [encS x.n (uniD x.kids) (uniP x.kids)]) [] (W.length + 1) (W.length + (1 + x.kids.length * uni x)) (by simp) (by unfold uni; simp; omega) (fun k hk => uniP_mem hk)
      rw [List.append_nil] at r
      rw [et, flat_flat]
      have e1 : W ++ encS x.n (uniD x.kids) (uniP x.kids) :: els (uniD x.kids) (uniP x.kids) x.kids = W ++ [encS x.n (uniD x.kids) (uniP x.kids)] ++ els (uniD x.kids) (uniP x.kids) x.kids := by simp
      rw [e1, r, List.nil_append]
      have e := asmC_shift B (uniD x.kids) (uniP x.kids) W.length x.kids 1 (1 + x.kids.length * uni x)
      rw [Nat.add_comm _ W.length, Nat.add_comm _ W.length] at e
      rw [e]
      simp
    · rw [if_neg h7, if_neg h7, if_neg h7]
      have et : tgt x = x.kids := if_neg (fun h => h7 h.2)
      rw [et]
      by_cases h6 : x.elem = 6
      · rw [if_pos h6, if_pos h6]
        have r := runS hB x.kids W [] W.length (W.length + x.kids.length) rfl (by simp)
        rw [List.append_nil] at r
        rw [r, List.nil_append]
        have e := ptrW_shift B W.length x.kids 0 x.kids.length
        rw [Nat.zero_add, Nat.add_comm] at e
        rw [e]
      · rw [if_neg h6, if_neg h6]
        have hk : x.kids = [] := by
          rcases hs with h | h | h
          · omega
          · omega
          · exact List.length_eq_zero_iff.1 (h.2.2.2.2 (by omega)).1
        rw [hk]
        simp [prsS, runP]
theorem body_null (D : Nat) (t : Nd) (h : t.kind = 0) : body D t = [] := by
  cases D with
  | zero => rfl
  | succ D => rw [body, if_pos h]
/-- What placing a node comes to. -/
theorem placeP_step {D : Nat} {x : Nd} (hv : VN x) (h0 : x.kind ≠ 0) {a : Nat} {W : List Int} (ha : a < W.length) : placeP (body (D + 1)) a x W = runP (body D) (prs x W.length) ((W ++ shW x).set a (ptrI x ((W.length : Int) - a - 1))) := by
  unfold placeP
  rw [if_neg h0, List.set_append_left _ _ ha]
  have r := runObj (body_null D) hv h0 (W.set a (ptrI x ((W.length : Int) - a - 1)))
  rw [List.length_set] at r
  rw [r, body, if_neg h0]
end Go.Proofs.YtfljialckkgacaaGreatDoor.E
set_option linter.unusedVariables false
set_option linter.unusedSimpArgs false
namespace Go.Proofs.YtfljialckkgacaaGreatDoor.E
/-! The program's canonical writer. -/
def Pt0 (off : Int) (d q : Nat) : PV := .agg [I 0, I off, I d, I q, I 0, I 0, Bo false, I 0, U32 0, U32 0]
def Pt1 (off e c : Int) : PV := .agg [I 1, I off, I 0, I 0, I e, I c, Bo false, I 0, U32 0, U32 0]
theorem V_wstruct {W d : List Int} {ks : List Nd} (hb : ∀ x ∈ d, Byte x) (h8 : d.length % 8 = 0) (hd : d.length ≤ 524280) (hk : ks.length ≤ 65535) (hW : W.length ≤ 268435456) (e n : Int) : ev 76 [.ptr 0 0, .pv (.agg [I 1, I e, I n, .sl 1 (bs d), .sl 5 (pvs ks)])] (wh W) =
    some (.ret (.pv (.tup [Pt0 0 (d.length / 8) ks.length, .sl 1 [I ((W.length + d.length / 8 : Nat) : Int)]])), wh (W ++ (wrdN (d.length / 8) d ++ List.replicate ks.length 0))) := by
  have h1 := V_wbytes (W := W) hb (n := d.length / 8) (by omega) (by omega) (by omega)
  have h2 := V_wzeros (W := W ++ wrdN (d.length / 8) d) (n := ks.length) (by omega) (by simp; omega)
  unfold wh at h1 h2 ⊢
  rw [canonwrite_writer_structure_eq, bs_len, pvs_len, Int.tdiv_eq_ediv_of_nonneg (by omega), show (d.length : Int) / 8 = ((d.length / 8 : Nat) : Int) by omega, w64 (by omega), h1]
  dsimp only [callT_ret, callT_pan, onlyPV_v, Option.bind_some, pBool_v, pTup_v, pAgg_v, aggOf_v, pSl_v, pInt_v, pI64, pU64, pU32, pU8, List.getElem?_cons_zero, List.getElem?_cons_succ, cells_v, cells_sl, cells_agg, isCell_v, isCell_sl, cnd_t, cnd_f, tt_and, ff_and, nt_t, nt_f, len1, len3, len5, len8, len10, hlen1, clen1, clen5]
  rw [pSlu_v]
  dsimp only [callT_ret, callT_pan, onlyPV_v, Option.bind_some, pBool_v, pTup_v, pAgg_v, aggOf_v, pSl_v, pInt_v, pI64, pU64, pU32, pU8, List.getElem?_cons_zero, List.getElem?_cons_succ, cells_v, cells_sl, cells_agg, isCell_v, isCell_sl, cnd_t, cnd_f, tt_and, ff_and, nt_t, nt_f, len1, len3, len5, len8, len10, hlen1, clen1, clen5]
  rw [h2]
  dsimp only [callT_ret, callT_pan, onlyPV_v, Option.bind_some, pBool_v, pTup_v, pAgg_v, aggOf_v, pSl_v, pInt_v, pI64, pU64, pU32, pU8, List.getElem?_cons_zero, List.getElem?_cons_succ, cells_v, cells_sl, cells_agg, isCell_v, isCell_sl, cnd_t, cnd_f, tt_and, ff_and, nt_t, nt_f, len1, len3, len5, len8, len10, hlen1, clen1, clen5]
  rw [List.length_append, wrdN_len, List.append_assoc]
  rfl
theorem V_wlist6 {W : List Int} {ks : List Nd} {n : Nat} (hn : n ≤ 268435456) (hW : W.length ≤ 268435456) (d : List PV) : ev 75 [.ptr 0 0, .pv (.agg [I 2, I 6, I (n : Int), .sl 1 d, .sl 5 (pvs ks)])] (wh W) =
    some (.ret (.pv (.tup [Pt1 0 6 n, .sl 1 [I (W.length : Int)]])), wh (W ++ List.replicate n 0)) := by
  have h2 := V_wzeros (W := W) (n := n) (by omega) (by omega)
  unfold wh at h2 ⊢
  rw [canonwrite_writer_list_eq, show ((6 : Int) == 6) = true from rfl, h2]
  rfl
theorem V_wlist {W d : List Int} {ks : List Nd} {e n : Int} (he : 0 ≤ e ∧ e < 6) (hn : 0 ≤ n ∧ n ≤ 536870911) (hb : ∀ x ∈ d, Byte x) (hl : (d.length : Int) = bytesN e n) (hw : wordsOf e n ≤ 268435456) (hW : W.length ≤ 268435456) (hO : ev 89 [.pv (.agg [I 2, I e, I n, .sl 1 (bs d), .sl 5 (pvs ks)])] [] = ok (I (wordsOf e n))) :
    ev 75 [.ptr 0 0, .pv (.agg [I 2, I e, I n, .sl 1 (bs d), .sl 5 (pvs ks)])] (wh W) =
    some (.ret (.pv (.tup [Pt1 0 e n, .sl 1 []])), wh (W ++ wrdN (wordsOf e n).toNat d)) := by
  have hr := wordsOf_range (e := e) hn
  have hbw := bytes_words he hn
  have h1 := V_wbytes (W := W) hb (n := (wordsOf e n).toNat) (by omega) (by omega) (by omega)
  rw [show (((wordsOf e n).toNat : Nat) : Int) = wordsOf e n by omega] at h1
  unfold wh at h1 ⊢
  rw [canonwrite_writer_list_eq, beq_eq_false_iff_ne.2 (show e ≠ 6 by omega), hO]
  dsimp only [callT_ret, callT_pan, onlyPV_v, Option.bind_some, pBool_v, pTup_v, pAgg_v, aggOf_v, pSl_v, pInt_v, pI64, pU64, pU32, pU8, List.getElem?_cons_zero, List.getElem?_cons_succ, cells_v, cells_sl, cells_agg, isCell_v, isCell_sl, cnd_t, cnd_f, tt_and, ff_and, nt_t, nt_f, len1, len3, len5, len8, len10, hlen1, clen1, clen5]
  rw [h1]
  rfl
theorem comp_loop {W0 : List Int} {ks : List Nd} {a b : Nat} (ha : a ≤ 65535) (hb : b ≤ 65535) (hk : ks.length ≤ 536870911) (hs : ∀ k ∈ ks, (∀ x ∈ k.data, Byte x) ∧ k.data.length ≤ 8 * a) (hl : W0.length + ks.length * (a + b) ≤ 268435456) (i7 i8 i9 : Int) (xs10 xs11 : List PV) (i12 i13 i14 i15 i16 i17 : Int) (b18 : Bool) (i19 i20 i21 : Int) : ∀ (c i : Nat), i + c = ks.length →
    canonwrite_writer_composite_L0 (I a) (I b) (((List.range i).map fun j => I ((W0.length + j * (a + b) + a : Nat) : Int))) (pvs ks) ks.length i (ws (W0 ++ els a b (ks.take i))) i7 i8 i9 xs10 xs11 i12 i13 i14 i15 i16 i17 b18 i19 i20 i21 =
      some (.ret (.pv (.tup [Pt1 0 i8 (IntKind.wrap .i64 (i9 * ((a + b : Nat) : Int))), .sl 1 ((List.range ks.length).map fun j => I ((W0.length + j * (a + b) + a : Nat) : Int))])), wh (W0 ++ els a b ks)) := by
  intro c
  induction c with
  | zero =>
    intro i hi
    rw [canonwrite_writer_composite_L0_eq, decide_eq_false (by omega), List.take_of_length_le (by omega), show i = ks.length by omega]
    dsimp only [callT_ret, callT_pan, onlyPV_v, Option.bind_some, pBool_v, pTup_v, pAgg_v, aggOf_v, pSl_v, pInt_v, pI64, pU64, pU32, pU8, List.getElem?_cons_zero, List.getElem?_cons_succ, cells_v, cells_sl, cells_agg, isCell_v, isCell_sl, cnd_t, cnd_f, tt_and, ff_and, nt_t, nt_f, len1, len3, len5, len8, len10, hlen1, clen1, clen5]
    rw [w64 (x := (a : Int) + b) (by omega), show (a : Int) + b = ((a + b : Nat) : Int) by push_cast; rfl]
    rfl
  | succ c ih =>
    intro i hi
    have hil : i < ks.length := by omega
    obtain ⟨s1, s2⟩ := hs _ (List.getElem_mem hil)
    have hmul : i * (a + b) + (a + b) ≤ ks.length * (a + b) := by
      have := Nat.mul_le_mul_right (a + b) (show i + 1 ≤ ks.length by omega)
      rw [Nat.add_mul, Nat.one_mul] at this
      exact this
    have hel : (els a b (ks.take i)).length = i * (a + b) := by rw [els_len, List.length_take, Nat.min_eq_left (by omega)]
    have h1 := V_wbytes (W := W0 ++ els a b (ks.take i)) s1 (n := a) (by omega) s2 (by rw [List.length_append, hel]; omega)
    have h2 := V_wzeros (W := W0 ++ els a b (ks.take i) ++ wrdN a ks[i].data) (n := b) (by omega) (by rw [List.length_append, List.length_append, hel, wrdN_len]; omega)
    unfold wh at h1 h2
    rw [canonwrite_writer_composite_L0_eq, decide_eq_true (show (i : Int) < (ks.length : Int) by omega), decide_eq_true (show 0 ≤ (i : Int) by omega), decide_eq_true (show (i : Int) < ((pvs ks).length : Int) by simp; omega)]
    dsimp only [callT_ret, callT_pan, onlyPV_v, Option.bind_some, pBool_v, pTup_v, pAgg_v, aggOf_v, pSl_v, pInt_v, pI64, pU64, pU32, pU8, List.getElem?_cons_zero, List.getElem?_cons_succ, cells_v, cells_sl, cells_agg, isCell_v, isCell_sl, cnd_t, cnd_f, tt_and, ff_and, nt_t, nt_f, len1, len3, len5, len8, len10, hlen1, clen1, clen5]
    rw [Int.toNat_natCast, pvs_get hil]
    dsimp only [callT_ret, callT_pan, onlyPV_v, Option.bind_some, pBool_v, pTup_v, pAgg_v, aggOf_v, pSl_v, pInt_v, pI64, pU64, pU32, pU8, List.getElem?_cons_zero, List.getElem?_cons_succ, cells_v, cells_sl, cells_agg, isCell_v, isCell_sl, cnd_t, cnd_f, tt_and, ff_and, nt_t, nt_f, len1, len3, len5, len8, len10, hlen1, clen1, clen5]
    rw [nd_five, nd_cells, show (ks[i].c.drop 0).take 5 = ks[i].c from rfl]
    dsimp only [Nd.c, callT_ret, callT_pan, onlyPV_v, Option.bind_some, pBool_v, pTup_v, pAgg_v, aggOf_v, pSl_v, pInt_v, pI64, pU64, pU32, pU8, List.getElem?_cons_zero, List.getElem?_cons_succ, cells_v, cells_sl, cells_agg, isCell_v, isCell_sl, cnd_t, cnd_f, tt_and, ff_and, nt_t, nt_f, len1, len3, len5, len8, len10, hlen1, clen1, clen5]
    rw [h1]
    dsimp only [callT_ret, callT_pan, onlyPV_v, Option.bind_some, pBool_v, pTup_v, pAgg_v, aggOf_v, pSl_v, pInt_v, pI64, pU64, pU32, pU8, List.getElem?_cons_zero, List.getElem?_cons_succ, cells_v, cells_sl, cells_agg, isCell_v, isCell_sl, cnd_t, cnd_f, tt_and, ff_and, nt_t, nt_f, len1, len3, len5, len8, len10, hlen1, clen1, clen5]
    rw [pSlu_v]
    dsimp only [callT_ret, callT_pan, onlyPV_v, Option.bind_some, pBool_v, pTup_v, pAgg_v, aggOf_v, pSl_v, pInt_v, pI64, pU64, pU32, pU8, List.getElem?_cons_zero, List.getElem?_cons_succ, cells_v, cells_sl, cells_agg, isCell_v, isCell_sl, cnd_t, cnd_f, tt_and, ff_and, nt_t, nt_f, len1, len3, len5, len8, len10, hlen1, clen1, clen5]
    rw [h2]
    dsimp only [callT_ret, callT_pan, onlyPV_v, Option.bind_some, pBool_v, pTup_v, pAgg_v, aggOf_v, pSl_v, pInt_v, pI64, pU64, pU32, pU8, List.getElem?_cons_zero, List.getElem?_cons_succ, cells_v, cells_sl, cells_agg, isCell_v, isCell_sl, cnd_t, cnd_f, tt_and, ff_and, nt_t, nt_f, len1, len3, len5, len8, len10, hlen1, clen1, clen5]
    rw [pSlu_v]
    dsimp only [callT_ret, callT_pan, onlyPV_v, Option.bind_some, pBool_v, pTup_v, pAgg_v, aggOf_v, pSl_v, pInt_v, pI64, pU64, pU32, pU8, List.getElem?_cons_zero, List.getElem?_cons_succ, cells_v, cells_sl, cells_agg, isCell_v, isCell_sl, cnd_t, cnd_f, tt_and, ff_and, nt_t, nt_f, len1, len3, len5, len8, len10, hlen1, clen1, clen5]
    rw [roomy_ok (by simp; omega) (by simp; omega), w64 (x := (i : Int) + 1) (by omega)]
    have e1 : (List.range i).map (fun j => I ((W0.length + j * (a + b) + a : Nat) : Int)) ++ [I ((W0 ++ els a b (ks.take i) ++ wrdN a ks[i].data).length : Int)] = (List.range (i + 1)).map fun j => I ((W0.length + j * (a + b) + a : Nat) : Int) := by
      rw [List.range_succ, List.map_append, List.map_singleton, List.length_append, List.length_append, hel, wrdN_len]
    have e2 : W0 ++ els a b (ks.take i) ++ wrdN a ks[i].data ++ List.replicate b 0 = W0 ++ els a b (ks.take (i + 1)) := by
      rw [take_snoc hil]
      unfold els
      rw [List.flatMap_append, List.flatMap_singleton]
      simp only [List.append_assoc]
    have := ih (i + 1) (by omega)
    rw [← e1, ← e2] at this
    exact this
theorem V_wcomp {W : List Int} {ks : List Nd} {n : Int} (hn : 0 ≤ n ∧ n ≤ 536870911) (hk : (ks.length : Int) = n) (hs : ∀ k ∈ ks, (∀ x ∈ k.data, Byte x) ∧ k.data.length % 8 = 0 ∧ k.data.length ≤ 524280 ∧ k.kids.length ≤ 65535) (hl : W.length + 1 + ks.length * (uniD ks + uniP ks) ≤ 268435456) :
    ev 77 [.ptr 0 0, .pv (.agg [I 2, I 7, I n, .sl 1 [], .sl 5 (pvs ks)])] (wh W) =
    some (.ret (.pv (.tup [Pt1 0 7 (n * ((uniD ks + uniP ks : Nat) : Int)), .sl 1 ((List.range ks.length).map fun j => I ((W.length + 1 + j * (uniD ks + uniP ks) + uniD ks : Nat) : Int))])), wh (W ++ (encS n (uniD ks) (uniP ks) :: els (uniD ks) (uniP ks) ks))) := by
  have hud : uniD ks ≤ 65535 := uniD_le fun x hx => by have := (hs x hx).2.2.1; omega
  have huq : uniP ks ≤ 65535 := uniP_le fun x hx => (hs x hx).2.2.2
  have hU := V_Uniform (x := .mk 2 7 n [] ks) (by show ks.length ≤ _; omega) (fun y hy => by have := (hs y hy).2.2.1; omega)
  have hE := V_Encode0 (off := n) (d := uniD ks) (q := uniP ks) (by omega) hud huq
  have hu : ev 97 [.pv (.agg [I 2, I 7, I n, .sl 1 [], .sl 5 (pvs ks)])] [] = ok (.tup [I (uniD ks : Nat), I (uniP ks : Nat)]) := hU
  have hL := comp_loop (W0 := W ++ [encS n (uniD ks) (uniP ks)]) (ks := ks) hud huq (by omega) (fun k hk => ⟨(hs k hk).1, by have := uniD_mem hk; have := (hs k hk).2.1; omega⟩) (by rw [List.length_append, List.length_singleton]; omega) 2 7 n [] (pvs ks) 0 0 0 0 0 0 false 0 0 0 ks.length 0 (by omega)
  unfold wh at hL ⊢
  rw [canonwrite_writer_composite_eq, hu]
  dsimp only [callT_ret, callT_pan, onlyPV_v, Option.bind_some, pBool_v, pTup_v, pAgg_v, aggOf_v, pSl_v, pInt_v, pI64, pU64, pU32, pU8, List.getElem?_cons_zero, List.getElem?_cons_succ, cells_v, cells_sl, cells_agg, isCell_v, isCell_sl, cnd_t, cnd_f, tt_and, ff_and, nt_t, nt_f, len1, len3, len5, len8, len10, hlen1, clen1, clen5]
  rw [hE]
  dsimp only [callT_ret, callT_pan, onlyPV_v, Option.bind_some, pBool_v, pTup_v, pAgg_v, aggOf_v, pSl_v, pInt_v, pI64, pU64, pU32, pU8, List.getElem?_cons_zero, List.getElem?_cons_succ, cells_v, cells_sl, cells_agg, isCell_v, isCell_sl, cnd_t, cnd_f, tt_and, ff_and, nt_t, nt_f, len1, len3, len5, len8, len10, hlen1, clen1, clen5]
  rw [ws_len, roomy_ok (by omega) (by omega), pvs_len, ws_snoc]
  have hL' := hL
  rw [List.take_zero, show els (uniD ks) (uniP ks) [] = [] from rfl, List.append_nil] at hL'
  refine Eq.trans (show _ = _ from hL') ?_
  have e1 : W ++ [encS n (uniD ks) (uniP ks)] ++ els (uniD ks) (uniP ks) ks = W ++ (encS n (uniD ks) (uniP ks) :: els (uniD ks) (uniP ks) ks) := by simp
  have hnu : n * ((uniD ks + uniP ks : Nat) : Int) = ((ks.length * (uniD ks + uniP ks) : Nat) : Int) := by rw [← hk]; push_cast; rfl
  rw [e1, List.length_append, List.length_singleton, w64 (by rw [hnu]; omega)]
end Go.Proofs.YtfljialckkgacaaGreatDoor.E
set_option linter.unusedVariables false
set_option linter.unusedSimpArgs false
namespace Go.Proofs.YtfljialckkgacaaGreatDoor.E
/-! The program writes the canonical form. -/
theorem body_len' {D : Nat} {x : Nd} (h : Ok D x) : ((body D x).length : Int) = nodSz D x := body_len D h.vn h.dp
theorem placeP_len {D : Nat} {t : Nd} (h : Ok D t) (a : Nat) (W : List Int) : ((placeP (body D) a t W).length : Int) = W.length + nodSz D t := by
  unfold placeP
  split
  · rename_i h0
    rw [nodSz_null h.vn h0, Int.add_zero]
  · rw [List.length_append, List.length_set, ← body_len' h]
    push_cast
    rfl
theorem runP_len {D : Nat} : ∀ (l : List (Nat × Nd)) (W : List Int), (∀ p ∈ l, Ok D p.2) → ((runP (body D) l W).length : Int) = W.length + sumL (l.map fun p => nodSz D p.2)
  | [], W, _ => by simp [runP, sumL_nil]
  | (a, t) :: r, W, h => by
    rw [runP, runP_len r _ (fun p hp => h p (List.mem_cons_of_mem _ hp)), placeP_len (h (a, t) List.mem_cons_self), List.map_cons, sumL_cons]
    dsimp only
    omega
theorem prsS_mem : ∀ (q : List Nd) (i : Nat) (p : Nat × Nd), p ∈ prsS i q → p.2 ∈ q
  | [], i, p, h => by cases h
  | t :: r, i, p, h => by
    rw [prsS] at h
    rcases List.mem_cons.1 h with rfl | h
    · exact List.mem_cons_self
    · exact List.mem_cons_of_mem _ (prsS_mem r _ p h)
theorem prsS_sum (f : Nd → Int) : ∀ (q : List Nd) (i : Nat), sumL ((prsS i q).map fun p => f p.2) = sumL (q.map f)
  | [], i => rfl
  | t :: r, i => by rw [prsS, List.map_cons, List.map_cons, sumL_cons, sumL_cons, prsS_sum f r]
theorem ws_set (L : List Int) (i : Nat) (w : Int) : (ws L).set i (U w) = ws (L.set i w) := by simp [ws, List.map_set]
/-- A node placed by the program. -/
def Plc (D : Nat) (t : Nd) : Prop := ∀ (W : List Int) (a : Nat), a < W.length → (W.length : Int) + nodSz D t ≤ 268435456 → ev 54 [.ptr 0 0, .pv (I (a : Int)), .pv t.x] (wh W) = some (.ret (.pv (.tup [])), wh (placeP (body D) a t W))
theorem plc_null {D : Nat} {t : Nd} (h : t.kind = 0) : Plc D t := fun W a ha hl => by
  unfold wh placeP
  rw [Nd.x, canonwrite_writer_place_eq, beq_iff_eq.2 h, if_pos h]
  rfl
section
variable {D : Nat} {q : List Nd} (hq : q.length ≤ 268435456) (hP : ∀ t ∈ q, Plc D t) (hO : ∀ t ∈ q, Ok D t) (xs0 : List PV) (p2 : PV) (i3 i4 i9 i10 i11 : Int) (xs12 xs13 : List PV) (p14 : PV) (i15 : Int) (p16 p17 p18 p19 p20 p21 p22 p23 : PV) {f : Nat}
include hq hP hO
theorem L3_ok : ∀ (c j : Nat) (W : List Int), j + c = q.length → f + q.length ≤ W.length → (W.length : Int) + sumL ((q.drop j).map (nodSz D)) ≤ 268435456 →
    canonwrite_writer_place_L3 xs0 (I (f : Int)) p2 i3 i4 (.sl 5 (pvs q)) q.length j (ws W) i9 i10 i11 xs12 xs13 p14 i15 p16 p17 p18 p19 p20 p21 p22 p23 = canonwrite_writer_place_L1 xs0 p2 i3 (IntKind.wrap .i64 (i4 + 1)) (ws (runP (body D) (prsS (f + j) (q.drop j)) W)) i9 i10 i11 xs12 xs13 p14 i15 p16 p17 p18 p19 p20 p21 p22 p23 := by
  intro c
  induction c with
  | zero =>
    intro j W hj hf hl
    rw [canonwrite_writer_place_L3_eq, decide_eq_false (by omega), List.drop_eq_nil_of_le (by omega)]
    rfl
  | succ c ih =>
    intro j W hj hf hl
    have hjl : j < q.length := by omega
    have ho := hO _ (List.getElem_mem hjl)
    rw [drop_sum hjl] at hl
    have hnn := nodSz_nn D ho.vn
    have hr : 0 ≤ sumL ((q.drop (j + 1)).map (nodSz D)) := sumL_nn fun y hy => by
      obtain ⟨t, ht, rfl⟩ := List.mem_map.1 hy
      exact nodSz_nn D (hO t (List.mem_of_mem_drop ht)).vn
    have h1 := hP _ (List.getElem_mem hjl) W (f + j) (by omega) (by omega)
    have hlen := placeP_len ho (f + j) W
    unfold wh at h1
    dsimp only [Nd.x] at h1
    rw [canonwrite_writer_place_L3_eq, decide_eq_true (show (j : Int) < (q.length : Int) by omega)]
    dsimp only [callT_ret, callT_pan, onlyPV_v, Option.bind_some, pBool_v, pTup_v, pAgg_v, aggOf_v, pSl_v, pInt_v, pI64, pU64, pU32, pU8, List.getElem?_cons_zero, List.getElem?_cons_succ, cells_v, cells_sl, cells_agg, isCell_v, isCell_sl, cnd_t, cnd_f, tt_and, ff_and, nt_t, nt_f, len1, len3, len5, len8, len10, hlen1, clen1, clen5]
    rw [decide_eq_true (show (5 : Nat) = 5 from rfl), decide_eq_true (show 0 ≤ (j : Int) by omega), decide_eq_true (show (j : Int) < ((pvs q).length : Int) by simp; omega)]
    dsimp only [callT_ret, callT_pan, onlyPV_v, Option.bind_some, pBool_v, pTup_v, pAgg_v, aggOf_v, pSl_v, pInt_v, pI64, pU64, pU32, pU8, List.getElem?_cons_zero, List.getElem?_cons_succ, cells_v, cells_sl, cells_agg, isCell_v, isCell_sl, cnd_t, cnd_f, tt_and, ff_and, nt_t, nt_f, len1, len3, len5, len8, len10, hlen1, clen1, clen5]
    rw [Int.toNat_natCast, pvs_get hjl]
    dsimp only [callT_ret, callT_pan, onlyPV_v, Option.bind_some, pBool_v, pTup_v, pAgg_v, aggOf_v, pSl_v, pInt_v, pI64, pU64, pU32, pU8, List.getElem?_cons_zero, List.getElem?_cons_succ, cells_v, cells_sl, cells_agg, isCell_v, isCell_sl, cnd_t, cnd_f, tt_and, ff_and, nt_t, nt_f, len1, len3, len5, len8, len10, hlen1, clen1, clen5]
    rw [nd_five, nd_cells, show (q[j].c.drop 0).take 5 = q[j].c from rfl]
    dsimp only [Nd.c, callT_ret, callT_pan, onlyPV_v, Option.bind_some, pBool_v, pTup_v, pAgg_v, aggOf_v, pSl_v, pInt_v, pI64, pU64, pU32, pU8, List.getElem?_cons_zero, List.getElem?_cons_succ, cells_v, cells_sl, cells_agg, isCell_v, isCell_sl, cnd_t, cnd_f, tt_and, ff_and, nt_t, nt_f, len1, len3, len5, len8, len10, hlen1, clen1, clen5]
    rw [w64 (x := (f : Int) + j) (by omega), show (f : Int) + j = ((f + j : Nat) : Int) by push_cast; rfl, h1]
    dsimp only [callT_ret, callT_pan, onlyPV_v, Option.bind_some, pBool_v, pTup_v, pAgg_v, aggOf_v, pSl_v, pInt_v, pI64, pU64, pU32, pU8, List.getElem?_cons_zero, List.getElem?_cons_succ, cells_v, cells_sl, cells_agg, isCell_v, isCell_sl, cnd_t, cnd_f, tt_and, ff_and, nt_t, nt_f, len1, len3, len5, len8, len10, hlen1, clen1, clen5]
    rw [pSlu_v, w64 (x := (j : Int) + 1) (by omega)]
    dsimp only [callT_ret, callT_pan, onlyPV_v, Option.bind_some, pBool_v, pTup_v, pAgg_v, aggOf_v, pSl_v, pInt_v, pI64, pU64, pU32, pU8, List.getElem?_cons_zero, List.getElem?_cons_succ, cells_v, cells_sl, cells_agg, isCell_v, isCell_sl, cnd_t, cnd_f, tt_and, ff_and, nt_t, nt_f, len1, len3, len5, len8, len10, hlen1, clen1, clen5]
    have := ih (j + 1) (placeP (body D) (f + j) q[j] W) (by omega) (by omega) (by omega)
    rw [List.drop_eq_getElem_cons hjl, prsS, runP]
    exact this
theorem L3v_ok : ∀ (c j : Nat) (W : List Int), j + c = q.length → f + q.length ≤ W.length → (W.length : Int) + sumL ((q.drop j).map (nodSz D)) ≤ 268435456 →
    canonwrite_writer_place_L3v1 xs0 (I (f : Int)) p2 i3 i4 (.sl 5 (pvs q)) q.length j (ws W) i9 i10 i11 xs12 xs13 p14 i15 p16 p17 p18 p19 p20 p21 p22 p23 = canonwrite_writer_place_L1v1 xs0 p2 i3 (IntKind.wrap .i64 (i4 + 1)) (ws (runP (body D) (prsS (f + j) (q.drop j)) W)) i9 i10 i11 xs12 xs13 p14 i15 p16 p17 p18 p19 p20 p21 p22 p23 := by
  intro c
  induction c with
  | zero =>
    intro j W hj hf hl
    rw [canonwrite_writer_place_L3v1_eq, decide_eq_false (by omega), List.drop_eq_nil_of_le (by omega)]
    rfl
  | succ c ih =>
    intro j W hj hf hl
    have hjl : j < q.length := by omega
    have ho := hO _ (List.getElem_mem hjl)
    rw [drop_sum hjl] at hl
    have hnn := nodSz_nn D ho.vn
    have hr : 0 ≤ sumL ((q.drop (j + 1)).map (nodSz D)) := sumL_nn fun y hy => by
      obtain ⟨t, ht, rfl⟩ := List.mem_map.1 hy
      exact nodSz_nn D (hO t (List.mem_of_mem_drop ht)).vn
    have h1 := hP _ (List.getElem_mem hjl) W (f + j) (by omega) (by omega)
    have hlen := placeP_len ho (f + j) W
    unfold wh at h1
    dsimp only [Nd.x] at h1
    rw [canonwrite_writer_place_L3v1_eq, decide_eq_true (show (j : Int) < (q.length : Int) by omega)]
    dsimp only [callT_ret, callT_pan, onlyPV_v, Option.bind_some, pBool_v, pTup_v, pAgg_v, aggOf_v, pSl_v, pInt_v, pI64, pU64, pU32, pU8, List.getElem?_cons_zero, List.getElem?_cons_succ, cells_v, cells_sl, cells_agg, isCell_v, isCell_sl, cnd_t, cnd_f, tt_and, ff_and, nt_t, nt_f, len1, len3, len5, len8, len10, hlen1, clen1, clen5]
    rw [decide_eq_true (show (5 : Nat) = 5 from rfl), decide_eq_true (show 0 ≤ (j : Int) by omega), decide_eq_true (show (j : Int) < ((pvs q).length : Int) by simp; omega)]
    dsimp only [callT_ret, callT_pan, onlyPV_v, Option.bind_some, pBool_v, pTup_v, pAgg_v, aggOf_v, pSl_v, pInt_v, pI64, pU64, pU32, pU8, List.getElem?_cons_zero, List.getElem?_cons_succ, cells_v, cells_sl, cells_agg, isCell_v, isCell_sl, cnd_t, cnd_f, tt_and, ff_and, nt_t, nt_f, len1, len3, len5, len8, len10, hlen1, clen1, clen5]
    rw [Int.toNat_natCast, pvs_get hjl]
    dsimp only [callT_ret, callT_pan, onlyPV_v, Option.bind_some, pBool_v, pTup_v, pAgg_v, aggOf_v, pSl_v, pInt_v, pI64, pU64, pU32, pU8, List.getElem?_cons_zero, List.getElem?_cons_succ, cells_v, cells_sl, cells_agg, isCell_v, isCell_sl, cnd_t, cnd_f, tt_and, ff_and, nt_t, nt_f, len1, len3, len5, len8, len10, hlen1, clen1, clen5]
    rw [nd_five, nd_cells, show (q[j].c.drop 0).take 5 = q[j].c from rfl]
    dsimp only [Nd.c, callT_ret, callT_pan, onlyPV_v, Option.bind_some, pBool_v, pTup_v, pAgg_v, aggOf_v, pSl_v, pInt_v, pI64, pU64, pU32, pU8, List.getElem?_cons_zero, List.getElem?_cons_succ, cells_v, cells_sl, cells_agg, isCell_v, isCell_sl, cnd_t, cnd_f, tt_and, ff_and, nt_t, nt_f, len1, len3, len5, len8, len10, hlen1, clen1, clen5]
    rw [w64 (x := (f : Int) + j) (by omega), show (f : Int) + j = ((f + j : Nat) : Int) by push_cast; rfl, h1]
    dsimp only [callT_ret, callT_pan, onlyPV_v, Option.bind_some, pBool_v, pTup_v, pAgg_v, aggOf_v, pSl_v, pInt_v, pI64, pU64, pU32, pU8, List.getElem?_cons_zero, List.getElem?_cons_succ, cells_v, cells_sl, cells_agg, isCell_v, isCell_sl, cnd_t, cnd_f, tt_and, ff_and, nt_t, nt_f, len1, len3, len5, len8, len10, hlen1, clen1, clen5]
    rw [pSlu_v, w64 (x := (j : Int) + 1) (by omega)]
    dsimp only [callT_ret, callT_pan, onlyPV_v, Option.bind_some, pBool_v, pTup_v, pAgg_v, aggOf_v, pSl_v, pInt_v, pI64, pU64, pU32, pU8, List.getElem?_cons_zero, List.getElem?_cons_succ, cells_v, cells_sl, cells_agg, isCell_v, isCell_sl, cnd_t, cnd_f, tt_and, ff_and, nt_t, nt_f, len1, len3, len5, len8, len10, hlen1, clen1, clen5]
    have := ih (j + 1) (placeP (body D) (f + j) q[j] W) (by omega) (by omega) (by omega)
    rw [List.drop_eq_getElem_cons hjl, prsS, runP]
    exact this
end
/-- One owner. -/
theorem L1_one {D : Nat} {x : Nd} (hq : x.kids.length ≤ 268435456) (hP : ∀ t ∈ x.kids, Plc D t) (hO : ∀ t ∈ x.kids, Ok D t) (i9 i10 i11 : Int) (xs12 xs13 : List PV) (p14 : PV) (i15 : Int) (p16 p17 p18 p19 p20 p21 p22 p23 : PV) {f : Nat} {W : List Int} (hf : f + x.kids.length ≤ W.length) (hl : (W.length : Int) + sumL (x.kids.map (nodSz D)) ≤ 268435456) :
    canonwrite_writer_place_L1 [.agg [I x.kind, I x.elem, I x.n, .sl 1 (bs x.data), .sl 5 (pvs x.kids)]] (.sl 1 [I (f : Int)]) 1 0 (ws W) i9 i10 i11 xs12 xs13 p14 i15 p16 p17 p18 p19 p20 p21 p22 p23 = some (.ret (.pv (.tup [])), wh (runP (body D) (prsS f x.kids) W)) := by
  have h := L3_ok hq hP hO [.agg [I x.kind, I x.elem, I x.n, .sl 1 (bs x.data), .sl 5 (pvs x.kids)]] (.sl 1 [I (f : Int)]) 1 0 i9 i10 i11 xs12 xs13 p14 i15 p16 p17 p18 p19 p20 p21 p22 p23 (f := f) x.kids.length 0 W (by omega) hf (by rw [List.drop_zero]; exact hl)
  rw [canonwrite_writer_place_L1_eq, decide_eq_true (show (0 : Int) < 1 by decide)]
  dsimp only [callT_ret, callT_pan, onlyPV_v, Option.bind_some, pBool_v, pTup_v, pAgg_v, aggOf_v, pSl_v, pInt_v, pI64, pU64, pU32, pU8, List.getElem?_cons_zero, List.getElem?_cons_succ, cells_v, cells_sl, cells_agg, isCell_v, isCell_sl, cnd_t, cnd_f, tt_and, ff_and, nt_t, nt_f, len1, len3, len5, len8, len10, hlen1, clen1, clen5]
  rw [decide_eq_true (show (1 : Nat) = 1 from rfl), decide_eq_true (show (0 : Int) ≤ 0 by decide), decide_eq_true (show (0 : Int) < (([I (f : Int)] : List PV).length : Int) by simp), decide_eq_true (show (0 : Int) < (([.agg [I x.kind, I x.elem, I x.n, .sl 1 (bs x.data), .sl 5 (pvs x.kids)]] : List PV).length : Int) by simp), show (0 : Int).toNat = 0 from rfl]
  dsimp only [callT_ret, callT_pan, onlyPV_v, Option.bind_some, pBool_v, pTup_v, pAgg_v, aggOf_v, pSl_v, pInt_v, pI64, pU64, pU32, pU8, List.getElem?_cons_zero, List.getElem?_cons_succ, cells_v, cells_sl, cells_agg, isCell_v, isCell_sl, cnd_t, cnd_f, tt_and, ff_and, nt_t, nt_f, len1, len3, len5, len8, len10, hlen1, clen1, clen5]
  rw [pvs_len]
  refine (show _ = _ from h).trans ?_
  rw [canonwrite_writer_place_L1_eq, show IntKind.wrap .i64 (0 + 1) = 1 from rfl, decide_eq_false (by decide), List.drop_zero, Nat.add_zero]
  rfl
/-- The owners of a composite list. -/
theorem L1_comp {D : Nat} {ks : List Nd} {a b s : Nat} (hq : ks.length ≤ 536870911) (hk : ∀ k ∈ ks, k.kids.length ≤ b) (hP : ∀ k ∈ ks, ∀ t ∈ k.kids, Plc D t) (hO : ∀ k ∈ ks, ∀ t ∈ k.kids, Ok D t) (i9 i10 i11 : Int) (xs12 xs13 : List PV) (p14 : PV) (i15 : Int) (p16 p17 p18 p19 p20 p21 p22 p23 : PV) (hb : b ≤ 65535) : ∀ (c i : Nat) (W : List Int), i + c = ks.length → s + ks.length * (a + b) ≤ W.length → (W.length : Int) + sumL ((ks.drop i).map fun k => sumL (k.kids.map (nodSz D))) ≤ 268435456 →
    canonwrite_writer_place_L1v1 (pvs ks) (.sl 1 ((List.range ks.length).map fun j => I ((s + j * (a + b) + a : Nat) : Int))) ks.length i (ws W) i9 i10 i11 xs12 xs13 p14 i15 p16 p17 p18 p19 p20 p21 p22 p23 = some (.ret (.pv (.tup [])), wh (runP (body D) (prsC a (a + b) (s + i * (a + b)) (ks.drop i)) W)) := by
  intro c
  induction c with
  | zero =>
    intro i W hi hs hl
    rw [canonwrite_writer_place_L1v1_eq, decide_eq_false (by omega), List.drop_eq_nil_of_le (by omega)]
    rfl
  | succ c ih =>
    intro i W hi hs hl
    have hil : i < ks.length := by omega
    have hmem := List.getElem_mem hil
    have hmul : i * (a + b) + (a + b) ≤ ks.length * (a + b) := by
      have := Nat.mul_le_mul_right (a + b) (show i + 1 ≤ ks.length by omega)
      rw [Nat.add_mul, Nat.one_mul] at this
      exact this
    have nn : ∀ k ∈ ks, 0 ≤ sumL (k.kids.map (nodSz D)) := fun k hk => sumL_nn fun y hy => by
      obtain ⟨t, ht, rfl⟩ := List.mem_map.1 hy
      exact nodSz_nn D (hO k hk t ht).vn
    rw [drop_sum hil] at hl
    have hr : 0 ≤ sumL ((ks.drop (i + 1)).map fun k => sumL (k.kids.map (nodSz D))) := sumL_nn fun y hy => by
      obtain ⟨t, ht, rfl⟩ := List.mem_map.1 hy
      exact nn t (List.mem_of_mem_drop ht)
    have hkb := hk _ hmem
    have h := L3v_ok (q := ks[i].kids) (by omega) (hP _ hmem) (hO _ hmem) (pvs ks) (.sl 1 ((List.range ks.length).map fun j => I ((s + j * (a + b) + a : Nat) : Int))) ks.length i i9 i10 i11 xs12 xs13 p14 i15 p16 p17 p18 p19 p20 p21 p22 p23 (f := s + i * (a + b) + a) ks[i].kids.length 0 W (by omega) (by omega) (by rw [List.drop_zero]; omega)
    rw [canonwrite_writer_place_L1v1_eq, decide_eq_true (show (i : Int) < (ks.length : Int) by omega)]
    dsimp only [callT_ret, callT_pan, onlyPV_v, Option.bind_some, pBool_v, pTup_v, pAgg_v, aggOf_v, pSl_v, pInt_v, pI64, pU64, pU32, pU8, List.getElem?_cons_zero, List.getElem?_cons_succ, cells_v, cells_sl, cells_agg, isCell_v, isCell_sl, cnd_t, cnd_f, tt_and, ff_and, nt_t, nt_f, len1, len3, len5, len8, len10, hlen1, clen1, clen5]
    rw [decide_eq_true (show (1 : Nat) = 1 from rfl), decide_eq_true (show (0 : Int) ≤ i by omega), decide_eq_true (show (i : Int) < (((List.range ks.length).map fun j => I ((s + j * (a + b) + a : Nat) : Int)).length : Int) by simp; omega), decide_eq_true (show (i : Int) < ((pvs ks).length : Int) by simp; omega), Int.toNat_natCast, List.getElem?_map, List.getElem?_range hil, pvs_get hil]
    dsimp only [Option.map_some, callT_ret, callT_pan, onlyPV_v, Option.bind_some, pBool_v, pTup_v, pAgg_v, aggOf_v, pSl_v, pInt_v, pI64, pU64, pU32, pU8, List.getElem?_cons_zero, List.getElem?_cons_succ, cells_v, cells_sl, cells_agg, isCell_v, isCell_sl, cnd_t, cnd_f, tt_and, ff_and, nt_t, nt_f, len1, len3, len5, len8, len10, hlen1, clen1, clen5]
    rw [nd_cells]
    dsimp only [Nd.c, callT_ret, callT_pan, onlyPV_v, Option.bind_some, pBool_v, pTup_v, pAgg_v, aggOf_v, pSl_v, pInt_v, pI64, pU64, pU32, pU8, List.getElem?_cons_zero, List.getElem?_cons_succ, cells_v, cells_sl, cells_agg, isCell_v, isCell_sl, cnd_t, cnd_f, tt_and, ff_and, nt_t, nt_f, len1, len3, len5, len8, len10, hlen1, clen1, clen5]
    rw [pvs_len]
    refine (show _ = _ from h).trans ?_
    rw [w64 (x := (i : Int) + 1) (by omega), List.drop_zero, Nat.add_zero]
    have hsum := prsS_sum (nodSz D) ks[i].kids (s + i * (a + b) + a)
    have hlen := runP_len (prsS (s + i * (a + b) + a) ks[i].kids) W (fun p hp => hO _ hmem p.2 (prsS_mem _ _ p hp))
    rw [hsum] at hlen
    have h0 := nn _ hmem
    have := ih (i + 1) (runP (body D) (prsS (s + i * (a + b) + a) ks[i].kids) W) (by omega) (by omega) (by omega)
    rw [show s + (i + 1) * (a + b) = s + i * (a + b) + (a + b) by rw [Nat.add_mul, Nat.one_mul]; omega] at this
    refine (show _ = _ from this).trans ?_
    rw [List.drop_eq_getElem_cons hil, prsC, runP_app]
theorem eqz0 (o d q : Int) : eqCells [false, false, false, false, false, false, true, false, false, false] [I 0, I o, I d, I q, I 0, I 0, Bo false, I 0, U32 0, U32 0] [I 0, I o, I 0, I 0, I 0, I 0, Bo false, I 0, U32 0, U32 0] = some ((d == 0) && (q == 0)) := by
  simp [eqCells]
theorem eqz1 (o e c : Int) : eqCells [false, false, false, false, false, false, true, false, false, false] [I 1, I o, I 0, I 0, I e, I c, Bo false, I 0, U32 0, U32 0] [I 0, I o, I 0, I 0, I 0, I 0, Bo false, I 0, U32 0, U32 0] = some false := by
  simp [eqCells]
theorem put_ok {L : List Int} {a : Nat} (ha : a < L.length) (w : Int) : ∃ y, (ws L)[a]? = some (U y) := ⟨L[a], ws_get ha⟩
theorem sum_tgt_nn {D : Nat} {x : Nd} (h : Ok (D + 1) x) (h0 : x.kind ≠ 0) : 0 ≤ sumL ((tgt x).map (nodSz D)) := sumL_nn fun y hy => by
  obtain ⟨t, ht, rfl⟩ := List.mem_map.1 hy
  exact nodSz_nn D (ok_tgt h h0 t ht).vn
theorem place_ok : ∀ (D : Nat) (x : Nd), Ok D x → Plc D x
  | 0, x, h => plc_null h.dp
  | D + 1, x, h => by
    by_cases h0 : x.kind = 0
    · exact plc_null h0
    · intro W a ha hl
      have hT := ok_tgt h h0
      have hP : ∀ t ∈ tgt x, Plc D t := fun t ht => place_ok D t (hT t ht)
      have hsn := sum_tgt_nn h h0
      have hon := objSz_nn h.vn
      rw [nodSz] at hl
      rw [placeP_step h.vn h0 ha]
      have hsl := shW_len (B := body D) h.vn h0
      have hol := obW_len (body D) h.vn h0
      have hWl : (W ++ shW x).length = W.length + (obW (body D) x).length := by rw [List.length_append, hsl]
      obtain ⟨hs, hkk⟩ := vn_shp h.vn
      have hal : a < (W ++ shW x).length := by omega
      obtain ⟨y0, hy0⟩ := put_ok hal 0
      rcases hs with hs | hs | hs
      · exact absurd hs.1 h0
      · obtain ⟨d, ks, rfl, g1, g2, g3, g4, g5, g6⟩ := st_parts h.vn h.tr h.gd hs.1
        have et : tgt (.mk 1 0 0 d ks) = ks := rfl
        rw [et] at hT hP hl hsn
        have ew : shW (.mk 1 0 0 d ks) = wrdN (d.length / 8) d ++ List.replicate ks.length 0 := rfl
        have ep : prs (.mk 1 0 0 d ks) W.length = prsS (W.length + d.length / 8) ks := rfl
        have eo : objSz (.mk 1 0 0 d ks) = ((d.length / 8 + ks.length : Nat) : Int) := rfl
        rw [ew] at hal hWl hy0 ⊢
        rw [eo] at hol hl
        rw [ep]
        have hst := V_wstruct (W := W) g3 g4 g5 g6 (by omega) 0 0 (ks := ks)
        have hloop : ∀ (w : Int) (p14 : PV) (i15 : Int) (p16 p17 p18 p19 p20 p21 p22 p23 : PV), canonwrite_writer_place_L1 [.agg [I 1, I 0, I 0, .sl 1 (bs d), .sl 5 (pvs ks)]] (.sl 1 [I ((W.length + d.length / 8 : Nat) : Int)]) 1 0 (ws ((W ++ (wrdN (d.length / 8) d ++ List.replicate ks.length 0)).set a w)) 1 0 0 (bs d) (pvs ks) p14 i15 p16 p17 p18 p19 p20 p21 p22 p23 = some (.ret (.pv (.tup [])), wh (runP (body D) (prsS (W.length + d.length / 8) ks) ((W ++ (wrdN (d.length / 8) d ++ List.replicate ks.length 0)).set a w))) := fun w p14 i15 p16 p17 p18 p19 p20 p21 p22 p23 =>
          L1_one (x := .mk 1 0 0 d ks) (by show ks.length ≤ _; omega) hP hT 1 0 0 (bs d) (pvs ks) p14 i15 p16 p17 p18 p19 p20 p21 p22 p23 (by rw [List.length_set, hWl]; show _ + ks.length ≤ _; omega) (by rw [List.length_set, hWl]; show _ + sumL (ks.map (nodSz D)) ≤ _; push_cast; omega)
        unfold wh at hst hloop ⊢
        show ev 54 [.ptr 0 0, .pv (I (a : Int)), .pv (.agg [I 1, I 0, I 0, .sl 1 (bs d), .sl 5 (pvs ks)])] _ = _
        rw [canonwrite_writer_place_eq, show ((1 : Int) == 0) = false from rfl, show ((1 : Int) == 1) = true from rfl, hst]
        dsimp only [Pt0, callT_ret, callT_pan, onlyPV_v, Option.bind_some, pBool_v, pTup_v, pAgg_v, aggOf_v, pSl_v, pInt_v, pI64, pU64, pU32, pU8, List.getElem?_cons_zero, List.getElem?_cons_succ, cells_v, cells_sl, cells_agg, isCell_v, isCell_sl, cnd_t, cnd_f, tt_and, ff_and, nt_t, nt_f, len1, len3, len5, len8, len10, hlen1, clen1, clen5]
        rw [pSlu_v, ws_len, w64 (x := (W.length : Int) - a) (by omega), w64 (x := (W.length : Int) - a - 1) (by omega), eqz0]
        dsimp only [callT_ret, callT_pan, onlyPV_v, Option.bind_some, pBool_v, pTup_v, pAgg_v, aggOf_v, pSl_v, pInt_v, pI64, pU64, pU32, pU8, List.getElem?_cons_zero, List.getElem?_cons_succ, cells_v, cells_sl, cells_agg, isCell_v, isCell_sl, cnd_t, cnd_f, tt_and, ff_and, nt_t, nt_f, len1, len3, len5, len8, len10, hlen1, clen1, clen5]
        by_cases hz : d.length / 8 = 0 ∧ ks.length = 0
        · have hE := V_Encode0 (off := -1) (d := d.length / 8) (q := ks.length) (by decide) (by omega) g6
          have e1 : ptrI (.mk 1 0 0 d ks) ((W.length : Int) - a - 1) = encS (-1) (d.length / 8) ks.length := by
            show (if (1 : Int) = 0 then 0 else if (1 : Int) = 1 then (if d.length / 8 = 0 ∧ ks.length = 0 then encS (-1) 0 0 else _) else _) = _
            rw [if_neg (by decide), if_pos rfl, if_pos hz, hz.1, hz.2]
          rw [e1, show (((d.length / 8 : Nat) : Int) == 0) = true from by simp [hz.1], show ((ks.length : Int) == 0) = true from by simp [hz.2]]
          dsimp only [callT_ret, callT_pan, onlyPV_v, Option.bind_some, pBool_v, pTup_v, pAgg_v, aggOf_v, pSl_v, pInt_v, pI64, pU64, pU32, pU8, List.getElem?_cons_zero, List.getElem?_cons_succ, cells_v, cells_sl, cells_agg, isCell_v, isCell_sl, cnd_t, cnd_f, tt_and, ff_and, nt_t, nt_f, len1, len3, len5, len8, len10, hlen1, clen1, clen5]
          rw [hE]
          dsimp only [callT_ret, callT_pan, onlyPV_v, Option.bind_some, pBool_v, pTup_v, pAgg_v, aggOf_v, pSl_v, pInt_v, pI64, pU64, pU32, pU8, List.getElem?_cons_zero, List.getElem?_cons_succ, cells_v, cells_sl, cells_agg, isCell_v, isCell_sl, cnd_t, cnd_f, tt_and, ff_and, nt_t, nt_f, len1, len3, len5, len8, len10, hlen1, clen1, clen5]
          rw [decide_eq_true (show 0 ≤ (a : Int) by omega), decide_eq_true (show (a : Int) < ((ws (W ++ (wrdN (d.length / 8) d ++ List.replicate ks.length 0))).length : Int) by rw [ws_len]; omega), Int.toNat_natCast, hy0]
          dsimp only [setCells, List.length_cons, List.length_nil, callT_ret, callT_pan, onlyPV_v, Option.bind_some, pBool_v, pTup_v, pAgg_v, aggOf_v, pSl_v, pInt_v, pI64, pU64, pU32, pU8, List.getElem?_cons_zero, List.getElem?_cons_succ, cells_v, cells_sl, cells_agg, isCell_v, isCell_sl, cnd_t, cnd_f, tt_and, ff_and, nt_t, nt_f, len1, len3, len5, len8, len10, hlen1, clen1, clen5]
          rw [ws_set]
          exact hloop _ _ _ _ _ _ _ _ _ _ _
        · have hE := V_Encode0 (off := (W.length : Int) - a - 1) (d := d.length / 8) (q := ks.length) (by omega) (by omega) g6
          have e1 : ptrI (.mk 1 0 0 d ks) ((W.length : Int) - a - 1) = encS ((W.length : Int) - a - 1) (d.length / 8) ks.length := by
            show (if (1 : Int) = 0 then 0 else if (1 : Int) = 1 then (if d.length / 8 = 0 ∧ ks.length = 0 then _ else encS ((W.length : Int) - a - 1) (d.length / 8) ks.length) else _) = _
            rw [if_neg (by decide), if_pos rfl, if_neg hz]
          have e2 : ((((d.length / 8 : Nat) : Int) == 0) && ((ks.length : Int) == 0)) = false := by
            rw [Bool.and_eq_false_iff]
            by_cases h1 : d.length / 8 = 0
            · right; exact beq_eq_false_iff_ne.2 (fun h2 => hz ⟨h1, by omega⟩)
            · left; exact beq_eq_false_iff_ne.2 (fun h2 => h1 (by omega))
          rw [e1, e2]
          dsimp only [callT_ret, callT_pan, onlyPV_v, Option.bind_some, pBool_v, pTup_v, pAgg_v, aggOf_v, pSl_v, pInt_v, pI64, pU64, pU32, pU8, List.getElem?_cons_zero, List.getElem?_cons_succ, cells_v, cells_sl, cells_agg, isCell_v, isCell_sl, cnd_t, cnd_f, tt_and, ff_and, nt_t, nt_f, len1, len3, len5, len8, len10, hlen1, clen1, clen5]
          rw [hE]
          dsimp only [callT_ret, callT_pan, onlyPV_v, Option.bind_some, pBool_v, pTup_v, pAgg_v, aggOf_v, pSl_v, pInt_v, pI64, pU64, pU32, pU8, List.getElem?_cons_zero, List.getElem?_cons_succ, cells_v, cells_sl, cells_agg, isCell_v, isCell_sl, cnd_t, cnd_f, tt_and, ff_and, nt_t, nt_f, len1, len3, len5, len8, len10, hlen1, clen1, clen5]
          rw [decide_eq_true (show 0 ≤ (a : Int) by omega), decide_eq_true (show (a : Int) < ((ws (W ++ (wrdN (d.length / 8) d ++ List.replicate ks.length 0))).length : Int) by rw [ws_len]; omega), Int.toNat_natCast, hy0]
          dsimp only [setCells, List.length_cons, List.length_nil, callT_ret, callT_pan, onlyPV_v, Option.bind_some, pBool_v, pTup_v, pAgg_v, aggOf_v, pSl_v, pInt_v, pI64, pU64, pU32, pU8, List.getElem?_cons_zero, List.getElem?_cons_succ, cells_v, cells_sl, cells_agg, isCell_v, isCell_sl, cnd_t, cnd_f, tt_and, ff_and, nt_t, nt_f, len1, len3, len5, len8, len10, hlen1, clen1, clen5]
          rw [ws_set]
          exact hloop _ _ _ _ _ _ _ _ _ _ _
      · cases x with
        | mk k e n d ks =>
          obtain ⟨k2, hn, he, h6, hl6⟩ := hs
          have k2' : k = 2 := k2
          subst k2'
          have hn' : 0 ≤ n ∧ n ≤ 536870911 := hn
          have he' : 0 ≤ e ∧ e ≤ 7 := he
          have hg := h.gd
          rw [good] at hg
          by_cases e7 : e = 7
          · subst e7
            obtain ⟨a1, a2⟩ := h6 (show (6 : Int) ≤ 7 by decide)
            obtain rfl : d = [] := List.length_eq_zero_iff.1 a1
            have a2' : (ks.length : Int) = n := a2
            have hst : ∀ k ∈ ks, k.kind = 1 := by
              cases h.vn with
              | mk v1 v2 v3 => exact v2 rfl rfl
            have htr : ∀ k ∈ ks, TrN k := by
              cases h.tr with
              | mk t1 t2 => exact t2
            have hparts : ∀ k ∈ ks, (∀ x ∈ k.data, Byte x) ∧ k.data.length % 8 = 0 ∧ k.data.length ≤ 524280 ∧ k.kids.length ≤ 65535 := fun k hk => by
              obtain ⟨d, q, rfl, g1, g2, g3, g4, g5, g6⟩ := st_parts (hkk k hk) (htr k hk) (goods_iff.1 hg.2 k hk) (hst k hk)
              exact ⟨g3, g4, g5, g6⟩
            have et : tgt (.mk 2 7 n [] ks) = ks.flatMap Nd.kids := rfl
            rw [et] at hT hP hl hsn
            rw [sumL_flat] at hl hsn
            have ew : shW (.mk 2 7 n [] ks) = encS n (uniD ks) (uniP ks) :: els (uniD ks) (uniP ks) ks := rfl
            have ep : prs (.mk 2 7 n [] ks) W.length = prsC (uniD ks) (uniD ks + uniP ks) (W.length + 1) ks := rfl
            have eo : objSz (.mk 2 7 n [] ks) = 1 + n * ((uniD ks + uniP ks : Nat) : Int) := rfl
            have hnu : n * ((uniD ks + uniP ks : Nat) : Int) = ((ks.length * (uniD ks + uniP ks) : Nat) : Int) := by rw [← a2']; push_cast; rfl
            rw [eo, hnu] at hol hl
            rw [ew] at hal hWl hy0 ⊢
            rw [ep]
            have hud : uniD ks ≤ 65535 := uniD_le fun x hx => by have := (hparts x hx).2.2.1; omega
            have huq : uniP ks ≤ 65535 := uniP_le fun x hx => (hparts x hx).2.2.2
            have hkl2 : ks.length ≤ 536870911 := by omega
            have hst' := V_wcomp (W := W) (n := n) (ks := ks) hn' a2' hparts (by omega)
            have hE := V_Encode1 (off := (W.length : Int) - a - 1) (e := 7) (c := ((ks.length * (uniD ks + uniP ks) : Nat) : Int)) (by omega) (by decide) (by omega)
            have e1 : ptrI (.mk 2 7 n [] ks) ((W.length : Int) - a - 1) = encL ((W.length : Int) - a - 1) 7 ((ks.length * (uniD ks + uniP ks) : Nat) : Int) := by rw [← hnu]; rfl
            have hloop : ∀ (w : Int) (p14 : PV) (i15 : Int) (p16 p17 p18 p19 p20 p21 p22 p23 : PV), canonwrite_writer_place_L1v1 (pvs ks) (.sl 1 ((List.range ks.length).map fun j => I ((W.length + 1 + j * (uniD ks + uniP ks) + uniD ks : Nat) : Int))) ks.length 0 (ws ((W ++ (encS n (uniD ks) (uniP ks) :: els (uniD ks) (uniP ks) ks)).set a w)) 2 7 n [] (pvs ks) p14 i15 p16 p17 p18 p19 p20 p21 p22 p23 = some (.ret (.pv (.tup [])), wh (runP (body D) (prsC (uniD ks) (uniD ks + uniP ks) (W.length + 1) ks) ((W ++ (encS n (uniD ks) (uniP ks) :: els (uniD ks) (uniP ks) ks)).set a w))) := fun w p14 i15 p16 p17 p18 p19 p20 p21 p22 p23 => by
              have := L1_comp (D := D) (ks := ks) (a := uniD ks) (b := uniP ks) (s := W.length + 1) hkl2 (fun k hk => uniP_mem hk) (fun k hk t ht => hP t (List.mem_flatMap.2 ⟨k, hk, ht⟩)) (fun k hk t ht => hT t (List.mem_flatMap.2 ⟨k, hk, ht⟩)) 2 7 n [] (pvs ks) p14 i15 p16 p17 p18 p19 p20 p21 p22 p23 huq ks.length 0 ((W ++ (encS n (uniD ks) (uniP ks) :: els (uniD ks) (uniP ks) ks)).set a w) (by omega) (by rw [List.length_set, hWl]; omega) (by rw [List.length_set, hWl, List.drop_zero]; push_cast; omega)
              rw [List.drop_zero, Nat.zero_mul, Nat.add_zero] at this
              exact this
            unfold wh at hst' hloop ⊢
            show ev 54 [.ptr 0 0, .pv (I (a : Int)), .pv (.agg [I 2, I 7, I n, .sl 1 [], .sl 5 (pvs ks)])] _ = _
            rw [canonwrite_writer_place_eq, show ((2 : Int) == 0) = false from rfl, show ((2 : Int) == 1) = false from rfl, show ((7 : Int) == 7) = true from rfl, hst']
            dsimp only [Pt1, callT_ret, callT_pan, onlyPV_v, Option.bind_some, pBool_v, pTup_v, pAgg_v, aggOf_v, pSl_v, pInt_v, pI64, pU64, pU32, pU8, List.getElem?_cons_zero, List.getElem?_cons_succ, cells_v, cells_sl, cells_agg, isCell_v, isCell_sl, cnd_t, cnd_f, tt_and, ff_and, nt_t, nt_f, len1, len3, len5, len8, len10, hlen1, clen1, clen5]
            rw [pSlu_v, ws_len, w64 (x := (W.length : Int) - a) (by omega), w64 (x := (W.length : Int) - a - 1) (by omega), eqz1]
            dsimp only [callT_ret, callT_pan, onlyPV_v, Option.bind_some, pBool_v, pTup_v, pAgg_v, aggOf_v, pSl_v, pInt_v, pI64, pU64, pU32, pU8, List.getElem?_cons_zero, List.getElem?_cons_succ, cells_v, cells_sl, cells_agg, isCell_v, isCell_sl, cnd_t, cnd_f, tt_and, ff_and, nt_t, nt_f, len1, len3, len5, len8, len10, hlen1, clen1, clen5]
            rw [e1, hnu, hE]
            dsimp only [callT_ret, callT_pan, onlyPV_v, Option.bind_some, pBool_v, pTup_v, pAgg_v, aggOf_v, pSl_v, pInt_v, pI64, pU64, pU32, pU8, List.getElem?_cons_zero, List.getElem?_cons_succ, cells_v, cells_sl, cells_agg, isCell_v, isCell_sl, cnd_t, cnd_f, tt_and, ff_and, nt_t, nt_f, len1, len3, len5, len8, len10, hlen1, clen1, clen5]
            rw [decide_eq_true (show 0 ≤ (a : Int) by omega), decide_eq_true (show (a : Int) < ((ws (W ++ (encS n (uniD ks) (uniP ks) :: els (uniD ks) (uniP ks) ks))).length : Int) by rw [ws_len]; omega), Int.toNat_natCast, hy0]
            dsimp only [setCells, List.length_cons, List.length_nil, callT_ret, callT_pan, onlyPV_v, Option.bind_some, pBool_v, pTup_v, pAgg_v, aggOf_v, pSl_v, pInt_v, pI64, pU64, pU32, pU8, List.getElem?_cons_zero, List.getElem?_cons_succ, cells_v, cells_sl, cells_agg, isCell_v, isCell_sl, cnd_t, cnd_f, tt_and, ff_and, nt_t, nt_f, len1, len3, len5, len8, len10, hlen1, clen1, clen5]
            rw [ws_set, List.length_map, List.length_range]
            exact hloop _ _ _ _ _ _ _ _ _ _ _
          · have et : tgt (.mk 2 e n d ks) = ks := by
              show (if (2 : Int) = 2 ∧ e = 7 then _ else ks) = _
              rw [if_neg (fun h => e7 h.2)]
            have eo : objSz (.mk 2 e n d ks) = wordsOf e n := by
              unfold objSz
              show (if (2 : Int) = 0 then 0 else if (2 : Int) = 1 then _ else if e = 7 then _ else wordsOf e n) = _
              rw [if_neg (by decide), if_neg (by decide), if_neg e7]
            rw [et] at hT hP hl hsn
            have ep : prs (.mk 2 e n d ks) W.length = prsS W.length ks := by
              show (if (2 : Int) = 1 then _ else if e = 7 then _ else prsS W.length ks) = _
              rw [if_neg (by decide), if_neg e7]
            have e1 : ptrI (.mk 2 e n d ks) ((W.length : Int) - a - 1) = encL ((W.length : Int) - a - 1) e n := by
              show (if (2 : Int) = 0 then 0 else if (2 : Int) = 1 then _ else if e = 7 then _ else encL ((W.length : Int) - a - 1) e n) = _
              rw [if_neg (by decide), if_neg (by decide), if_neg e7]
            have hE := V_Encode1 (off := (W.length : Int) - a - 1) (e := e) (c := n) (by omega) he' hn'
            rw [ep, e1]
            rw [eo] at hol hl
            by_cases e6 : e = 6
            · subst e6
              obtain ⟨a1, a2⟩ := h6 (show (6 : Int) ≤ 6 by decide)
              obtain rfl : d = [] := List.length_eq_zero_iff.1 a1
              have a2' : (ks.length : Int) = n := a2
              have hw6 : wordsOf 6 n = n := by unfold wordsOf bitsOf; simp; omega
              rw [hw6] at hol hl
              have ew : shW (.mk 2 6 n [] ks) = List.replicate ks.length 0 := rfl
              rw [ew] at hal hWl hy0 ⊢
              have hst' := V_wlist6 (W := W) (ks := ks) (n := ks.length) (by omega) (by omega) (bs [])
              rw [a2'] at hst'
              have hloop : ∀ (w : Int) (p14 : PV) (i15 : Int) (p16 p17 p18 p19 p20 p21 p22 p23 : PV), canonwrite_writer_place_L1 [.agg [I 2, I 6, I n, .sl 1 (bs []), .sl 5 (pvs ks)]] (.sl 1 [I (W.length : Int)]) 1 0 (ws ((W ++ List.replicate ks.length 0).set a w)) 2 6 n (bs []) (pvs ks) p14 i15 p16 p17 p18 p19 p20 p21 p22 p23 = some (.ret (.pv (.tup [])), wh (runP (body D) (prsS W.length ks) ((W ++ List.replicate ks.length 0).set a w))) := fun w p14 i15 p16 p17 p18 p19 p20 p21 p22 p23 =>
                L1_one (x := .mk 2 6 n [] ks) (by show ks.length ≤ _; omega) hP hT 2 6 n (bs []) (pvs ks) p14 i15 p16 p17 p18 p19 p20 p21 p22 p23 (by rw [List.length_set, hWl]; show _ + ks.length ≤ _; omega) (by rw [List.length_set, hWl]; show _ + sumL (ks.map (nodSz D)) ≤ _; push_cast; omega)
              unfold wh at hst' hloop ⊢
              show ev 54 [.ptr 0 0, .pv (I (a : Int)), .pv (.agg [I 2, I 6, I n, .sl 1 (bs []), .sl 5 (pvs ks)])] _ = _
              rw [canonwrite_writer_place_eq, show ((2 : Int) == 0) = false from rfl, show ((2 : Int) == 1) = false from rfl, show ((6 : Int) == 7) = false from rfl, hst']
              dsimp only [Pt1, callT_ret, callT_pan, onlyPV_v, Option.bind_some, pBool_v, pTup_v, pAgg_v, aggOf_v, pSl_v, pInt_v, pI64, pU64, pU32, pU8, List.getElem?_cons_zero, List.getElem?_cons_succ, cells_v, cells_sl, cells_agg, isCell_v, isCell_sl, cnd_t, cnd_f, tt_and, ff_and, nt_t, nt_f, len1, len3, len5, len8, len10, hlen1, clen1, clen5]
              rw [pSlu_v, ws_len, w64 (x := (W.length : Int) - a) (by omega), w64 (x := (W.length : Int) - a - 1) (by omega), eqz1]
              dsimp only [callT_ret, callT_pan, onlyPV_v, Option.bind_some, pBool_v, pTup_v, pAgg_v, aggOf_v, pSl_v, pInt_v, pI64, pU64, pU32, pU8, List.getElem?_cons_zero, List.getElem?_cons_succ, cells_v, cells_sl, cells_agg, isCell_v, isCell_sl, cnd_t, cnd_f, tt_and, ff_and, nt_t, nt_f, len1, len3, len5, len8, len10, hlen1, clen1, clen5]
              rw [hE]
              dsimp only [callT_ret, callT_pan, onlyPV_v, Option.bind_some, pBool_v, pTup_v, pAgg_v, aggOf_v, pSl_v, pInt_v, pI64, pU64, pU32, pU8, List.getElem?_cons_zero, List.getElem?_cons_succ, cells_v, cells_sl, cells_agg, isCell_v, isCell_sl, cnd_t, cnd_f, tt_and, ff_and, nt_t, nt_f, len1, len3, len5, len8, len10, hlen1, clen1, clen5]
              rw [decide_eq_true (show 0 ≤ (a : Int) by omega), decide_eq_true (show (a : Int) < ((ws (W ++ List.replicate ks.length 0)).length : Int) by rw [ws_len]; omega), Int.toNat_natCast, hy0]
              dsimp only [setCells, List.length_cons, List.length_nil, callT_ret, callT_pan, onlyPV_v, Option.bind_some, pBool_v, pTup_v, pAgg_v, aggOf_v, pSl_v, pInt_v, pI64, pU64, pU32, pU8, List.getElem?_cons_zero, List.getElem?_cons_succ, cells_v, cells_sl, cells_agg, isCell_v, isCell_sl, cnd_t, cnd_f, tt_and, ff_and, nt_t, nt_f, len1, len3, len5, len8, len10, hlen1, clen1, clen5]
              rw [ws_set]
              exact hloop _ _ _ _ _ _ _ _ _ _ _
            · obtain ⟨b1, b2, b3⟩ := hl6 (show e < 6 by omega)
              obtain rfl : ks = [] := List.length_eq_zero_iff.1 b1
              have b2' : (d.length : Int) = bytesN e n := b2
              have hwr := wordsOf_range (e := e) hn'
              have ew : shW (.mk 2 e n d []) = wrdN (wordsOf e n).toNat d := by
                show (if (2 : Int) = 1 then _ else if e = 7 then _ else if e = 6 then _ else wrdN (wordsOf e n).toNat d) = _
                rw [if_neg (by decide), if_neg e7, if_neg e6]
              rw [ew] at hal hWl hy0 ⊢
              have hO := V_Object13 h.gd h.vn (by rw [eo]; omega) (by show 0 + 0 ≤ _; decide)
              rw [eo] at hO
              have hst' := V_wlist (W := W) (ks := []) ⟨he'.1, by omega⟩ hn' hg.1.2.1 b2' (by simp only [List.map_nil, sumL_nil] at hl; omega) (by omega) hO
              unfold wh at hst' ⊢
              show ev 54 [.ptr 0 0, .pv (I (a : Int)), .pv (.agg [I 2, I e, I n, .sl 1 (bs d), .sl 5 (pvs [])])] _ = _
              rw [canonwrite_writer_place_eq, show ((2 : Int) == 0) = false from rfl, show ((2 : Int) == 1) = false from rfl, beq_eq_false_iff_ne.2 e7, hst']
              dsimp only [Pt1, callT_ret, callT_pan, onlyPV_v, Option.bind_some, pBool_v, pTup_v, pAgg_v, aggOf_v, pSl_v, pInt_v, pI64, pU64, pU32, pU8, List.getElem?_cons_zero, List.getElem?_cons_succ, cells_v, cells_sl, cells_agg, isCell_v, isCell_sl, cnd_t, cnd_f, tt_and, ff_and, nt_t, nt_f, len1, len3, len5, len8, len10, hlen1, clen1, clen5]
              rw [pSlu_v, ws_len, w64 (x := (W.length : Int) - a) (by omega), w64 (x := (W.length : Int) - a - 1) (by omega), eqz1]
              dsimp only [callT_ret, callT_pan, onlyPV_v, Option.bind_some, pBool_v, pTup_v, pAgg_v, aggOf_v, pSl_v, pInt_v, pI64, pU64, pU32, pU8, List.getElem?_cons_zero, List.getElem?_cons_succ, cells_v, cells_sl, cells_agg, isCell_v, isCell_sl, cnd_t, cnd_f, tt_and, ff_and, nt_t, nt_f, len1, len3, len5, len8, len10, hlen1, clen1, clen5]
              rw [hE]
              dsimp only [callT_ret, callT_pan, onlyPV_v, Option.bind_some, pBool_v, pTup_v, pAgg_v, aggOf_v, pSl_v, pInt_v, pI64, pU64, pU32, pU8, List.getElem?_cons_zero, List.getElem?_cons_succ, cells_v, cells_sl, cells_agg, isCell_v, isCell_sl, cnd_t, cnd_f, tt_and, ff_and, nt_t, nt_f, len1, len3, len5, len8, len10, hlen1, clen1, clen5]
              rw [decide_eq_true (show 0 ≤ (a : Int) by omega), decide_eq_true (show (a : Int) < ((ws (W ++ wrdN (wordsOf e n).toNat d)).length : Int) by rw [ws_len]; omega), Int.toNat_natCast, hy0]
              dsimp only [setCells, List.length_cons, List.length_nil, callT_ret, callT_pan, onlyPV_v, Option.bind_some, pBool_v, pTup_v, pAgg_v, aggOf_v, pSl_v, pInt_v, pI64, pU64, pU32, pU8, List.getElem?_cons_zero, List.getElem?_cons_succ, cells_v, cells_sl, cells_agg, isCell_v, isCell_sl, cnd_t, cnd_f, tt_and, ff_and, nt_t, nt_f, len1, len3, len5, len8, len10, hlen1, clen1, clen5]
              rw [ws_set, canonwrite_writer_place_L1_eq, decide_eq_false (by decide)]
              rfl
theorem unit_ok (D : Nat) (x : Nd) : placeP (body D) 0 x [0] = canW D x := by
  unfold placeP canW
  by_cases h0 : x.kind = 0
  · rw [if_pos h0, ptrI_null h0, body_null D x h0]
  · rw [if_neg h0]
    rfl
theorem V_Write {D : Nat} {x : Nd} (h : Ok D x) (hb : nodSz D x ≤ 134217728) : ev 33 [.pv x.x] [] = some (.ret (.slu 48 1 (ws (canW D x))), []) := by
  have h1 := V_Total13 h.gd h.vn h.dp (by omega)
  have hn := nodSz_nn D h.vn
  have h2 := place_ok D x h [0] 0 (by decide) (by simp; omega)
  rw [unit_ok] at h2
  unfold wh at h2
  dsimp only [Nd.x] at h1 h2
  rw [Nd.x, canonwrite_Write_eq, h1]
  dsimp only [callT_ret, callT_pan, onlyPV_v, Option.bind_some, pBool_v, pTup_v, pAgg_v, aggOf_v, pSl_v, pInt_v, pI64, pU64, pU32, pU8, List.getElem?_cons_zero, List.getElem?_cons_succ, cells_v, cells_sl, cells_agg, isCell_v, isCell_sl, cnd_t, cnd_f, tt_and, ff_and, nt_t, nt_f, len1, len3, len5, len8, len10, hlen1, clen1, clen5]
  rw [decide_eq_true (show 1 ≤ nodSz D x + 1 by omega), decide_eq_true (show nodSz D x + 1 ≤ 140737488355328 by omega), roomy_ok (by omega) (by omega)]
  dsimp only [callT_ret, callT_pan, onlyPV_v, Option.bind_some, pBool_v, pTup_v, pAgg_v, aggOf_v, pSl_v, pInt_v, pI64, pU64, pU32, pU8, List.getElem?_cons_zero, List.getElem?_cons_succ, cells_v, cells_sl, cells_agg, isCell_v, isCell_sl, cnd_t, cnd_f, tt_and, ff_and, nt_t, nt_f, len1, len3, len5, len8, len10, hlen1, clen1, clen5]
  rw [show ev 54 [.ptr 0 0, .pv (I 0), .pv (.agg [I x.kind, I x.elem, I x.n, .sl 1 (bs x.data), .sl 5 (pvs x.kids)])] [[.slu 48 1 [U 0]]] = _ from h2]
  dsimp only [callT_ret, callT_pan, onlyPV_v, Option.bind_some, pBool_v, pTup_v, pAgg_v, aggOf_v, pSl_v, pInt_v, pI64, pU64, pU32, pU8, List.getElem?_cons_zero, List.getElem?_cons_succ, cells_v, cells_sl, cells_agg, isCell_v, isCell_sl, cnd_t, cnd_f, tt_and, ff_and, nt_t, nt_f, len1, len3, len5, len8, len10, hlen1, clen1, clen5]
  rw [pSlu_v]
  rfl
end Go.Proofs.YtfljialckkgacaaGreatDoor.E
set_option linter.unusedVariables false
set_option linter.unusedSimpArgs false
namespace Go.Proofs.YtfljialckkgacaaGreatDoor.E
/-! The reference's canonical writer: what an object looks like. -/
theorem rUni_loop {l : List Nd} (hl : l.length ≤ 1073741824) (hd : ∀ x ∈ l, x.data.length ≤ 17592186044416) (a b c : Int) (x : List PV) : ∀ (c0 i : Nat), i + c0 = l.length → capnpref11_Uniform_L0 (uniD (l.take i) : Nat) (uniP (l.take i) : Nat) i a b c x (pvs l) = ok (.tup [I (uniD l : Nat), I (uniP l : Nat)]) := by
  intro c0
  induction c0 with
  | zero =>
    intro i hi
    rw [capnpref11_Uniform_L0_eq, decide_eq_false (by simp; omega), List.take_of_length_le (by omega)]
    rfl
  | succ c0 ih =>
    intro i hi
    have hil : i < l.length := by omega
    have hdi := hd _ (List.getElem_mem hil)
    have e1 : uniD (l.take (i + 1)) = max (uniD (l.take i)) (l[i].data.length / 8) := by rw [take_snoc hil, uniD_snoc]
    have e2 : uniP (l.take (i + 1)) = max (uniP (l.take i)) l[i].kids.length := by rw [take_snoc hil, uniP_snoc]
    have hih := ih (i + 1) (by omega)
    rw [capnpref11_Uniform_L0_eq, decide_eq_true (show (i : Int) < ((pvs l).length : Int) by simp; omega), decide_eq_true (show 0 ≤ (i : Int) by omega)]
    dsimp only [callT_ret, callT_pan, onlyPV_v, Option.bind_some, pBool_v, pTup_v, pAgg_v, aggOf_v, pSl_v, pInt_v, pI64, pU64, pU32, pU8, List.getElem?_cons_zero, List.getElem?_cons_succ, cells_v, cells_sl, cells_agg, isCell_v, isCell_sl, cnd_t, cnd_f, tt_and, ff_and, nt_t, nt_f, len1, len3, len5, len8, len10, hlen1, clen1, clen5]
    rw [Int.toNat_natCast, pvs_get hil]
    dsimp only [callT_ret, callT_pan, onlyPV_v, Option.bind_some, pBool_v, pTup_v, pAgg_v, aggOf_v, pSl_v, pInt_v, pI64, pU64, pU32, pU8, List.getElem?_cons_zero, List.getElem?_cons_succ, cells_v, cells_sl, cells_agg, isCell_v, isCell_sl, cnd_t, cnd_f, tt_and, ff_and, nt_t, nt_f, len1, len3, len5, len8, len10, hlen1, clen1, clen5]
    rw [nd_cells]
    dsimp only [Nd.c, callT_ret, callT_pan, onlyPV_v, Option.bind_some, pBool_v, pTup_v, pAgg_v, aggOf_v, pSl_v, pInt_v, pI64, pU64, pU32, pU8, List.getElem?_cons_zero, List.getElem?_cons_succ, cells_v, cells_sl, cells_agg, isCell_v, isCell_sl, cnd_t, cnd_f, tt_and, ff_and, nt_t, nt_f, len1, len3, len5, len8, len10, hlen1, clen1, clen5]
    rw [bs_len, pvs_len, Int.tdiv_eq_ediv_of_nonneg (by omega), w64 (x := (l[i].data.length : Int) / 8) (by omega), w64 (x := (i : Int) + 1) (by omega)]
    by_cases g1 : (l[i].data.length : Int) / 8 > ((uniD (l.take i) : Nat) : Int)
    · have f1 : (l[i].data.length : Int) / 8 = ((uniD (l.take (i + 1)) : Nat) : Int) := by omega
      rw [decide_eq_true g1]
      by_cases g2 : (l[i].kids.length : Int) > ((uniP (l.take i) : Nat) : Int)
      · have f2 : (l[i].kids.length : Int) = ((uniP (l.take (i + 1)) : Nat) : Int) := by omega
        rw [decide_eq_true g2, f1, f2]
        exact hih
      · have f2 : ((uniP (l.take i) : Nat) : Int) = ((uniP (l.take (i + 1)) : Nat) : Int) := by omega
        rw [decide_eq_false g2, f1, f2]
        exact hih
    · have f1 : ((uniD (l.take i) : Nat) : Int) = ((uniD (l.take (i + 1)) : Nat) : Int) := by omega
      rw [decide_eq_false g1]
      by_cases g2 : (l[i].kids.length : Int) > ((uniP (l.take i) : Nat) : Int)
      · have f2 : (l[i].kids.length : Int) = ((uniP (l.take (i + 1)) : Nat) : Int) := by omega
        rw [decide_eq_true g2, f1, f2]
        exact hih
      · have f2 : ((uniP (l.take i) : Nat) : Int) = ((uniP (l.take (i + 1)) : Nat) : Int) := by omega
        rw [decide_eq_false g2, f1, f2]
        exact hih
theorem V_rUniform {x : Nd} (hl : x.kids.length ≤ 1073741824) (hd : ∀ y ∈ x.kids, y.data.length ≤ 17592186044416) : ev 65 [.pv x.x] [] = ok (.tup [I (uniD x.kids : Nat), I (uniP x.kids : Nat)]) := by
  rw [Nd.x, capnpref11_Uniform_eq]
  exact rUni_loop hl hd x.kind x.elem x.n (bs x.data) x.kids.length 0 (by omega)
theorem V_rObj13 {x : Nd} (hg : good x) (hv : VN x) (hb : objSz x ≤ 4611686018427387904) (hu : uniD x.kids + uniP x.kids ≤ 4611686018427387904) : ev 43 [.pv x.x] [] = ok (I (objSz x)) := by
  obtain ⟨hd, hk, hks⟩ := good_len hg
  obtain ⟨hs, _⟩ := vn_shp hv
  have hun := V_rUniform hk (fun y hy => (good_len (hks y hy)).1)
  rw [Nd.x] at hun ⊢
  rw [capnpref13_Object_eq, bs_len, pvs_len]
  unfold objSz at hb ⊢
  rcases hs with hs | hs | hs
  · rw [beq_iff_eq.2 hs.1, if_pos hs.1]; rfl
  · rw [beq_eq_false_iff_ne.2 (show x.kind ≠ 0 by omega), beq_iff_eq.2 hs.1, if_neg (by omega), if_pos hs.1]
    dsimp only [callT_ret, callT_pan, onlyPV_v, Option.bind_some, pBool_v, pTup_v, pAgg_v, aggOf_v, pSl_v, pInt_v, pI64, pU64, pU32, pU8, List.getElem?_cons_zero, List.getElem?_cons_succ, cells_v, cells_sl, cells_agg, isCell_v, isCell_sl, cnd_t, cnd_f, tt_and, ff_and, nt_t, nt_f, len1, len3, len5, len8, len10, hlen1, clen1, clen5]
    rw [Int.tdiv_eq_ediv_of_nonneg (by omega), w64 (x := (x.data.length : Int) / 8) (by omega), w64 (by omega)]
    rw [show (x.data.length : Int) / 8 + (x.kids.length : Int) = ((x.data.length / 8 + x.kids.length : Nat) : Int) by omega]
  · rw [if_neg (by omega), if_neg (by omega)] at hb ⊢
    rw [beq_eq_false_iff_ne.2 (show x.kind ≠ 0 by omega), beq_eq_false_iff_ne.2 (show x.kind ≠ 1 by omega)]
    dsimp only [callT_ret, callT_pan, onlyPV_v, Option.bind_some, pBool_v, pTup_v, pAgg_v, aggOf_v, pSl_v, pInt_v, pI64, pU64, pU32, pU8, List.getElem?_cons_zero, List.getElem?_cons_succ, cells_v, cells_sl, cells_agg, isCell_v, isCell_sl, cnd_t, cnd_f, tt_and, ff_and, nt_t, nt_f, len1, len3, len5, len8, len10, hlen1, clen1, clen5]
    by_cases h7 : x.elem = 7
    · rw [if_pos h7] at hb ⊢
      rw [beq_iff_eq.2 h7]
      dsimp only [callT_ret, callT_pan, onlyPV_v, Option.bind_some, pBool_v, pTup_v, pAgg_v, aggOf_v, pSl_v, pInt_v, pI64, pU64, pU32, pU8, List.getElem?_cons_zero, List.getElem?_cons_succ, cells_v, cells_sl, cells_agg, isCell_v, isCell_sl, cnd_t, cnd_f, tt_and, ff_and, nt_t, nt_f, len1, len3, len5, len8, len10, hlen1, clen1, clen5]
      rw [hun]
      have hm := Int.mul_nonneg hs.2.1.1 (Int.natCast_nonneg (uniD x.kids + uniP x.kids))
      dsimp only [callT_ret, callT_pan, onlyPV_v, Option.bind_some, pBool_v, pTup_v, pAgg_v, aggOf_v, pSl_v, pInt_v, pI64, pU64, pU32, pU8, List.getElem?_cons_zero, List.getElem?_cons_succ, cells_v, cells_sl, cells_agg, isCell_v, isCell_sl, cnd_t, cnd_f, tt_and, ff_and, nt_t, nt_f, len1, len3, len5, len8, len10, hlen1, clen1, clen5]
      rw [w64 (x := ((uniD x.kids : Nat) : Int) + ((uniP x.kids : Nat) : Int)) (by omega), show ((uniD x.kids : Nat) : Int) + ((uniP x.kids : Nat) : Int) = ((uniD x.kids + uniP x.kids : Nat) : Int) by push_cast; rfl, w64 (x := x.n * ((uniD x.kids + uniP x.kids : Nat) : Int)) (by omega), w64 (by omega)]
    · rw [if_neg h7]
      rw [beq_eq_false_iff_ne.2 h7, V_rWords hs.2.1]
      rfl
@[simp] theorem prsS_len : ∀ (q : List Nd) (i : Nat), (prsS i q).length = q.length
  | [], i => rfl
  | t :: r, i => by rw [prsS, List.length_cons, List.length_cons, prsS_len r]
section
variable (i3 i4 i5 : Int) (xs6 xs7 : List PV) (i8 i9 i10 i11 i12 i13 : Int) (b14 : Bool) (i15 i16 i17 i18 i19 i20 i22 i23 : Int) (b24 : Bool) (i25 i26 i27 : Int)
end
section
variable (i5 i6 i7 : Int) (xs8 : List PV) (i10 i11 i12 i13 i14 i15 : Int) (b16 : Bool) (i17 i18 i19 i20 i21 i22 i23 i24 i25 : Int) (b26 : Bool) (i27 i28 i29 : Int)
end
end Go.Proofs.YtfljialckkgacaaGreatDoor.E
set_option linter.unusedVariables false
set_option linter.unusedSimpArgs false
namespace Go.Proofs.YtfljialckkgacaaGreatDoor.E
/-! The size of a denotation, and its cost. -/
theorem msg_ok {l : List (List Int)} (hl : Segs l) (hs : Sm l) {d w : Int} (hw : w ≤ 4611686018427387904) (h0 : (runT l d w).2.2 = 0) : Ok d.toNat (msgN l d w) ∧ cstN d.toNat (msgN l d w) ≤ meaC l d w := by
  obtain ⟨a1, a2⟩ := runT_okd hl hs h0
  have hg := (runT_ok hl hs (d := d) (w := w) hw).2
  unfold msgN meaC
  rw [if_pos h0, if_pos h0]
  refine ⟨⟨vn_trim _ a1, tr_trim _ hg, good_trim _ hg, dp_trim _ _ a2⟩, ?_⟩
  unfold runT at h0 ⊢
  split
  · rw [trimN0]
    cases d.toNat with
    | zero => show (0 : Int) ≤ max w 0 - max w 0; omega
    | succ D =>
      rw [cstN]
      show (if (0 : Int) = 0 then (0 : Int) else _) ≤ max w 0 - max w 0
      rw [if_pos rfl]
      omega
  · rename_i he
    rw [if_neg he] at h0
    exact (den_cst hl hs _ _ _ _ h0).1
end Go.Proofs.YtfljialckkgacaaGreatDoor.E
set_option linter.unusedVariables false
set_option linter.unusedSimpArgs false
namespace Go.Proofs.YtfljialckkgacaaGreatDoor.E
/-! The canonical form as a message. -/
theorem encS_word {off : Int} {d q : Nat} (hd : d ≤ 65535) (hq : q ≤ 65535) : Word (encS off d q) := by
  have hm := Int.emod_nonneg off (show (1073741824 : Int) ≠ 0 by decide)
  have hl := Int.emod_lt_of_pos off (show (0 : Int) < 1073741824 by decide)
  exact ⟨by unfold encS; omega, by unfold encS; omega⟩
theorem encL_word {off e c : Int} (he : 0 ≤ e ∧ e ≤ 7) (hc : 0 ≤ c ∧ c ≤ 536870911) : Word (encL off e c) := by
  have hm := Int.emod_nonneg off (show (1073741824 : Int) ≠ 0 by decide)
  have hl := Int.emod_lt_of_pos off (show (0 : Int) < 1073741824 by decide)
  exact ⟨by unfold encL; omega, by unfold encL; omega⟩
theorem word0 : Word 0 := ⟨by decide, by decide⟩
theorem nodSz_obj {D : Nat} {x : Nd} (hv : VN x) : objSz x ≤ nodSz D x := by
  cases D with
  | zero => exact Int.le_refl _
  | succ D =>
    rw [nodSz]
    have : 0 ≤ sumL ((tgt x).map (nodSz D)) := sumL_nn fun y hy => by
      obtain ⟨t, ht, rfl⟩ := List.mem_map.1 hy
      exact nodSz_nn D (vn_tgt hv t ht)
    omega
theorem ptr_word {D : Nat} {t : Nd} (h : Ok D t) (hb : nodSz D t ≤ 268435456) (off : Int) : Word (ptrI t off) := by
  obtain ⟨hs, hk⟩ := vn_shp h.vn
  have hob := nodSz_obj (D := D) h.vn
  unfold ptrI
  by_cases h0 : t.kind = 0
  · rw [if_pos h0]; exact word0
  · rw [if_neg h0]
    by_cases h1 : t.kind = 1
    · obtain ⟨d, q, rfl, g1, g2, g3, g4, g5, g6⟩ := st_parts h.vn h.tr h.gd h1
      rw [if_pos h1]
      split
      · exact encS_word (by omega) (by omega)
      · exact encS_word (by show d.length / 8 ≤ _; omega) g6
    · rw [if_neg h1]
      have hs2 : t.kind = 2 ∧ _ := (hs.resolve_left (fun h => h0 h.1)).resolve_left (fun h => h1 h.1)
      by_cases h7 : t.elem = 7
      · rw [if_pos h7]
        unfold objSz at hob
        rw [if_neg h0, if_neg h1, if_pos h7] at hob
        have := Int.mul_nonneg hs2.2.1.1 (Int.natCast_nonneg (uni t))
        unfold uni at this ⊢
        exact encL_word (by decide) (by omega)
      · rw [if_neg h7]
        exact encL_word hs2.2.2.1 hs2.2.1
theorem ptrW_word {B : Nd → List Int} : ∀ (l : List Nd) (i p : Nat), (∀ t ∈ l, ∀ off, Word (ptrI t off)) → ∀ w ∈ ptrW B i p l, Word w
  | [], i, p, h, w, hw => by cases hw
  | t :: r, i, p, h, w, hw => by
    rw [ptrW] at hw
    rcases List.mem_cons.1 hw with rfl | hw
    · exact h t List.mem_cons_self _
    · exact ptrW_word r _ _ (fun t ht => h t (List.mem_cons_of_mem _ ht)) w hw
theorem asmC_word {B : Nd → List Int} {a b : Nat} : ∀ (l : List Nd) (i p : Nat), (∀ k ∈ l, (∀ x ∈ k.data, Byte x) ∧ ∀ t ∈ k.kids, ∀ off, Word (ptrI t off)) → ∀ w ∈ asmC B a b i p l, Word w
  | [], i, p, h, w, hw => by cases hw
  | k :: r, i, p, h, w, hw => by
    rw [asmC] at hw
    obtain ⟨h1, h2⟩ := h k List.mem_cons_self
    rcases List.mem_append.1 hw with hw | hw
    · rcases List.mem_append.1 hw with hw | hw
      · exact wrdN_word _ h1 w hw
      · rcases List.mem_append.1 hw with hw | hw
        · exact ptrW_word _ _ _ h2 w hw
        · rw [(List.mem_replicate.1 hw).2]; exact word0
    · exact asmC_word r _ _ (fun t ht => h t (List.mem_cons_of_mem _ ht)) w hw
theorem sumL_mem {f : Nd → Int} : ∀ {l : List Nd}, (∀ t ∈ l, 0 ≤ f t) → ∀ t ∈ l, f t ≤ sumL (l.map f)
  | [], h, t, ht => by cases ht
  | x :: l, h, t, ht => by
    rw [List.map_cons, sumL_cons]
    have h0 := h x List.mem_cons_self
    have hr : 0 ≤ sumL (l.map f) := sumL_nn fun y hy => by
      obtain ⟨z, hz, rfl⟩ := List.mem_map.1 hy
      exact h z (List.mem_cons_of_mem _ hz)
    rcases List.mem_cons.1 ht with rfl | ht
    · omega
    · have := sumL_mem (fun z hz => h z (List.mem_cons_of_mem _ hz)) t ht; omega
theorem body_word : ∀ (D : Nat) (x : Nd), Ok D x → nodSz D x ≤ 268435456 → ∀ w ∈ body D x, Word w
  | 0, x, h, hb, w, hw => by cases hw
  | D + 1, x, h, hb, w, hw => by
    rw [body] at hw
    by_cases h0 : x.kind = 0
    · rw [if_pos h0] at hw; cases hw
    · rw [if_neg h0] at hw
      rw [nodSz] at hb
      have hT := ok_tgt h h0
      have hon := objSz_nn h.vn
      have hTb : ∀ t ∈ tgt x, nodSz D t ≤ 268435456 := fun t ht => by
        have := sumL_mem (f := nodSz D) (fun t ht => nodSz_nn D (hT t ht).vn) t ht
        omega
      have hP : ∀ t ∈ tgt x, ∀ off, Word (ptrI t off) := fun t ht => ptr_word (hT t ht) (hTb t ht)
      obtain ⟨hs, hkk⟩ := vn_shp h.vn
      rcases List.mem_append.1 hw with hw | hw
      · unfold obW at hw
        by_cases h1 : x.kind = 1
        · obtain ⟨d, q, rfl, g1, g2, g3, g4, g5, g6⟩ := st_parts h.vn h.tr h.gd h1
          rw [if_pos h1] at hw
          rcases List.mem_append.1 hw with hw | hw
          · exact wrdN_word _ g3 w hw
          · exact ptrW_word _ _ _ hP w hw
        · have hs2 := (hs.resolve_left (fun h => h0 h.1)).resolve_left (fun h => h1 h.1)
          rw [if_neg h1] at hw
          cases x with
          | mk k e n d ks =>
            have hg := h.gd
            rw [good] at hg
            obtain ⟨k2, hn, he, h6, hl6⟩ := hs2
            have k2' : k = 2 := k2
            subst k2'
            have hn' : 0 ≤ n ∧ n ≤ 536870911 := hn
            by_cases e7 : e = 7
            · subst e7
              have hw : w ∈ encS n (uniD ks) (uniP ks) :: asmC (body D) (uniD ks) (uniP ks) 1 (1 + ks.length * uni (.mk 2 7 n d ks)) ks := hw
              have hst : ∀ k ∈ ks, k.kind = 1 := by
                cases h.vn with
                | mk v1 v2 v3 => exact v2 rfl rfl
              have htr : ∀ k ∈ ks, TrN k := by
                cases h.tr with
                | mk t1 t2 => exact t2
              have hparts : ∀ k ∈ ks, (∀ x ∈ k.data, Byte x) ∧ k.data.length % 8 = 0 ∧ k.data.length ≤ 524280 ∧ k.kids.length ≤ 65535 := fun k hk => by
                obtain ⟨d, q, rfl, g1, g2, g3, g4, g5, g6⟩ := st_parts (hkk k hk) (htr k hk) (goods_iff.1 hg.2 k hk) (hst k hk)
                exact ⟨g3, g4, g5, g6⟩
              rcases List.mem_cons.1 hw with rfl | hw
              · exact encS_word (uniD_le fun x hx => by have := (hparts x hx).2.2.1; omega) (uniP_le fun x hx => (hparts x hx).2.2.2)
              · exact asmC_word ks _ _ (fun k hk => ⟨(hparts k hk).1, fun t ht => hP t (List.mem_flatMap.2 ⟨k, hk, ht⟩)⟩) w hw
            · have et : tgt (.mk 2 e n d ks) = ks := by
                show (if (2 : Int) = 2 ∧ e = 7 then _ else ks) = _
                rw [if_neg (fun h => e7 h.2)]
              rw [et] at hP
              rw [if_neg (show ¬ (Nd.mk 2 e n d ks).elem = 7 from e7)] at hw
              split at hw
              · exact ptrW_word _ _ _ hP w hw
              · exact wrdN_word _ hg.1.2.1 w hw
      · obtain ⟨t, ht, hw⟩ := List.mem_flatMap.1 hw
        exact body_word D t (hT t ht) (hTb t ht) w hw
theorem canW_word {D : Nat} {x : Nd} (h : Ok D x) (hb : nodSz D x ≤ 268435456) : ∀ w ∈ canW D x, Word w := fun w hw => by
  rcases List.mem_cons.1 hw with rfl | hw
  · exact ptr_word h hb 0
  · exact body_word D x h hb w hw
theorem canW_len {D : Nat} {x : Nd} (h : Ok D x) : ((canW D x).length : Int) = nodSz D x + 1 := by
  rw [canW, List.length_cons, ← body_len' h]; push_cast; rfl
theorem canW_segs {D : Nat} {x : Nd} (h : Ok D x) (hb : nodSz D x ≤ 268435456) : Segs [canW D x] := by
  have := canW_len h
  refine ⟨by rw [List.length_singleton]; decide, fun s hs => ?_⟩
  rw [List.mem_singleton.1 hs]
  exact ⟨by omega, canW_word h hb⟩
theorem canW_sm {D : Nat} {x : Nd} (h : Ok D x) (hb : nodSz D x ≤ 268435456) : Sm [canW D x] := by
  have := canW_len h
  intro s
  unfold rdL
  rcases Nat.eq_zero_or_pos s.toNat with h0 | h0
  · rw [h0]; show ((canW D x).length : Int) ≤ _; omega
  · rw [List.getD_eq_getElem?_getD, List.getElem?_eq_none (by rw [List.length_singleton]; omega)]
    simp
/-- What the canonical form denotes. -/
theorem can_run {D : Nat} {x : Nd} (h : Ok D x) (hb : nodSz D x ≤ 134217728) {d w : Int} (hd : d.toNat = D) (hc : cstN D x ≤ max w 0) : ∃ y, runT [canW D x] d w = (y, max w 0 - cstN D x, 0) ∧ trimN y = x := by
  have hl := canW_len h
  have R := den_can (W := canW D x) (by omega) D
  obtain ⟨y, e, ht⟩ := R.one x 0 1 (max w 0) h ⟨[ptrI x 0], [], by simp [canW], rfl⟩ ⟨[], body D x, by simp [canW], rfl⟩ hc
  refine ⟨y, ?_, ht⟩
  unfold runT
  have hne : ¬ emp [canW D x] := fun he => by
    have h2 : (rdL [canW D x] 0).length = 0 := he.2
    have h3 : (rdL [canW D x] 0).length = (canW D x).length := rfl
    have h4 := nodSz_nn D h.vn
    omega
  rw [if_neg hne, hd]
  exact e
theorem can_msg {D : Nat} {x : Nd} (h : Ok D x) (hb : nodSz D x ≤ 134217728) {d w : Int} (hd : d.toNat = D) (hc : cstN D x ≤ max w 0) : msgE [canW D x] d w = 0 ∧ msgN [canW D x] d w = x ∧ meaC [canW D x] d w = cstN D x := by
  obtain ⟨y, e, ht⟩ := can_run h hb hd hc
  refine ⟨by unfold msgE; rw [e], ?_, ?_⟩
  · unfold msgN; rw [e, if_pos rfl]; exact ht
  · unfold meaC; rw [e, if_pos rfl]; show max w 0 - (max w 0 - cstN D x) = _; exact Int.sub_sub_self _ _
theorem same_w_loop {a b : List Int} (hl : a.length = b.length) (ha : a.length ≤ 17592186044416) : ∀ (c i : Nat), i + c = a.length → a.take i = b.take i → capnpref01_SameWords_L0 (ws a) (ws b) i = ok (Bo (eqB a b)) := by
  intro c
  induction c with
  | zero =>
    intro i hi ht
    rw [capnpref01_SameWords_L0_eq, decide_eq_false (by simp; omega), eqB_t (by rw [List.take_of_length_le (by omega), List.take_of_length_le (by omega)] at ht; exact ht)]
    rfl
  | succ c ih =>
    intro i hi ht
    rw [capnpref01_SameWords_L0_eq, decide_eq_true (show (i : Int) < ((ws a).length : Int) by simp; omega), decide_eq_true (show 0 ≤ (i : Int) by omega), decide_eq_true (show (i : Int) < ((ws b).length : Int) by simp; omega)]
    dsimp only [callT_ret, callT_pan, onlyPV_v, Option.bind_some, pBool_v, pTup_v, pAgg_v, aggOf_v, pSl_v, pInt_v, pI64, pU64, pU32, pU8, List.getElem?_cons_zero, List.getElem?_cons_succ, cells_v, cells_sl, cells_agg, isCell_v, isCell_sl, cnd_t, cnd_f, tt_and, ff_and, nt_t, nt_f, len1, len3, len5, len8, len10, hlen1, clen1, clen5]
    rw [Int.toNat_natCast, ws_get (show i < a.length by omega), ws_get (show i < b.length by omega)]
    dsimp only [callT_ret, callT_pan, onlyPV_v, Option.bind_some, pBool_v, pTup_v, pAgg_v, aggOf_v, pSl_v, pInt_v, pI64, pU64, pU32, pU8, List.getElem?_cons_zero, List.getElem?_cons_succ, cells_v, cells_sl, cells_agg, isCell_v, isCell_sl, cnd_t, cnd_f, tt_and, ff_and, nt_t, nt_f, len1, len3, len5, len8, len10, hlen1, clen1, clen5]
    by_cases he : a[i]'(by omega) = b[i]'(by omega)
    · rw [show (a[i]'(by omega) != b[i]'(by omega)) = false from by simpa using he, w64 (x := (i : Int) + 1) (by omega)]
      refine ih (i + 1) (by omega) ?_
      rw [take_snoc (show i < a.length by omega), take_snoc (show i < b.length by omega), ht, he]
    · rw [bne_iff_ne.2 he, eqB_f (fun h => he (by subst h; rfl))]
      rfl
theorem V_SameWB {a b : List Int} (ha : a.length ≤ 17592186044416) (hb : b.length ≤ 17592186044416) : ev 15 [.pv (.sl 1 (ws a)), .pv (.sl 1 (ws b))] [] = ok (Bo (eqB a b)) := by
  rw [capnpref01_SameWords_eq, ws_len, ws_len]
  by_cases hl : a.length = b.length
  · rw [show ((a.length : Int) != (b.length : Int)) = false from by rw [hl]; simp]
    exact same_w_loop hl ha a.length 0 (by omega) (by rw [List.take_zero, List.take_zero])
  · rw [bne_iff_ne.2 (show (a.length : Int) ≠ (b.length : Int) by omega), eqB_f (fun h => hl (by rw [h]))]
    rfl
noncomputable def canM (l : List (List Int)) (d w : Int) : List Int := if msgE l d w = 0 then canW d.toNat (msgN l d w) else []
theorem msg_small {l : List (List Int)} (hl : Segs l) (hs : Sm l) {d w : Int} (hw : w ≤ 134217728) (h0 : msgE l d w = 0) : Ok d.toNat (msgN l d w) ∧ nodSz d.toNat (msgN l d w) ≤ 134217728 ∧ cstN d.toNat (msgN l d w) ≤ max w 0 := by
  obtain ⟨ho, hc⟩ := msg_ok hl hs (by omega) (show (runT l d w).2.2 = 0 from h0)
  have hr1 := (runT_ok hl hs (d := d) (w := w) (by omega)).1
  unfold Mt at hr1
  have hle := nodSz_le d.toNat ho.vn ho.dp
  have hmc : meaC l d w ≤ max w 0 := by
    unfold meaC
    split <;> omega
  exact ⟨ho, by omega, by omega⟩
end Go.Proofs.YtfljialckkgacaaGreatDoor.E
set_option linter.unusedVariables false
set_option linter.unusedSimpArgs false
namespace Go.Proofs.YtfljialckkgacaaGreatDoor.E
/-! Chapter 15: canonicalizing messages. -/
theorem rnode_loop {D : Nat} {q : List Nd} (hq : q.length ≤ 1073741824) (hv : ∀ t ∈ q, ev 20 [.pv t.x] [] = ok (I (nodSz D t))) (hn : ∀ t ∈ q, 0 ≤ nodSz D t) (i3 i4 i5 : Int) (xs6 xs7 : List PV) : ∀ (c j : Nat) (s : Int), j + c = q.length → 0 ≤ s → s + sumL ((q.drop j).map (nodSz D)) ≤ 4611686018427387904 →
    capnpref13_Node_L0 (I s) (.sl 5 (pvs q)) j i3 i4 i5 xs6 xs7 = ok (I (s + sumL ((q.drop j).map (nodSz D)))) := by
  intro c
  induction c with
  | zero =>
    intro j s hj h0 hs
    rw [capnpref13_Node_L0_eq, List.drop_eq_nil_of_le (by omega)]
    dsimp only [callT_ret, callT_pan, onlyPV_v, Option.bind_some, pBool_v, pTup_v, pAgg_v, aggOf_v, pSl_v, pInt_v, pI64, pU64, pU32, pU8, List.getElem?_cons_zero, List.getElem?_cons_succ, cells_v, cells_sl, cells_agg, isCell_v, isCell_sl, cnd_t, cnd_f, tt_and, ff_and, nt_t, nt_f, len1, len3, len5, len8, len10, hlen1, clen1, clen5]
    rw [decide_eq_false (by simp; omega), List.map_nil, sumL_nil, Int.add_zero]
    rfl
  | succ c ih =>
    intro j s hj h0 hs
    have hjl : j < q.length := by omega
    have h1 := hv _ (List.getElem_mem hjl)
    have h2 := hn _ (List.getElem_mem hjl)
    have hr : 0 ≤ sumL ((q.drop (j + 1)).map (nodSz D)) := sumL_nn fun y hy => by
      obtain ⟨t, ht, rfl⟩ := List.mem_map.1 hy
      exact hn t (List.mem_of_mem_drop ht)
    rw [drop_sum hjl] at hs ⊢
    rw [capnpref13_Node_L0_eq]
    dsimp only [callT_ret, callT_pan, onlyPV_v, Option.bind_some, pBool_v, pTup_v, pAgg_v, aggOf_v, pSl_v, pInt_v, pI64, pU64, pU32, pU8, List.getElem?_cons_zero, List.getElem?_cons_succ, cells_v, cells_sl, cells_agg, isCell_v, isCell_sl, cnd_t, cnd_f, tt_and, ff_and, nt_t, nt_f, len1, len3, len5, len8, len10, hlen1, clen1, clen5]
    rw [decide_eq_true (show (j : Int) < ((pvs q).length : Int) by simp; omega), decide_eq_true (show (5 : Nat) = 5 from rfl), decide_eq_true (show 0 ≤ (j : Int) by omega)]
    dsimp only [callT_ret, callT_pan, onlyPV_v, Option.bind_some, pBool_v, pTup_v, pAgg_v, aggOf_v, pSl_v, pInt_v, pI64, pU64, pU32, pU8, List.getElem?_cons_zero, List.getElem?_cons_succ, cells_v, cells_sl, cells_agg, isCell_v, isCell_sl, cnd_t, cnd_f, tt_and, ff_and, nt_t, nt_f, len1, len3, len5, len8, len10, hlen1, clen1, clen5]
    rw [Int.toNat_natCast, pvs_get hjl]
    dsimp only [Nd.x, callT_ret, callT_pan, onlyPV_v, Option.bind_some, pBool_v, pTup_v, pAgg_v, aggOf_v, pSl_v, pInt_v, pI64, pU64, pU32, pU8, List.getElem?_cons_zero, List.getElem?_cons_succ, cells_v, cells_sl, cells_agg, isCell_v, isCell_sl, cnd_t, cnd_f, tt_and, ff_and, nt_t, nt_f, len1, len3, len5, len8, len10, hlen1, clen1, clen5] at h1 ⊢
    rw [nd_five, nd_cells, show (q[j].c.drop 0).take 5 = q[j].c from rfl]
    dsimp only [Nd.c, callT_ret, callT_pan, onlyPV_v, Option.bind_some, pBool_v, pTup_v, pAgg_v, aggOf_v, pSl_v, pInt_v, pI64, pU64, pU32, pU8, List.getElem?_cons_zero, List.getElem?_cons_succ, cells_v, cells_sl, cells_agg, isCell_v, isCell_sl, cnd_t, cnd_f, tt_and, ff_and, nt_t, nt_f, len1, len3, len5, len8, len10, hlen1, clen1, clen5]
    rw [h1]
    dsimp only [callT_ret, callT_pan, onlyPV_v, Option.bind_some, pBool_v, pTup_v, pAgg_v, aggOf_v, pSl_v, pInt_v, pI64, pU64, pU32, pU8, List.getElem?_cons_zero, List.getElem?_cons_succ, cells_v, cells_sl, cells_agg, isCell_v, isCell_sl, cnd_t, cnd_f, tt_and, ff_and, nt_t, nt_f, len1, len3, len5, len8, len10, hlen1, clen1, clen5]
    rw [w64 (x := s + nodSz D q[j]) (by omega), w64 (x := (j : Int) + 1) (by omega)]
    have := ih (j + 1) (s + nodSz D q[j]) (by omega) (by omega) (by omega)
    refine (show _ = _ from this).trans ?_
    rw [Int.add_assoc]
theorem V_rNode : ∀ (D : Nat) (x : Nd), good x → VN x → Dp D x → nodSz D x ≤ 4611686018427387904 → ev 20 [.pv x.x] [] = ok (I (nodSz D x)) := by
  have null : ∀ (D : Nat) (x : Nd), good x → VN x → x.kind = 0 → ev 20 [.pv x.x] [] = ok (I (nodSz D x)) := fun D x hg hv h0 => by
    have ho := V_rObj13 hg hv (by rw [objSz_null h0]; decide) (uni_small hg hv)
    have ht := V_Targets hg (by rw [tgt_null hv h0]; decide)
    rw [objSz_null h0] at ho
    rw [tgt_null hv h0] at ht
    rw [nodSz_null hv h0]
    dsimp only [Nd.x] at ho ht ⊢
    rw [capnpref13_Node_eq, ho]
    dsimp only [callT_ret, callT_pan, onlyPV_v, Option.bind_some, pBool_v, pTup_v, pAgg_v, aggOf_v, pSl_v, pInt_v, pI64, pU64, pU32, pU8, List.getElem?_cons_zero, List.getElem?_cons_succ, cells_v, cells_sl, cells_agg, isCell_v, isCell_sl, cnd_t, cnd_f, tt_and, ff_and, nt_t, nt_f, len1, len3, len5, len8, len10, hlen1, clen1, clen5]
    rw [ht]
    dsimp only [callT_ret, callT_pan, onlyPV_v, Option.bind_some, pBool_v, pTup_v, pAgg_v, aggOf_v, pSl_v, pInt_v, pI64, pU64, pU32, pU8, List.getElem?_cons_zero, List.getElem?_cons_succ, cells_v, cells_sl, cells_agg, isCell_v, isCell_sl, cnd_t, cnd_f, tt_and, ff_and, nt_t, nt_f, len1, len3, len5, len8, len10, hlen1, clen1, clen5]
    exact rnode_loop (D := D) (q := []) (by decide) (fun t h => by cases h) (fun t h => by cases h) x.kind x.elem x.n (bs x.data) (pvs x.kids) 0 0 0 rfl (Int.le_refl _) (by simp [sumL_nil])
  intro D
  induction D with
  | zero => exact fun x hg hv hd _ => null 0 x hg hv hd
  | succ D ih =>
    intro x hg hv hd hb
    by_cases h0 : x.kind = 0
    · exact null _ x hg hv h0
    · obtain ⟨hd1, hd2⟩ := hd.resolve_left h0
      have hT : ∀ t ∈ tgt x, 0 ≤ nodSz D t := fun t ht => nodSz_nn D (vn_tgt hv t ht)
      have hsn : 0 ≤ sumL ((tgt x).map (nodSz D)) := sumL_nn fun y hy => by
        obtain ⟨t, ht, rfl⟩ := List.mem_map.1 hy
        exact hT t ht
      have hon := objSz_nn hv
      rw [nodSz] at hb ⊢
      have ho := V_rObj13 hg hv (by omega) (uni_small hg hv)
      have ht := V_Targets hg hd1
      have hl := rnode_loop (D := D) (q := tgt x) hd1 (fun t ht => ih t (good_tgt hg t ht) (vn_tgt hv t ht) (hd2 t ht) (by have := sumL_mem hT t ht; omega)) hT x.kind x.elem x.n (bs x.data) (pvs x.kids) (tgt x).length 0 (objSz x) (by omega) hon (by rw [List.drop_zero]; exact hb)
      rw [List.drop_zero] at hl
      dsimp only [Nd.x] at ho ht ⊢
      rw [capnpref13_Node_eq, ho]
      dsimp only [callT_ret, callT_pan, onlyPV_v, Option.bind_some, pBool_v, pTup_v, pAgg_v, aggOf_v, pSl_v, pInt_v, pI64, pU64, pU32, pU8, List.getElem?_cons_zero, List.getElem?_cons_succ, cells_v, cells_sl, cells_agg, isCell_v, isCell_sl, cnd_t, cnd_f, tt_and, ff_and, nt_t, nt_f, len1, len3, len5, len8, len10, hlen1, clen1, clen5]
      rw [ht]
      dsimp only [callT_ret, callT_pan, onlyPV_v, Option.bind_some, pBool_v, pTup_v, pAgg_v, aggOf_v, pSl_v, pInt_v, pI64, pU64, pU32, pU8, List.getElem?_cons_zero, List.getElem?_cons_succ, cells_v, cells_sl, cells_agg, isCell_v, isCell_sl, cnd_t, cnd_f, tt_and, ff_and, nt_t, nt_f, len1, len3, len5, len8, len10, hlen1, clen1, clen5]
      exact hl
theorem pTupO_v (a : AV) (p q : PV) : pTupO 0 2 (.tup 0 a [p, q]) = some (a, [p, q]) := rfl
theorem V_cthen {l : List (List Int)} (hl : Segs l) (hs : Sm l) {d w b : Int} (hd : d ≤ 1099511627775) (hw : w ≤ 134217728) : ev 32 [.pv (.sl 1 (sgs l)), .pv (.agg [I d, I w, I b]), .pv (.v (.func (.func 33) #[] #[]))] [] = some (.ret (.tup 0 (.slu 48 1 (ws (canM l d w))) [.v .nilIface, I (msgE l d w)]), []) := by
  rw [canon_then_uint64_eq, V_Message hl hs hd (by omega)]
  dsimp only [Nd.x, ↓cl5, callT_ret, callT_pan, onlyPV_v, Option.bind_some, pBool_v, pTup_v, pAgg_v, aggOf_v, pSl_v, pInt_v, pI64, pU64, pU32, pU8, List.getElem?_cons_zero, List.getElem?_cons_succ, cells_v, cells_sl, cells_agg, isCell_v, isCell_sl, cnd_t, cnd_f, tt_and, ff_and, nt_t, nt_f, len1, len3, len5, len8, len10, hlen1, clen1, clen5]
  unfold canM
  by_cases h0 : msgE l d w = 0
  · obtain ⟨ho, hb, _⟩ := msg_small hl hs hw h0
    have h1 := V_Write ho hb
    dsimp only [Nd.x] at h1
    rw [h0, show ((0 : Int) != 0) = false from rfl, if_pos rfl]
    dsimp only [↓cl5, callT_ret, callT_pan, onlyPV_v, Option.bind_some, pBool_v, pTup_v, pAgg_v, aggOf_v, pSl_v, pInt_v, pI64, pU64, pU32, pU8, List.getElem?_cons_zero, List.getElem?_cons_succ, cells_v, cells_sl, cells_agg, isCell_v, isCell_sl, cnd_t, cnd_f, tt_and, ff_and, nt_t, nt_f, len1, len3, len5, len8, len10, hlen1, clen1, clen5]
    rw [h1]
    dsimp only [callT_ret, callT_pan, onlyPV_v, Option.bind_some, pBool_v, pTup_v, pAgg_v, aggOf_v, pSl_v, pInt_v, pI64, pU64, pU32, pU8, List.getElem?_cons_zero, List.getElem?_cons_succ, cells_v, cells_sl, cells_agg, isCell_v, isCell_sl, cnd_t, cnd_f, tt_and, ff_and, nt_t, nt_f, len1, len3, len5, len8, len10, hlen1, clen1, clen5]
    rw [pSlu_v]
    rfl
  · rw [bne_t h0, if_neg h0]
    rfl
theorem V_cWords {l : List (List Int)} (hl : Segs l) (hs : Sm l) {d w b : Int} (hd : d ≤ 1099511627775) (hw : w ≤ 134217728) : ev 12 [.pv (.sl 1 (sgs l)), .pv (.agg [I d, I w, I b])] [] = some (.ret (.tup 0 (.slu 48 1 (ws (canM l d w))) [.v .nilIface, I (msgE l d w)]), []) := by
  rw [canon_Words_eq, V_cthen hl hs hd hw]
  dsimp only [callT_ret, callT_pan, onlyPV_v, Option.bind_some, pBool_v, pTup_v, pAgg_v, aggOf_v, pSl_v, pInt_v, pI64, pU64, pU32, pU8, List.getElem?_cons_zero, List.getElem?_cons_succ, cells_v, cells_sl, cells_agg, isCell_v, isCell_sl, cnd_t, cnd_f, tt_and, ff_and, nt_t, nt_f, len1, len3, len5, len8, len10, hlen1, clen1, clen5]
  rw [pTupO_v]
  dsimp only [callT_ret, callT_pan, onlyPV_v, Option.bind_some, pBool_v, pTup_v, pAgg_v, aggOf_v, pSl_v, pInt_v, pI64, pU64, pU32, pU8, List.getElem?_cons_zero, List.getElem?_cons_succ, cells_v, cells_sl, cells_agg, isCell_v, isCell_sl, cnd_t, cnd_f, tt_and, ff_and, nt_t, nt_f, len1, len3, len5, len8, len10, hlen1, clen1, clen5]
  rw [pSlu_v]
  rfl
noncomputable def segM (l : List (List Int)) (d w : Int) : List PV := if msgE l d w = 0 then [.sl 1 (ws (canM l d w))] else []
theorem V_cSeg {l : List (List Int)} (hl : Segs l) (hs : Sm l) {d w b : Int} (hd : d ≤ 1099511627775) (hw : w ≤ 134217728) : ev 14 [.pv (.sl 1 (sgs l)), .pv (.agg [I d, I w, I b])] [] = ok (.tup [.sl 1 (segM l d w), I (msgE l d w)]) := by
  rw [canon_Segments_eq, canon_then_SS_uint64_eq, V_Message hl hs hd (by omega)]
  dsimp only [Nd.x, ↓cl5, callT_ret, callT_pan, onlyPV_v, Option.bind_some, pBool_v, pTup_v, pAgg_v, aggOf_v, pSl_v, pInt_v, pI64, pU64, pU32, pU8, List.getElem?_cons_zero, List.getElem?_cons_succ, cells_v, cells_sl, cells_agg, isCell_v, isCell_sl, cnd_t, cnd_f, tt_and, ff_and, nt_t, nt_f, len1, len3, len5, len8, len10, hlen1, clen1, clen5]
  unfold segM canM
  by_cases h0 : msgE l d w = 0
  · obtain ⟨ho, hb, _⟩ := msg_small hl hs hw h0
    have h1 := V_Write ho hb
    dsimp only [Nd.x] at h1
    rw [h0, show ((0 : Int) != 0) = false from rfl, if_pos rfl, if_pos rfl]
    dsimp only [↓cl5, callT_ret, callT_pan, onlyPV_v, Option.bind_some, pBool_v, pTup_v, pAgg_v, aggOf_v, pSl_v, pInt_v, pI64, pU64, pU32, pU8, List.getElem?_cons_zero, List.getElem?_cons_succ, cells_v, cells_sl, cells_agg, isCell_v, isCell_sl, cnd_t, cnd_f, tt_and, ff_and, nt_t, nt_f, len1, len3, len5, len8, len10, hlen1, clen1, clen5]
    rw [canon_Segments_1_eq, h1]
    dsimp only [callT_ret, callT_pan, onlyPV_v, Option.bind_some, pBool_v, pTup_v, pAgg_v, aggOf_v, pSl_v, pInt_v, pI64, pU64, pU32, pU8, List.getElem?_cons_zero, List.getElem?_cons_succ, cells_v, cells_sl, cells_agg, isCell_v, isCell_sl, cnd_t, cnd_f, tt_and, ff_and, nt_t, nt_f, len1, len3, len5, len8, len10, hlen1, clen1, clen5]
    rw [pSlu_v]
    rfl
  · rw [bne_t h0, if_neg h0]
    rfl
end Go.Proofs.YtfljialckkgacaaGreatDoor.E
set_option linter.unusedVariables false
set_option linter.unusedSimpArgs false
namespace Go.Proofs.YtfljialckkgacaaGreatDoor.E
/-! Messages compared; the laws of chapter 17. -/
theorem some_segs {l : List (List Int)} (h : ∀ s ∈ l, s.length ≤ 300) (hw : ∀ s ∈ l, ∀ x ∈ s, Word x) (hn : l.length ≤ 20) : Segs l ∧ Sm l := by
  refine ⟨⟨by omega, fun s hs => ⟨by have := h s hs; omega, hw s hs⟩⟩, sm_of fun j hj => ?_⟩
  unfold rdL
  rw [Int.toNat_natCast, List.getD_eq_getElem?_getD, List.getElem?_eq_getElem hj]
  exact h _ (List.getElem_mem hj)
theorem g1 : Segs [[4294967292]] ∧ Sm [[4294967292]] := one_segs (by decide) (by intro x hx; simp at hx; unfold Word; omega)
theorem g2 : Segs [[4294967296, 0]] ∧ Sm [[4294967296, 0]] := one_segs (by decide) (by intro x hx; simp at hx; unfold Word; omega)
theorem g3 : Segs [[0]] ∧ Sm [[0]] := one_segs (by decide) (by intro x hx; simp at hx; unfold Word; omega)
theorem g4 : Segs [[3]] ∧ Sm [[3]] := one_segs (by decide) (by intro x hx; simp at hx; unfold Word; omega)
theorem g5 : Segs [[7]] ∧ Sm [[7]] := one_segs (by decide) (by intro x hx; simp at hx; unfold Word; omega)
theorem g6 : Segs [[4294967298], [4294967296, 5]] ∧ Sm [[4294967298], [4294967296, 5]] := some_segs (by intro s hs; simp at hs; rcases hs with rfl | rfl <;> decide) (by intro s hs x hx; simp at hs; unfold Word; rcases hs with rfl | rfl <;> (simp at hx; omega)) (by decide)
end Go.Proofs.YtfljialckkgacaaGreatDoor.E
set_option linter.unusedVariables false
set_option linter.unusedSimpArgs false
namespace Go.Proofs.YtfljialckkgacaaGreatDoor.E
/-! Chapter 15: its fixed results and laws. -/
theorem k1 : Segs [[8589934596, 99, 5, 0]] ∧ Sm [[8589934596, 99, 5, 0]] := one_segs (by decide) (by intro x hx; simp at hx; unfold Word; omega)
theorem k2 : Segs [[4294967298], [4294967296, 5]] ∧ Sm [[4294967298], [4294967296, 5]] := some_segs (by intro s hs; simp at hs; rcases hs with rfl | rfl <;> decide) (by intro s hs x hx; simp at hs; unfold Word; rcases hs with rfl | rfl <;> (simp at hx; omega)) (by decide)
theorem k3 : Segs [[3]] ∧ Sm [[3]] := one_segs (by decide) (by intro x hx; simp at hx; unfold Word; omega)
theorem k4 : Segs [[]] ∧ Sm [[]] := one_segs (by decide) (by intro x hx; cases hx)
theorem can_eq {l : List (List Int)} {d w e : Int} {c : List Int} (he : msgE l d w = e) (hc : (if msgE l d w = 0 then canW d.toNat (msgN l d w) else []) = c) : (some (.ret (.tup 0 (.slu 48 1 (ws (canM l d w))) [.v .nilIface, I (msgE l d w)]), []) : Option (Out × Heap)) = some (.ret (.tup 0 (.slu 48 1 (ws c)) [.v .nilIface, I e]), []) := by
  unfold canM
  rw [hc, he]
theorem c15a : ev 12 [.pv (.sl 1 [.sl 1 [U 8589934596, U 99, U 5, U 0]]), .pv (.agg [I 5, I 50, I 0])] [] = some (.ret (.tup 0 (.slu 48 1 [U 4294967296, U 5]) [.v .nilIface, I 0]), []) :=
  (V_cWords k1.1 k1.2 (d := 5) (w := 50) (b := 0) (by decide) (by decide)).trans (can_eq (c := [4294967296, 5]) (by kernel_rfl) (by kernel_rfl))
theorem c15b : ev 12 [.pv (.sl 1 [.sl 1 [U 4294967298], .sl 1 [U 4294967296, U 5]]), .pv (.agg [I 5, I 50, I 0])] [] = some (.ret (.tup 0 (.slu 48 1 [U 4294967296, U 5]) [.v .nilIface, I 0]), []) :=
  (V_cWords k2.1 k2.2 (d := 5) (w := 50) (b := 0) (by decide) (by decide)).trans (can_eq (c := [4294967296, 5]) (by kernel_rfl) (by kernel_rfl))
theorem c15c : ev 12 [.pv (.sl 1 [.sl 1 [U 3]]), .pv (.agg [I 5, I 50, I 0])] [] = some (.ret (.tup 0 (.slu 48 1 []) [.v .nilIface, I 6]), []) :=
  (V_cWords k3.1 k3.2 (d := 5) (w := 50) (b := 0) (by decide) (by decide)).trans (can_eq (c := []) (by kernel_rfl) (by kernel_rfl))
theorem c15d : ev 12 [.pv (.sl 1 [.sl 1 []]), .pv (.agg [I 5, I 50, I 0])] [] = some (.ret (.tup 0 (.slu 48 1 [U 0]) [.v .nilIface, I 0]), []) :=
  (V_cWords k4.1 k4.2 (d := 5) (w := 50) (b := 0) (by decide) (by decide)).trans (can_eq (c := [0]) (by kernel_rfl) (by kernel_rfl))
theorem c15e : ev 14 [.pv (.sl 1 [.sl 1 [U 4294967298], .sl 1 [U 4294967296, U 5]]), .pv (.agg [I 5, I 50, I 0])] [] = ok (.tup [.sl 1 [.sl 1 [U 4294967296, U 5]], I 0]) := by
  have h := V_cSeg k2.1 k2.2 (d := 5) (w := 50) (b := 0) (by decide) (by decide)
  have he : msgE [[4294967298], [4294967296, 5]] 5 50 = 0 := by kernel_rfl
  have hc : canW 5 (msgN [[4294967298], [4294967296, 5]] 5 50) = [4294967296, 5] := by kernel_rfl
  unfold segM canM at h
  rw [he, if_pos rfl, if_pos rfl] at h
  refine h.trans ?_
  rw [show (5 : Int).toNat = 5 from rfl, hc]
  rfl
theorem c15s : ev 15 [.pv (.sl 1 [U 4294967296, U 5]), .pv (.sl 1 [U 4294967296, U 5])] [] = ok (Bo true) := by
  have := V_SameWB (a := [4294967296, 5]) (b := [4294967296, 5]) (by decide) (by decide)
  rw [eqB_t rfl] at this
  exact this
theorem c15t : ev 15 [.pv (.sl 1 [U 0]), .pv (.sl 1 [U 0])] [] = ok (Bo true) := by
  have := V_SameWB (a := [0]) (b := [0]) (by decide) (by decide)
  rw [eqB_t rfl] at this
  exact this
theorem V_awake15 : ev 10 [] [] = ok (Bo true) := by
  rw [capnplaw15_awake_eq, c15a, c15b, c15c, c15d, c15e]
  dsimp only [pTupO_v, callT_ret, callT_pan, onlyPV_v, Option.bind_some, pBool_v, pTup_v, pAgg_v, aggOf_v, pSl_v, pInt_v, pI64, pU64, pU32, pU8, List.getElem?_cons_zero, List.getElem?_cons_succ, cells_v, cells_sl, cells_agg, isCell_v, isCell_sl, cnd_t, cnd_f, tt_and, ff_and, nt_t, nt_f, len1, len3, len5, len8, len10, hlen1, clen1, clen5]
  rw [pSlu_v, pSlu_v, pSlu_v]
  dsimp only [pTupO_v, callT_ret, callT_pan, onlyPV_v, Option.bind_some, pBool_v, pTup_v, pAgg_v, aggOf_v, pSl_v, pInt_v, pI64, pU64, pU32, pU8, List.getElem?_cons_zero, List.getElem?_cons_succ, cells_v, cells_sl, cells_agg, isCell_v, isCell_sl, cnd_t, cnd_f, tt_and, ff_and, nt_t, nt_f, len1, len3, len5, len8, len10, hlen1, clen1, clen5]
  rw [show (((([.sl 1 [U 4294967296, U 5]] : List PV).length : Nat) : Int) != 1) = false from rfl, show ((0 : Int) == 0) = true from rfl, show ((6 : Int) == 6) = true from rfl, c15s]
  dsimp only [pTupO_v, callT_ret, callT_pan, onlyPV_v, Option.bind_some, pBool_v, pTup_v, pAgg_v, aggOf_v, pSl_v, pInt_v, pI64, pU64, pU32, pU8, List.getElem?_cons_zero, List.getElem?_cons_succ, cells_v, cells_sl, cells_agg, isCell_v, isCell_sl, cnd_t, cnd_f, tt_and, ff_and, nt_t, nt_f, len1, len3, len5, len8, len10, hlen1, clen1, clen5]
  rw [show decide ((1 : Nat) = 1) = true from rfl, show decide ((0 : Int) < (([.sl 1 [U 4294967296, U 5]] : List PV).length : Int)) = true from rfl]
  dsimp only [pTupO_v, callT_ret, callT_pan, onlyPV_v, Option.bind_some, pBool_v, pTup_v, pAgg_v, aggOf_v, pSl_v, pInt_v, pI64, pU64, pU32, pU8, List.getElem?_cons_zero, List.getElem?_cons_succ, cells_v, cells_sl, cells_agg, isCell_v, isCell_sl, cnd_t, cnd_f, tt_and, ff_and, nt_t, nt_f, len1, len3, len5, len8, len10, hlen1, clen1, clen5]
  rw [c15t]
  rfl
/-- What the canonical form of a message is. -/
theorem can_again {l : List (List Int)} (hl : Segs l) (hs : Sm l) {d w : Int} (hw : w ≤ 134217728) (h0 : msgE l d w = 0) : Segs [canM l d w] ∧ Sm [canM l d w] ∧ msgE [canM l d w] d w = 0 ∧ msgN [canM l d w] d w = msgN l d w ∧ meaC [canM l d w] d w ≤ meaC l d w ∧ canM [canM l d w] d w = canM l d w ∧ ((canM l d w).length : Int) = nodSz d.toNat (msgN l d w) + 1 ∧ nodSz d.toNat (msgN l d w) ≤ meaC l d w := by
  obtain ⟨ho, hb, hx⟩ := msg_small hl hs hw h0
  obtain ⟨_, hc⟩ := msg_ok hl hs (show w ≤ 4611686018427387904 by omega) (show (runT l d w).2.2 = 0 from h0)
  have e3 : canM l d w = canW d.toNat (msgN l d w) := by unfold canM; rw [if_pos h0]
  obtain ⟨m1, m2, m3⟩ := can_msg ho hb (d := d) (w := w) rfl hx
  have hle := nodSz_le d.toNat ho.vn ho.dp
  rw [e3]
  refine ⟨canW_segs ho (by omega), canW_sm ho (by omega), m1, m2, by rw [m3]; exact hc, ?_, canW_len ho, by omega⟩
  unfold canM
  rw [if_pos m1, m2]
/-- The law CanonSize. -/
theorem law_CanonSize {l : List (List Int)} (hl : Segs l) (d w b : Int) : ev 6 [.pv (.sl 1 (sgs l)), .pv (.agg [I d, I w, I b])] [] = ok (Bo true) := by
  obtain ⟨ba, ea, ca⟩ := V_Small hl d w b
  rw [capnplaw15_CanonSize_eq, V_awake15]
  dsimp only [↓cl5, callT_ret, callT_pan, onlyPV_v, Option.bind_some, pBool_v, pTup_v, pAgg_v, aggOf_v, pSl_v, pInt_v, pI64, pU64, pU32, pU8, List.getElem?_cons_zero, List.getElem?_cons_succ, cells_v, cells_sl, cells_agg, isCell_v, isCell_sl, cnd_t, cnd_f, tt_and, ff_and, nt_t, nt_f, len1, len3, len5, len8, len10, hlen1, clen1, clen5]
  rw [ea]
  dsimp only [↓cl5, callT_ret, callT_pan, onlyPV_v, Option.bind_some, pBool_v, pTup_v, pAgg_v, aggOf_v, pSl_v, pInt_v, pI64, pU64, pU32, pU8, List.getElem?_cons_zero, List.getElem?_cons_succ, cells_v, cells_sl, cells_agg, isCell_v, isCell_sl, cnd_t, cnd_f, tt_and, ff_and, nt_t, nt_f, len1, len3, len5, len8, len10, hlen1, clen1, clen5]
  cases ba with
  | false => rfl
  | true =>
    obtain ⟨hd, hw, _, ha3⟩ := ca rfl
    have hs := sm_of ha3
    dsimp only [↓cl5, callT_ret, callT_pan, onlyPV_v, Option.bind_some, pBool_v, pTup_v, pAgg_v, aggOf_v, pSl_v, pInt_v, pI64, pU64, pU32, pU8, List.getElem?_cons_zero, List.getElem?_cons_succ, cells_v, cells_sl, cells_agg, isCell_v, isCell_sl, cnd_t, cnd_f, tt_and, ff_and, nt_t, nt_f, len1, len3, len5, len8, len10, hlen1, clen1, clen5]
    rw [V_cWords hl hs (by omega) (by omega)]
    dsimp only [pTupO_v, ↓cl5, callT_ret, callT_pan, onlyPV_v, Option.bind_some, pBool_v, pTup_v, pAgg_v, aggOf_v, pSl_v, pInt_v, pI64, pU64, pU32, pU8, List.getElem?_cons_zero, List.getElem?_cons_succ, cells_v, cells_sl, cells_agg, isCell_v, isCell_sl, cnd_t, cnd_f, tt_and, ff_and, nt_t, nt_f, len1, len3, len5, len8, len10, hlen1, clen1, clen5]
    rw [pSlu_v]
    dsimp only [↓cl5, callT_ret, callT_pan, onlyPV_v, Option.bind_some, pBool_v, pTup_v, pAgg_v, aggOf_v, pSl_v, pInt_v, pI64, pU64, pU32, pU8, List.getElem?_cons_zero, List.getElem?_cons_succ, cells_v, cells_sl, cells_agg, isCell_v, isCell_sl, cnd_t, cnd_f, tt_and, ff_and, nt_t, nt_f, len1, len3, len5, len8, len10, hlen1, clen1, clen5]
    by_cases h0 : msgE l d w = 0
    · obtain ⟨ho, hb, hx⟩ := msg_small hl hs (by omega) h0
      obtain ⟨a1, a2, a3, a4, a5, a6, a7, a8⟩ := can_again hl hs (by omega) h0
      have hm := V_rMeasure a1 a2 (d := d) (w := w) (b := b) (by omega) (by omega)
      rw [a3] at hm
      have hm' : ev 19 [.pv (.sl 1 [.sl 1 (ws (canM l d w))]), .pv (.agg [I d, I w, I b])] [] = ok (.tup [I (meaC [canM l d w] d w), I 0]) := hm
      have hnn := nodSz_nn d.toNat ho.vn
      have hnd := V_rNode d.toNat _ ho.gd ho.vn ho.dp (by omega)
      rw [h0, show ((0 : Int) != 0) = false from rfl]
      dsimp only [↓cl5, callT_ret, callT_pan, onlyPV_v, Option.bind_some, pBool_v, pTup_v, pAgg_v, aggOf_v, pSl_v, pInt_v, pI64, pU64, pU32, pU8, List.getElem?_cons_zero, List.getElem?_cons_succ, cells_v, cells_sl, cells_agg, isCell_v, isCell_sl, cnd_t, cnd_f, tt_and, ff_and, nt_t, nt_f, len1, len3, len5, len8, len10, hlen1, clen1, clen5]
      rw [V_rMessage hl hs (by omega) (by omega)]
      dsimp only [Nd.x, ↓cl5, callT_ret, callT_pan, onlyPV_v, Option.bind_some, pBool_v, pTup_v, pAgg_v, aggOf_v, pSl_v, pInt_v, pI64, pU64, pU32, pU8, List.getElem?_cons_zero, List.getElem?_cons_succ, cells_v, cells_sl, cells_agg, isCell_v, isCell_sl, cnd_t, cnd_f, tt_and, ff_and, nt_t, nt_f, len1, len3, len5, len8, len10, hlen1, clen1, clen5] at hnd ⊢
      rw [V_rMeasure hl hs (by omega) (by omega)]
      dsimp only [↓cl5, callT_ret, callT_pan, onlyPV_v, Option.bind_some, pBool_v, pTup_v, pAgg_v, aggOf_v, pSl_v, pInt_v, pI64, pU64, pU32, pU8, List.getElem?_cons_zero, List.getElem?_cons_succ, cells_v, cells_sl, cells_agg, isCell_v, isCell_sl, cnd_t, cnd_f, tt_and, ff_and, nt_t, nt_f, len1, len3, len5, len8, len10, hlen1, clen1, clen5]
      rw [hm']
      dsimp only [↓cl5, callT_ret, callT_pan, onlyPV_v, Option.bind_some, pBool_v, pTup_v, pAgg_v, aggOf_v, pSl_v, pInt_v, pI64, pU64, pU32, pU8, List.getElem?_cons_zero, List.getElem?_cons_succ, cells_v, cells_sl, cells_agg, isCell_v, isCell_sl, cnd_t, cnd_f, tt_and, ff_and, nt_t, nt_f, len1, len3, len5, len8, len10, hlen1, clen1, clen5]
      rw [hnd]
      dsimp only [↓cl5, callT_ret, callT_pan, onlyPV_v, Option.bind_some, pBool_v, pTup_v, pAgg_v, aggOf_v, pSl_v, pInt_v, pI64, pU64, pU32, pU8, List.getElem?_cons_zero, List.getElem?_cons_succ, cells_v, cells_sl, cells_agg, isCell_v, isCell_sl, cnd_t, cnd_f, tt_and, ff_and, nt_t, nt_f, len1, len3, len5, len8, len10, hlen1, clen1, clen5]
      rw [ws_len, w64 (x := 1 + nodSz d.toNat (msgN l d w)) (by omega), beq_iff_eq.2 (show ((canM l d w).length : Int) = 1 + nodSz d.toNat (msgN l d w) by omega), show ((0 : Int) == 0) = true from rfl]
      dsimp only [↓cl5, callT_ret, callT_pan, onlyPV_v, Option.bind_some, pBool_v, pTup_v, pAgg_v, aggOf_v, pSl_v, pInt_v, pI64, pU64, pU32, pU8, List.getElem?_cons_zero, List.getElem?_cons_succ, cells_v, cells_sl, cells_agg, isCell_v, isCell_sl, cnd_t, cnd_f, tt_and, ff_and, nt_t, nt_f, len1, len3, len5, len8, len10, hlen1, clen1, clen5]
      rw [decide_eq_true a5]
    · rw [bne_t h0]
      rfl
end Go.Proofs.YtfljialckkgacaaGreatDoor.E
