/- Flow, fourteenth part: rows of bytes by their shape; one byte stored into a row, one put behind it. Own work; plain theorems. -/
import Derived.Test.YtjndoihnpnmbjaaFlowM
import Derived.ArgAppend
namespace Go.Proofs.Ytjndoihnpnmbjaa.Flow
open Go.RowKit Go.Proofs.YtjndoihnpnmbjaaW.PrintWords Go.Proofs.YtjndoihnpnmbjaaW.PrintLast Go.Proofs.YtjndoihnpnmbjaaW.PrintMore
set_option linter.unusedVariables false
set_option linter.unusedSimpArgs false
/-- A row's shape: has it a block, which, how long, how much room. -/
structure Sh where
  nil : Bool
  g : Nat
  n : Nat
  c : Nat
def adrS (s : Sh) : Option Addr := if s.nil = true then none else some ⟨s.g, 0, none⟩
theorem adrS_some {s : Sh} (h : s.nil = false) : adrS s = some ⟨s.g, 0, none⟩ := by unfold adrS; rw [h]; rfl
def V (s : Sh) : Value := .slice (adrS s) s.n s.c
/-- The row of this shape holds ys. -/
def LR (e : TypeId) (w : World) (s : Sh) (ys : List Int) : Prop := ys.length = s.n ∧ (s.nil = true → s.n = 0 ∧ s.c = 0) ∧ (s.nil = false → ∃ cur, Blk w s.g e cur ∧ cur.size = s.c ∧ s.n ≤ s.c ∧ s.c ≤ 9223372036854775807 ∧ Nums .u8 cur ys)
section
variable {e : TypeId} {w w' : World} {s : Sh} {ys : List Int}
theorem LR.stay (h : LR e w s ys) (hb : s.nil = false → w'.heap[s.g]? = w.heap[s.g]?) : LR e w' s ys :=
  ⟨h.1, h.2.1, fun hn => by
    obtain ⟨cur, h1, h2⟩ := h.2.2 hn
    exact ⟨cur, (hb hn).trans h1, h2⟩⟩
theorem LR.lt (h : LR e w s ys) (hn : s.nil = false) : s.g < w.heap.size := by
  obtain ⟨cur, h1, _⟩ := h.2.2 hn
  exact h1.lt
theorem LR.on (h : LR e w s ys) (hb : Below w.heap.size w w') : LR e w' s ys := h.stay (fun hn => hb.block s.g (h.lt hn))
theorem LR.keep {g : Nat} (h : LR e w s ys) (hk : Keep g w w') (hne : s.nil = false → s.g ≠ g) : LR e w' s ys := h.stay (fun hn => hk.block s.g (hne hn))
theorem LR.pos (h : LR e w s ys) (hn : 0 < s.n) : s.nil = false := by
  cases hs : s.nil with
  | false => rfl
  | true => have := (h.2.1 hs).1; omega
theorem LR.room (h : LR e w s ys) (hn : 0 < s.c) : s.nil = false := by
  cases hs : s.nil with
  | false => rfl
  | true => have := (h.2.1 hs).2; omega
theorem LR.C (h : LR e w s ys) : (Kd.int .u8).C w (adrS s) s.n ys := by
  cases hs : s.nil with
  | true =>
    have h1 := (h.2.1 hs).1
    have h2 : ys = [] := List.eq_nil_of_length_eq_zero (by rw [h.1, h1])
    subst h2
    rw [h1]
    exact ⟨rfl, by simp, fun hp => absurd hp (by simp)⟩
  | false =>
    obtain ⟨cur, h1, h2, h3, h4, h5⟩ := h.2.2 hs
    rw [adrS_some hs, ← h.1]
    exact Own.C (own_blk (k := .u8) (e := e) s.g h1 (Nat.le_refl _) rfl (by rw [h.1]; omega) (by omega) h5)
theorem LR.at (h : LR e w s ys) (j : Nat) (hj : j < s.n) : s.nil = false ∧ w.cell? ⟨s.g, j, none⟩ = some (.int .u8 (ys.getD j 0)) ∧ w.frozen? ⟨s.g, j, none⟩ = false := by
  have hn := h.pos (by omega)
  obtain ⟨cur, h1, h2, h3, h4, h5⟩ := h.2.2 hn
  exact ⟨hn, h1.cellv (h5 j (by rw [h.1]; exact hj)), h1.frozen j⟩
/-- A byte is stored. -/
theorem LR.put (h : LR e w s ys) (j : Nat) (hj : j < s.n) (x : Int) : ∃ cur, Blk w s.g e cur ∧ ∀ w', Blk w' s.g e (cur.setIfInBounds j (.int .u8 x)) → LR e w' s (ys.set j x) := by
  have hn := h.pos (by omega)
  obtain ⟨cur, h1, h2, h3, h4, h5⟩ := h.2.2 hn
  exact ⟨cur, h1, fun w' hb => ⟨by rw [List.length_set, h.1], h.2.1, fun _ => ⟨_, hb, by simp [h2], h3, h4, h5.set (by rw [h.1]; omega) j x⟩⟩⟩
end
/-- A row of the function's own has a shape. -/
theorem own_shape {e : TypeId} {w : World} {base b : Nat} {A : Option Addr} {n c : Nat} {xs : List Int} (h : Own .u8 e w base b A n c xs) : ∃ s : Sh, V s = .slice A n c ∧ LR e w s xs ∧ (s.nil = false → b ≤ s.g ∧ base ≤ s.g) := by
  have hl := h.len
  have ho := Kd.own_of_R h
  rcases ho.2 with ⟨hv, hn⟩ | ⟨g, cap, cur, hv, hb, hg, hn, hc, hsz, ht⟩
  · injection hv with h1 h2 h3
    subst h1 h2 h3
    exact ⟨⟨true, 0, 0, 0⟩, rfl, ⟨by omega, fun _ => ⟨rfl, rfl⟩, fun h => by cases h⟩, fun h => by cases h⟩
  · injection hv with h1 h2 h3
    subst h1 h2 h3
    refine ⟨⟨false, g, xs.length, c⟩, rfl, ⟨rfl, (fun h => by cases h), fun _ => ⟨cur, hg, (show cur.size = c by omega), hn, (show c ≤ 9223372036854775807 by simp [maxLen] at hc; omega), fun j hj => ?_⟩⟩, fun _ => ⟨h.1 g rfl, hb⟩⟩
    have h1 : (cur.toList.take (xs.length * 1))[j]? = some (.int .u8 (xs.getD j 0)) := by
      rw [ht]
      simp [encs, List.getElem?_eq_getElem hj]
    rw [List.getElem?_take_of_lt (by omega)] at h1
    simpa using h1
theorem nums_snoc {cur : Array Value} {ys : List Int} {x : Int} (h : Nums .u8 cur ys) (hx : cur[ys.length]? = some (.int .u8 x)) : Nums .u8 cur (ys ++ [x]) := fun j hj => by
  by_cases hj2 : j < ys.length
  · rw [h j hj2]
    simp [List.getD_eq_getElem?_getD, List.getElem?_append_left hj2]
  · have e1 : j = ys.length := by simp at hj; omega
    subst e1
    rw [hx]
    simp [List.getD_eq_getElem?_getD]
theorem set_far {cur : Array Value} {ys : List Int} {x : Value} (h : Nums .u8 cur ys) (i : Nat) (hi : ys.length ≤ i) : Nums .u8 (cur.setIfInBounds i x) ys := fun j hj => by
  have := h j hj
  simpa [Array.getElem?_setIfInBounds, show ¬ i = j by omega] using this
section
variable {P : Program} {n : Nat} {Q : Exit → Act → World → Prop} {st : List Itm} {G : Env} {w : World} {ops : Array Oper} {o : Oper} {rest : List Oper}
/-- A byte is put behind a row: into its room, or all into a new block. -/
theorem rw_append_sh {dst : Nat} (hg : o.guard = none) (hd : o.dst = some dst) (hdn : Nat.blt dst n = true) (s x : Operand) (hks : knownO G s = true) (hkx : knownO G x = true) (t e : TypeId)
    (ho : o.op = .call { callee := .builtin .append, args := #[s, x], argTypes := #[t, t] }) (ht : P.underlying t = some (.slice e)) (hinfo : (P.info? e).map (fun i => (i.zero, i.size, i.bytes)) = some (some (.int .u8 0), 1, 1))
    {sl : Sh} {ys : List Int} {b : Int} {gx : Nat} {t2 : TypeId} (hs : sEv G s = V sl) (hx : sEv G x = .slice (some ⟨gx, 0, none⟩) 1 1) (hLR : LR e w sl ys) (hbx : Blk w gx t2 #[.int .u8 b]) (hl : sl.n ≤ 1000000000)
    (kk : ∀ (s2 : Sh) w', s2.nil = false → s2.n = sl.n + 1 → LR e w' s2 (ys ++ [b]) →
      ((sl.nil = false ∧ s2.g = sl.g ∧ Keep sl.g w w' ∧ ∃ cur, Blk w sl.g e cur ∧ Blk w' sl.g e (cur.setIfInBounds sl.n (.int .u8 b))) ∨ (w.heap.size ≤ s2.g ∧ Below w.heap.size w w')) → RW P ops n Q rest ((dst, V s2) :: G) w') : RW P ops n Q (o :: rest) G w := by
  intro a ha
  obtain ⟨i0, hi, hzz⟩ := Option.map_eq_some_iff.1 hinfo
  simp only [Prod.mk.injEq] at hzz
  obtain ⟨hz0, hz1, hz2⟩ := hzz
  have es : a.eval s = V sl := (eval_known ha hks).trans hs
  have ex : a.eval x = .slice (some ⟨gx, 0, none⟩) 1 1 := (eval_known ha hkx).trans hx
  have hnews : ∀ j u, [Value.int .u8 b][j]? = some u → w.cell? ((⟨gx, 0, none⟩ : Addr).add j) = some u := fun j u hu => by
    match j, hu with
    | 0, hu =>
      obtain rfl := Option.some.inj hu
      exact hbx.cellv rfl
    | j + 1, hu => simp at hu
  have grown : ∀ v' w', w'.ownsRow w.heap.size e 1 v' (sl.n + 1) (encs (Value.int .u8) ys ++ [.int .u8 b]) → w.grownBy w' none → wpList P ops Q rest (a.put o.dst v') w' := fun v' w' hown hgr => by
    have e1 : encs (Value.int .u8) ys ++ [.int .u8 b] = encs (Value.int .u8) (ys ++ [b]) := by simp [encs]
    have e2 : sl.n + 1 = (ys ++ [b]).length := by simp [hLR.1]
    rw [e1, e2] at hown
    have hR : (Kd.int .u8).R e w' w.heap.size (fun q => w.heap.size ≤ q) v' (ys ++ [b]) := Kd.R_of_own hown (fun q hq => by
      rcases hown.2 with ⟨hv, _⟩ | ⟨g', cap', cur', hv, hge, _⟩
      · rw [hv] at hq
        cases hq
      · rw [hv] at hq
        simp only [Value.ownBlock, Option.some.injEq] at hq
        omega)
    obtain ⟨A', c', rfl, _, h4⟩ := R_shape hR
    obtain ⟨s2, hV, hLR2, hge⟩ := own_shape (h4 : Own .u8 e w' w.heap.size w.heap.size A' _ c' _)
    have hn2 : s2.n = sl.n + 1 := by rw [← hLR2.1, ← e2]
    have hnil := hLR2.pos (by omega)
    have hBl : Below w.heap.size w w' := ⟨hgr.os, hgr.tape, hgr.output, hgr.size, fun q hq => hgr.block q hq (by simp)⟩
    rw [hd, ← hV]
    exact kk s2 w' hnil hn2 hLR2 (.inr ⟨(hge hnil).1, hBl⟩) _ (ha.put hdn _)
  cases hnil : sl.nil with
  | true =>
    have h0 := hLR.2.1 hnil
    have hy : ys = [] := List.eq_nil_of_length_eq_zero (by rw [hLR.1, h0.1])
    refine wpList_append_grows w hg s x t ho e i0 (.int .u8 0) 1 1 ht hi hz0 hz1 hz2 rfl (by omega) none sl.n sl.c [] (by rw [es]; unfold V adrS; rw [hnil]; rfl) (fun _ => h0) (by simp [h0.1]) (fun b hb => by cases hb) ⟨gx, 0, none⟩ 1 1 [.int .u8 b] ex rfl hnews (fun u hu => by rw [List.mem_singleton.1 hu]; rfl) (by omega) (by simp [maxLen]; omega) (by omega) ?_
    intro v' w' hown hgr
    refine grown v' w' ?_ hgr
    rw [hy]
    exact hown
  | false =>
    obtain ⟨cur, h1, h2, h3, h4, h5⟩ := hLR.2.2 hnil
    have hcells : ∀ j u, (encs (Value.int .u8) ys)[j]? = some u → w.cell? ⟨sl.g, 0 + j, none⟩ = some u := fun j u hu => by
      have hj : j < ys.length := by
        have := (List.getElem?_eq_some_iff.1 hu).1
        rwa [encs_length] at this
      have := h1.cellv (h5 j hj)
      rw [Nat.zero_add, this, ← hu]
      simp [encs, List.getElem?_eq_getElem hj, List.getD_eq_getElem?_getD]
    refine wpList_append_arg w hg s x t ho e i0 (.int .u8 0) 1 1 ht hi hz0 hz1 hz2 rfl (by omega) sl.g 0 sl.n sl.c (encs (Value.int .u8) ys) (by rw [es]; unfold V; rw [adrS_some hnil]) (by rw [encs_length, hLR.1]; omega) hcells ⟨gx, 0, none⟩ 1 1 [.int .u8 b] ex rfl hnews (fun u hu => by rw [List.mem_singleton.1 hu]; rfl) (fun hr j hj => ?_) (by simp [maxLen]; omega) (by omega) (fun hr => ?_) (fun hr v' w' hown hgr => grown v' w' hown hgr)
    · have hj0 : j = 0 := by simpa using hj
      subst hj0
      have hlt : sl.n < cur.size := by omega
      refine ⟨?_, by rw [Nat.zero_add, Nat.add_zero]; exact h1.frozen _⟩
      rw [show 0 + sl.n * 1 + 0 = sl.n by omega, h1.cell, Array.getElem?_eq_getElem hlt]
      rfl
    · have e0 : w.setCells sl.g (0 + sl.n * 1) [.int .u8 b] = w.setCell ⟨sl.g, sl.n, none⟩ (.int .u8 b) := by
        rw [show 0 + sl.n * 1 = sl.n by omega]
        rfl
      rw [e0, hd]
      have hb2 := h1.set sl.n (.int .u8 b)
      have hlt : sl.n < cur.size := by omega
      have hLR2 : LR e (w.setCell ⟨sl.g, sl.n, none⟩ (.int .u8 b)) ⟨false, sl.g, sl.n + 1, sl.c⟩ (ys ++ [b]) := ⟨by simp [hLR.1], (fun h => by cases h), fun _ => ⟨_, hb2, by simp [h2], hr, h4, nums_snoc (set_far h5 sl.n (by rw [hLR.1]; exact Nat.le_refl _)) (by rw [hLR.1]; simp [Array.getElem?_setIfInBounds, hlt])⟩⟩
      exact kk ⟨false, sl.g, sl.n + 1, sl.c⟩ _ rfl rfl hLR2 (.inl ⟨hnil, rfl, Keep.set _ _ _ _, cur, h1, hb2⟩) _ (ha.put hdn _)
end
end Go.Proofs.Ytjndoihnpnmbjaa.Flow
