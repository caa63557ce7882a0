/- What the cell of a row of samples is, by their least, greatest and last: plain. -/
import Derived.Test.YtheaipbnbnjlgaaCeCells
namespace Go.Proofs.Ytheaipbnbnjlgaa.Ce
open Go.RowKit Go.Proofs.YtheaipbnbnjlgaaW.PrintWords Go.Proofs.YtheaipbnbnjlgaaW.PrintLast Go.Proofs.YtheaipbnbnjlgaaW.PrintMore
open Go.Proofs.Ytheaipbnbnjlgaa.Flow
set_option linter.unusedVariables false
set_option linter.unusedSimpArgs false
abbrev Smp := Int × Int × Int × Int × Int × Int
def psum (f : Fin 65 → Int) : Nat → Int
  | 0 => 0
  | j + 1 => psum f j + atF f j
theorem psum_nonneg (f : Fin 65 → Int) (h : ∀ i, 0 ≤ f i) : ∀ j, 0 ≤ psum f j
  | 0 => Int.le_refl _
  | j + 1 => by
    have h1 := psum_nonneg f h j
    have h2 : 0 ≤ atF f j := by
      unfold atF
      split
      · exact h _
      · exact Int.le_refl _
    simp only [psum]
    omega
theorem psum_mono (f : Fin 65 → Int) (h : ∀ i, 0 ≤ f i) : ∀ k j, psum f j ≤ psum f (j + k)
  | 0, j => Int.le_refl _
  | k + 1, j => by
    have h1 := psum_mono f h k j
    have h2 : 0 ≤ atF f (j + k) := by
      unfold atF
      split
      · exact h _
      · exact Int.le_refl _
    show psum f j ≤ psum f (j + k) + atF f (j + k)
    omega
theorem psum_le (f : Fin 65 → Int) (h : ∀ i, 0 ≤ f i) (j : Nat) (hj : j ≤ 65) : psum f j ≤ psum f 65 := by
  have h1 := psum_mono f h (65 - j) j
  rwa [show j + (65 - j) = 65 by omega] at h1
theorem psum_add (f g : Fin 65 → Int) (h : ∀ i, wrap64 (f i + g i) = f i + g i) : ∀ j, j ≤ 65 → psum (fun i => wrap64 (f i + g i)) j = psum f j + psum g j
  | 0, _ => rfl
  | j + 1, hj => by
    have h1 := psum_add f g h j (by omega)
    have h2 : atF (fun i => wrap64 (f i + g i)) j = atF f j + atF g j := by
      unfold atF
      rw [dif_pos (by omega), dif_pos (by omega), dif_pos (by omega)]
      exact h _
    simp only [psum]
    rw [h1, h2]
    omega
theorem psum_one (k : Nat) : ∀ j, j ≤ 65 → psum (updF (fun _ => 0) k 1) j = if k < j then 1 else 0
  | 0, _ => by simp [psum]
  | j + 1, hj => by
    have h1 := psum_one k j (by omega)
    have h2 : atF (updF (fun _ => 0) k 1) j = if j = k then 1 else 0 := by
      unfold atF updF
      rw [dif_pos (by omega)]
    simp only [psum]
    rw [h1, h2]
    (repeat' split) <;> omega
structure Bnd (l : List Smp) (c : CL) : Prop where
  cnt : c.cnt = (l.length : Int)
  sum : psum c.h 65 = (l.length : Int)
  h : ∀ i, 0 ≤ c.h i ∧ c.h i ≤ (l.length : Int)
  mn : ∀ s ∈ l, c.mn ≤ s.2.2.2.2.2
  mx : ∀ s ∈ l, s.2.2.2.2.2 ≤ c.mx
  t : ∀ s ∈ l, s.2.2.2.1 ≤ c.t
  mnE : l ≠ [] → ∃ s ∈ l, s.2.2.2.2.2 = c.mn
  mxE : l ≠ [] → ∃ s ∈ l, s.2.2.2.2.2 = c.mx
  last : l ≠ [] → ∃ s ∈ l, c.t = s.2.2.2.1 ∧ c.src = s.1 ∧ c.seq = s.2.1 ∧ c.v = s.2.2.2.2.2
theorem later_t {a0 a1 a2 a3 b0 b1 b2 b3 : Int} : (later a0 a1 a2 a3 b0 b1 b2 b3 = true → b0 ≤ a0) ∧ (later a0 a1 a2 a3 b0 b1 b2 b3 = false → a0 ≤ b0) := by
  unfold later
  by_cases h0 : a0 = b0
  · exact ⟨fun _ => by omega, fun _ => by omega⟩
  · rw [if_neg h0]
    constructor
    · intro h
      have := of_decide_eq_true h
      omega
    · intro h
      have := of_decide_eq_false h
      omega
theorem wrap_small {x : Int} (h0 : 0 ≤ x) (h1 : x ≤ 9223372036854775807) : wrap64 x = x := wrap_id (by omega) h1
theorem one_bnd (s : Smp) (hv : -9223372036854775808 ≤ s.2.2.2.2.2 ∧ s.2.2.2.2.2 ≤ 9223372036854775807) : Bnd [s] (oneS s) := by
  have hb := blen_64 _ hv
  refine ⟨rfl, ?_, ?_, ?_, ?_, ?_, ?_, ?_, ?_⟩
  · show psum (updF (fun _ => 0) (blen s.2.2.2.2.2.natAbs) 1) 65 = 1
    rw [psum_one _ 65 (Nat.le_refl _), if_pos hb]
  · intro i
    show 0 ≤ updF (fun _ => 0) (blen s.2.2.2.2.2.natAbs) 1 i ∧ updF (fun _ => 0) (blen s.2.2.2.2.2.natAbs) 1 i ≤ 1
    simp only [updF]
    split <;> omega
  all_goals (intro x; first | (intro hx; rw [List.mem_singleton.1 hx]; exact Int.le_refl _) | skip)
  · exact ⟨s, by simp, rfl⟩
  · exact ⟨s, by simp, rfl⟩
  · exact ⟨s, by simp, rfl, rfl, rfl, rfl⟩
theorem two_bnd (l : List Smp) (o : CL) (s : Smp) (h : Bnd l o) (hl : l.length < 1000000) (hne : l ≠ []) (hv : -9223372036854775808 ≤ s.2.2.2.2.2 ∧ s.2.2.2.2.2 ≤ 9223372036854775807) : Bnd (l ++ [s]) (twoC o (oneS s)) := by
  have h1 := one_bnd s hv
  have hlen : (l ++ [s]).length = l.length + 1 := by simp
  have hw : ∀ i, wrap64 (o.h i + (oneS s).h i) = o.h i + (oneS s).h i := fun i => by
    have a := h.h i
    have b := h1.h i
    simp only [List.length_cons, List.length_nil] at b
    exact wrap_small (by omega) (by omega)
  have ev : (oneS s).mn = s.2.2.2.2.2 := rfl
  have ev2 : (oneS s).mx = s.2.2.2.2.2 := rfl
  have et : (oneS s).t = s.2.2.2.1 := rfl
  have hlt : (laterC (oneS s) o = true → o.t ≤ (oneS s).t) ∧ (laterC (oneS s) o = false → (oneS s).t ≤ o.t) := later_t
  refine ⟨?_, ?_, ?_, ?_, ?_, ?_, fun _ => ?_, fun _ => ?_, fun _ => ?_⟩
  · show wrap64 (o.cnt + 1) = _
    rw [h.cnt, hlen, wrap_small (by omega) (by omega)]
    omega
  · show psum (fun i => wrap64 (o.h i + (oneS s).h i)) 65 = _
    rw [psum_add _ _ hw 65 (Nat.le_refl _), h.sum, h1.sum, hlen]
    simp
  · intro i
    show 0 ≤ wrap64 (o.h i + (oneS s).h i) ∧ wrap64 (o.h i + (oneS s).h i) ≤ _
    have a := h.h i
    have b := h1.h i
    simp only [List.length_cons, List.length_nil] at b
    rw [hw i, hlen]
    omega
  · intro x hx
    show min o.mn (oneS s).mn ≤ _
    rcases List.mem_append.1 hx with hx | hx
    · have := h.mn x hx
      omega
    · rw [List.mem_singleton.1 hx, ev]
      omega
  · intro x hx
    show _ ≤ max o.mx (oneS s).mx
    rcases List.mem_append.1 hx with hx | hx
    · have := h.mx x hx
      omega
    · rw [List.mem_singleton.1 hx, ev2]
      omega
  · intro x hx
    show _ ≤ if laterC (oneS s) o then (oneS s).t else o.t
    have hx' : x.2.2.2.1 ≤ o.t ∨ x.2.2.2.1 = (oneS s).t := (List.mem_append.1 hx).elim (fun hx => .inl (h.t x hx)) (fun hx => .inr (by rw [List.mem_singleton.1 hx]; rfl))
    cases hL : laterC (oneS s) o
    · have := hlt.2 hL
      simp only [Bool.false_eq_true, if_false]
      omega
    · have := hlt.1 hL
      simp only [if_true]
      omega
  · show ∃ x ∈ l ++ [s], x.2.2.2.2.2 = min o.mn (oneS s).mn
    obtain ⟨x, hx, he⟩ := h.mnE hne
    by_cases hc : o.mn ≤ (oneS s).mn
    · exact ⟨x, List.mem_append_left _ hx, by rw [he]; omega⟩
    · exact ⟨s, by simp, by rw [ev] at hc ⊢; omega⟩
  · show ∃ x ∈ l ++ [s], x.2.2.2.2.2 = max o.mx (oneS s).mx
    obtain ⟨x, hx, he⟩ := h.mxE hne
    by_cases hc : (oneS s).mx ≤ o.mx
    · exact ⟨x, List.mem_append_left _ hx, by rw [he]; omega⟩
    · exact ⟨s, by simp, by rw [ev2] at hc ⊢; omega⟩
  · obtain ⟨x, hx, e0, e1, e2, e3⟩ := h.last hne
    show ∃ x ∈ l ++ [s], (if laterC (oneS s) o then (oneS s).t else o.t) = _ ∧ (if laterC (oneS s) o then (oneS s).src else o.src) = _ ∧ (if laterC (oneS s) o then (oneS s).seq else o.seq) = _ ∧ (if laterC (oneS s) o then (oneS s).v else o.v) = _
    cases hL : laterC (oneS s) o
    · exact ⟨x, List.mem_append_left _ hx, e0, e1, e2, e3⟩
    · exact ⟨s, by simp, rfl, rfl, rfl, rfl⟩
theorem one_unit (s : Smp) : eqC (oneS s) CL.unit = false := by
  unfold eqC
  have : ((oneS s).cnt == CL.unit.cnt) = false := rfl
  rw [this, Bool.false_and]
theorem join_bnd : ∀ (l done : List Smp) (o : CL), done ≠ [] → Bnd done o → done.length + l.length ≤ 2000 → (∀ s ∈ l, -9223372036854775808 ≤ s.2.2.2.2.2 ∧ s.2.2.2.2.2 ≤ 9223372036854775807) →
    Bnd (done ++ l) ((cellsC l).foldl joinStep (o, true)).1
  | [], done, o, _, h, _, _ => by simpa [cellsC] using h
  | s :: l, done, o, hne, h, hn, hv => by
    have h2 := two_bnd done o s h (by simp at hn; omega) hne (hv s (by simp))
    have h3 := join_bnd l (done ++ [s]) (twoC o (oneS s)) (by simp) h2 (by simp at hn ⊢; omega) (fun x hx => hv x (by simp [hx]))
    have e : joinStep (o, true) (oneS s) = (twoC o (oneS s), true) := by unfold joinStep; rw [one_unit]; rfl
    show Bnd (done ++ s :: l) ((oneS s :: cellsC l).foldl joinStep (o, true)).1
    rw [List.foldl_cons, e]
    simpa using h3
theorem unit_bnd : Bnd [] CL.unit := by
  refine ⟨rfl, ?_, fun i => ⟨Int.le_refl _, Int.le_refl _⟩, ?_, ?_, ?_, ?_, ?_, ?_⟩
  · decide +kernel
  all_goals (intro x; first | (intro hx; cases hx) | exact absurd rfl x)
theorem cells_bnd (l : List Smp) (hn : l.length ≤ 2000) (hv : ∀ s ∈ l, -9223372036854775808 ≤ s.2.2.2.2.2 ∧ s.2.2.2.2.2 ≤ 9223372036854775807) : Bnd l (joinC (cellsC l)) := by
  rcases l with _ | ⟨s, l⟩
  · exact unit_bnd
  · have h := join_bnd l [s] (oneS s) (by simp) (one_bnd s (hv s (by simp))) (by simp at hn ⊢; omega) (fun x hx => hv x (by simp [hx]))
    have e : joinStep (CL.unit, false) (oneS s) = (oneS s, true) := by unfold joinStep; rw [one_unit]; rfl
    show Bnd (s :: l) ((oneS s :: cellsC l).foldl joinStep (CL.unit, false)).1
    rw [List.foldl_cons, e]
    exact h
theorem cells_lo (l : List Smp) : ∀ c ∈ cellsC l, LoOk c := by
  intro c hc
  obtain ⟨s, _, rfl⟩ := List.mem_map.1 hc
  show 0 ≤ s.2.2.2.2.2 % 18446744073709551616 ∧ s.2.2.2.2.2 % 18446744073709551616 < 18446744073709551616
  omega
theorem any_snoc (l : List Smp) (j : Nat) (z : Smp) (p : Smp → Bool) (h : j < l.length) : (l.take (j + 1)).any p = ((l.take j).any p || p (l.getD j z)) := by
  rw [List.take_succ_eq_append_getElem h, List.any_append, List.getD_eq_getElem?_getD, List.getElem?_eq_getElem h]
  simp
end Go.Proofs.Ytheaipbnbnjlgaa.Ce
