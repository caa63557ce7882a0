/- Order and groups don't matter: plain. -/
import Derived.Test.YtheaipbnbnjlgaaCeBounds
namespace Go.Proofs.Ytheaipbnbnjlgaa.Ce
open Go.RowKit Go.Proofs.YtheaipbnbnjlgaaW.PrintWords Go.Proofs.YtheaipbnbnjlgaaW.PrintLast Go.Proofs.YtheaipbnbnjlgaaW.PrintMore
open Go.Proofs.Ytheaipbnbnjlgaa.Flow
set_option linter.unusedVariables false
set_option linter.unusedSimpArgs false
theorem wrap_add_l (x y : Int) : wrap64 (wrap64 x + y) = wrap64 (x + y) := by unfold wrap64; omega
theorem wrap_add_r (x y : Int) : wrap64 (x + wrap64 y) = wrap64 (x + y) := by unfold wrap64; omega
theorem wrap_add3l (x y z : Int) : wrap64 (wrap64 x + y + z) = wrap64 (x + y + z) := by unfold wrap64; omega
theorem wrap_add3m (x y z : Int) : wrap64 (x + wrap64 y + z) = wrap64 (x + y + z) := by unfold wrap64; omega
/-- The greater of two places. -/
abbrev Q4 := Int × Int × Int × Int
def lt4 (a b : Q4) : Bool := later a.1 a.2.1 a.2.2.1 a.2.2.2 b.1 b.2.1 b.2.2.1 b.2.2.2
def mx4 (a b : Q4) : Q4 := if lt4 b a then b else a
theorem lt4_iff (a b : Q4) : lt4 a b = true ↔ (b.1 < a.1 ∨ (a.1 = b.1 ∧ (b.2.1 < a.2.1 ∨ (a.2.1 = b.2.1 ∧ (b.2.2.1 < a.2.2.1 ∨ (a.2.2.1 = b.2.2.1 ∧ b.2.2.2 < a.2.2.2)))))) := by
  unfold lt4 later
  split
  · split
    · split
      · rw [decide_eq_true_eq]; omega
      · rw [decide_eq_true_eq]; omega
    · rw [decide_eq_true_eq]; omega
  · rw [decide_eq_true_eq]; omega
theorem lt4_tot (a b : Q4) : lt4 a b = true ∨ lt4 b a = true ∨ a = b := by
  rw [lt4_iff, lt4_iff]
  obtain ⟨a0, a1, a2, a3⟩ := a
  obtain ⟨b0, b1, b2, b3⟩ := b
  simp only [Prod.mk.injEq]
  omega
theorem lt4_asym (a b : Q4) (h : lt4 a b = true) : lt4 b a = false := by
  cases h2 : lt4 b a
  · rfl
  · rw [lt4_iff] at h h2
    omega
theorem lt4_trans (a b c : Q4) (h : lt4 a b = true) (h2 : lt4 b c = true) : lt4 a c = true := by
  rw [lt4_iff] at h h2 ⊢
  omega
theorem mx4_comm (a b : Q4) : mx4 a b = mx4 b a := by
  unfold mx4
  rcases lt4_tot a b with h | h | h
  · rw [h, lt4_asym a b h]; rfl
  · rw [h, lt4_asym b a h]; rfl
  · subst h; rfl
theorem mx4_assoc (a b c : Q4) : mx4 (mx4 a b) c = mx4 a (mx4 b c) := by
  unfold mx4
  cases h1 : lt4 b a <;> cases h2 : lt4 c b <;> simp only [Bool.false_eq_true, if_false, if_true, h1, h2]
  · have h3 : lt4 c a = false := by
      cases h3 : lt4 c a
      · rfl
      · rcases lt4_tot a b with h | h | h
        · have := lt4_trans c a b h3 h; rw [h2] at this; cases this
        · rw [h1] at h; cases h
        · subst h; rw [h2] at h3; cases h3
    rw [h3]; rfl
  · have h3 : lt4 c a = true := lt4_trans c b a h2 h1
    rw [h3]; rfl
def last4 (c : CL) : Q4 := (c.t, c.src, c.seq, c.v)
theorem two_last (a b : CL) : last4 (twoC a b) = mx4 (last4 a) (last4 b) := by
  unfold last4 twoC mx4
  have e : lt4 (b.t, b.src, b.seq, b.v) (a.t, a.src, a.seq, a.v) = laterC b a := rfl
  rw [e]
  cases laterC b a <;> rfl
theorem cl_ext {a b : CL} (h0 : a.cnt = b.cnt) (h1 : a.hi = b.hi) (h2 : a.lo = b.lo) (h3 : a.mn = b.mn) (h4 : a.mx = b.mx) (h5 : last4 a = last4 b) (h6 : a.h = b.h) : a = b := by
  cases a
  cases b
  simp only [last4, Prod.mk.injEq] at h5
  simp_all
theorem two_comm (a b : CL) : twoC a b = twoC b a := by
  refine cl_ext ?_ ?_ ?_ ?_ ?_ ?_ ?_
  · show wrap64 (a.cnt + b.cnt) = wrap64 (b.cnt + a.cnt)
    rw [Int.add_comm]
  · show wrap64 (a.hi + b.hi + (a.lo + b.lo) / 18446744073709551616) = wrap64 (b.hi + a.hi + (b.lo + a.lo) / 18446744073709551616)
    rw [Int.add_comm a.hi, Int.add_comm a.lo]
  · show (a.lo + b.lo) % 18446744073709551616 = (b.lo + a.lo) % 18446744073709551616
    rw [Int.add_comm]
  · show min a.mn b.mn = min b.mn a.mn
    omega
  · show max a.mx b.mx = max b.mx a.mx
    omega
  · rw [two_last, two_last, mx4_comm]
  · show (fun i => wrap64 (a.h i + b.h i)) = (fun i => wrap64 (b.h i + a.h i))
    funext i
    rw [Int.add_comm]
theorem carry (x y z : Int) : (x + y) / 18446744073709551616 + ((x + y) % 18446744073709551616 + z) / 18446744073709551616 = (x + y + z) / 18446744073709551616 := by omega
theorem two_assoc (a b c : CL) : twoC (twoC a b) c = twoC a (twoC b c) := by
  refine cl_ext ?_ ?_ ?_ ?_ ?_ ?_ ?_
  · show wrap64 (wrap64 (a.cnt + b.cnt) + c.cnt) = wrap64 (a.cnt + wrap64 (b.cnt + c.cnt))
    rw [wrap_add_l, wrap_add_r, Int.add_assoc]
  · show wrap64 (wrap64 (a.hi + b.hi + (a.lo + b.lo) / 18446744073709551616) + c.hi + ((a.lo + b.lo) % 18446744073709551616 + c.lo) / 18446744073709551616) = wrap64 (a.hi + wrap64 (b.hi + c.hi + (b.lo + c.lo) / 18446744073709551616) + (a.lo + (b.lo + c.lo) % 18446744073709551616) / 18446744073709551616)
    have h1 := carry a.lo b.lo c.lo
    have h2 := carry b.lo c.lo a.lo
    rw [wrap_add3l, wrap_add3m]
    congr 1
    have e1 : a.lo + b.lo + c.lo = b.lo + c.lo + a.lo := by omega
    have e2 : a.lo + (b.lo + c.lo) % 18446744073709551616 = (b.lo + c.lo) % 18446744073709551616 + a.lo := by omega
    rw [e2]
    rw [e1] at h1
    generalize (a.lo + b.lo) / 18446744073709551616 = p at *
    generalize ((a.lo + b.lo) % 18446744073709551616 + c.lo) / 18446744073709551616 = q at *
    generalize (b.lo + c.lo) / 18446744073709551616 = r at *
    generalize ((b.lo + c.lo) % 18446744073709551616 + a.lo) / 18446744073709551616 = s at *
    omega
  · show ((a.lo + b.lo) % 18446744073709551616 + c.lo) % 18446744073709551616 = (a.lo + (b.lo + c.lo) % 18446744073709551616) % 18446744073709551616
    omega
  · show min (min a.mn b.mn) c.mn = min a.mn (min b.mn c.mn)
    omega
  · show max (max a.mx b.mx) c.mx = max a.mx (max b.mx c.mx)
    omega
  · rw [two_last, two_last, two_last, two_last, mx4_assoc]
  · show (fun i => wrap64 (wrap64 (a.h i + b.h i) + c.h i)) = (fun i => wrap64 (a.h i + wrap64 (b.h i + c.h i)))
    funext i
    rw [wrap_add_l, wrap_add_r, Int.add_assoc]
/-! ### Rows of samples -/
def VOk (l : List Smp) : Prop := ∀ s ∈ l, -9223372036854775808 ≤ s.2.2.2.2.2 ∧ s.2.2.2.2.2 ≤ 9223372036854775807
def foldC (l : List Smp) : CL := joinC (cellsC l)
theorem foldC_nil : foldC [] = CL.unit := rfl
theorem joinS_some : ∀ (l : List Smp) (o : CL) (b : Bool), b = true → ((cellsC l).foldl joinStep (o, b)).2 = true
  | [], _, b, h => h
  | s :: l, o, b, h => by
    subst h
    have e : joinStep (o, true) (oneS s) = (twoC o (oneS s), true) := by unfold joinStep; rw [one_unit]; rfl
    show ((oneS s :: cellsC l).foldl joinStep (o, true)).2 = true
    rw [List.foldl_cons, e]
    exact joinS_some l _ _ rfl
theorem foldC_snoc (l : List Smp) (s : Smp) (hne : l ≠ []) : foldC (l ++ [s]) = twoC (foldC l) (oneS s) := by
  have h : (joinS (cellsC l)).2 = true := by
    rcases l with _ | ⟨x, l⟩
    · exact absurd rfl hne
    · have e : joinStep (CL.unit, false) (oneS x) = (oneS x, true) := by unfold joinStep; rw [one_unit]; rfl
      show ((oneS x :: cellsC l).foldl joinStep (CL.unit, false)).2 = true
      rw [List.foldl_cons, e]
      exact joinS_some l _ _ rfl
  unfold foldC joinC
  have e : joinS (cellsC (l ++ [s])) = joinStep (joinS (cellsC l)) (oneS s) := by
    unfold joinS cellsC
    rw [List.map_append, List.foldl_append]
    rfl
  rw [e]
  unfold joinStep
  rw [one_unit, h]
  rfl
theorem foldC_one (s : Smp) : foldC [s] = oneS s := by
  show (joinStep (CL.unit, false) (oneS s)).1 = _
  unfold joinStep
  rw [one_unit]
  rfl
theorem foldC_app (a : List Smp) (ha : a ≠ []) : ∀ (n : Nat) (b : List Smp), b.length = n → b ≠ [] → foldC (a ++ b) = twoC (foldC a) (foldC b)
  | 0, b, hn, hb => absurd (List.eq_nil_of_length_eq_zero hn) hb
  | n + 1, b, hn, hb => by
    obtain ⟨c, s, rfl⟩ : ∃ c s, b = c ++ [s] := ⟨b.dropLast, b.getLast hb, (List.dropLast_concat_getLast hb).symm⟩
    by_cases hc : c = []
    · subst hc
      rw [List.nil_append, foldC_snoc a s ha, foldC_one]
    · rw [← List.append_assoc, foldC_snoc (a ++ c) s (by simp [ha]), foldC_snoc c s hc, foldC_app a ha n c (by simp at hn; exact hn) hc, two_assoc]
theorem foldC_ne (l : List Smp) (hne : l ≠ []) (hn : l.length ≤ 2000) (hv : VOk l) : eqC (foldC l) CL.unit = false := by
  have h := (cells_bnd l hn hv).cnt
  have h2 : 0 < l.length := List.length_pos_iff.2 hne
  unfold eqC
  have : ((foldC l).cnt == CL.unit.cnt) = false := by
    rw [beq_eq_false_iff_ne]
    show (joinC (cellsC l)).cnt ≠ 0
    rw [h]
    omega
  rw [this, Bool.false_and]
theorem join_two (x y : CL) : joinC [x, y] = if eqC x CL.unit then (if eqC y CL.unit then CL.unit else y) else (if eqC y CL.unit then x else twoC x y) := by
  unfold joinC joinS
  simp only [List.foldl_cons, List.foldl_nil, joinStep]
  cases eqC x CL.unit <;> cases eqC y CL.unit <;> rfl
theorem eqC_unit : eqC CL.unit CL.unit = true := (eqC_iff _ _).2 rfl
theorem join_fold (a b : List Smp) (hn : a.length + b.length ≤ 2000) (ha : VOk a) (hb : VOk b) : joinC [foldC a, foldC b] = foldC (a ++ b) := by
  rw [join_two]
  by_cases h1 : a = []
  · subst h1
    rw [foldC_nil, eqC_unit, List.nil_append]
    by_cases h2 : b = []
    · subst h2
      rw [foldC_nil, eqC_unit]
      rfl
    · rw [foldC_ne b h2 (by omega) hb]
      rfl
  · rw [foldC_ne a h1 (by omega) ha]
    by_cases h2 : b = []
    · subst h2
      rw [foldC_nil, eqC_unit, List.append_nil]
      rfl
    · rw [foldC_ne b h2 (by omega) hb, foldC_app a h1 _ b rfl h2]
      rfl
theorem fold_comm (a b : List Smp) : foldC (a ++ b) = foldC (b ++ a) := by
  by_cases h1 : a = []
  · subst h1; simp
  · by_cases h2 : b = []
    · subst h2; simp
    · rw [foldC_app a h1 _ b rfl h2, foldC_app b h2 _ a rfl h1, two_comm]
theorem join_units (x : CL) : joinC [CL.unit, x, CL.unit] = x := by
  unfold joinC joinS
  simp only [List.foldl_cons, List.foldl_nil, joinStep, eqC_unit]
  cases h : eqC x CL.unit
  · rfl
  · exact ((eqC_iff _ _).1 h).symm
theorem cellsC_seg (l : List Smp) (lo hi : Nat) : ((cellsC l).take hi).drop lo = cellsC ((l.take hi).drop lo) := by simp [cellsC, List.map_take, List.map_drop]
theorem cellsC_drop (l : List Smp) (lo : Nat) : (cellsC l).drop lo = cellsC (l.drop lo) := by simp [cellsC, List.map_drop]
theorem cellsC_get (l : List Smp) (j : Nat) (h : j < l.length) (z : Smp) : (cellsC l).getD j CL.unit = foldC [l.getD j z] := by
  rw [foldC_one, List.getD_eq_getElem?_getD, List.getD_eq_getElem?_getD]
  unfold cellsC
  rw [List.getElem?_map, List.getElem?_eq_getElem h]
  rfl
theorem fold_lo (l : List Smp) : LoOk (foldC l) := join_lo (cells_lo l)
theorem VOk.sub {l a : List Smp} (h : VOk l) (hs : ∀ s ∈ a, s ∈ l) : VOk a := fun s hs2 => h s (hs s hs2)
theorem back_step (l : List Smp) (k : Nat) (hk : k < l.length) (hn : l.length ≤ 2000) (hv : VOk l) (z : Smp) : joinC [foldC (l.drop (k + 1)), foldC [l.getD k z]] = foldC (l.drop k) := by
  have e : l.drop k = [l.getD k z] ++ l.drop (k + 1) := by
    rw [List.drop_eq_getElem_cons hk, List.getD_eq_getElem?_getD, List.getElem?_eq_getElem hk]
    rfl
  have hm : l.getD k z ∈ l := getD_mem l k z hk
  rw [join_fold _ _ (by simp; omega) (hv.sub (fun s hs => List.mem_of_mem_drop hs)) (hv.sub (fun s hs => by rw [List.mem_singleton.1 hs]; exact hm)), fold_comm, ← e]
theorem cells_len2 (l : List Smp) : (cellsC l).length = l.length := by simp [cellsC]
theorem join_on (w : World) (A1 : Option Addr) (c1 : Nat) (X : List CL) (seg : List Smp) (hX : X = cellsC seg) (hl : kCell.C w A1 X.length X) (hc : X.length ≤ c1) (hn : X.length ≤ 140737488355328) :
    Calls Try.prog 11 #[.slice A1 X.length c1] w fun e w' => e = .returned (.agg (carr (foldC seg))) ∧ Below w.heap.size w w' := by
  subst hX
  exact join_calls w A1 c1 _ hl hc hn (cells_lo seg)
theorem back_stepK (l : List Smp) (k : Nat) (h0 : 1 ≤ k) (hk : k ≤ l.length) (hn : l.length ≤ 2000) (hv : VOk l) : joinC [foldC (l.drop k), (cellsC l).getD (k - 1) CL.unit] = foldC (l.drop (k - 1)) := by
  obtain ⟨q, rfl⟩ : ∃ q, k = q + 1 := ⟨k - 1, by omega⟩
  rw [Nat.add_sub_cancel, cellsC_get l q (by omega) (0, 0, 0, 0, 0, 0)]
  exact back_step l q (by omega) hn hv _
theorem flat_drop (sg : List (List Smp)) (i : Nat) : ((sg.drop i).flatten).length ≤ sg.flatten.length ∧ ∀ s ∈ (sg.drop i).flatten, s ∈ sg.flatten := by
  have h : sg.flatten = (sg.take i).flatten ++ (sg.drop i).flatten := by rw [← List.flatten_append, List.take_append_drop]
  exact ⟨by rw [h, List.length_append]; omega, fun s hs => by rw [h]; exact List.mem_append_right _ hs⟩
theorem group_step (sg : List (List Smp)) (l : List Smp) (hf : sg.flatten = l) (i : Nat) (h0 : 1 ≤ i) (hi : i ≤ sg.length) (hn : l.length ≤ 2000) (hv : VOk l) : joinC [(sg.map foldC).getD (i - 1) CL.unit, foldC ((sg.drop i).flatten)] = foldC ((sg.drop (i - 1)).flatten) := by
  obtain ⟨q, rfl⟩ : ∃ q, i = q + 1 := ⟨i - 1, by omega⟩
  have hq : q < sg.length := by omega
  have e : (sg.map foldC).getD (q + 1 - 1) CL.unit = foldC sg[q] := by
    rw [Nat.add_sub_cancel, List.getD_eq_getElem?_getD, List.getElem?_map, List.getElem?_eq_getElem hq]
    rfl
  have e2 : (sg.drop q).flatten = sg[q] ++ (sg.drop (q + 1)).flatten := by rw [List.drop_eq_getElem_cons hq]; rfl
  have h1 := flat_drop sg q
  rw [e2, hf] at h1
  rw [e, Nat.add_sub_cancel, e2]
  exact join_fold _ _ (by have := h1.1; rw [List.length_append] at this; omega) (hv.sub (fun s hs => h1.2 s (List.mem_append_left _ hs))) (hv.sub (fun s hs => h1.2 s (List.mem_append_right _ hs)))
theorem seg_flat (l : List Smp) (sg : List (List Smp)) (p q : Nat) (h : sg.flatten = l.take p) : (sg ++ [(l.take (p + q)).drop p]).flatten = l.take (p + q) := by
  rw [List.flatten_append, h]
  have e : (l.take (p + q)).take p = l.take p := by rw [List.take_take, Nat.min_eq_left (by omega)]
  have e2 := List.take_append_drop p (l.take (p + q))
  rw [e] at e2
  simpa using e2
theorem seg_last_flat (l : List Smp) (sg : List (List Smp)) (p : Nat) (h : sg.flatten = l.take p) : (sg ++ [l.drop p]).flatten = l := by
  rw [List.flatten_append, h]
  simp
theorem el_lo (X : List CL) (j : Nat) (h : ∀ c ∈ X, LoOk c) (hj : j < X.length) : LoOk (X.getD j CL.unit) := h _ (getD_mem X j _ hj)
theorem folds_lo (sg : List (List Smp)) : ∀ c ∈ sg.map foldC, LoOk c := by
  intro c hc
  obtain ⟨s, _, rfl⟩ := List.mem_map.1 hc
  exact fold_lo s
theorem rem_nat (x : Int) (n : Nat) : ∃ q : Nat, Int.tmod (IntKind.u64.wrap x) ((n + 1 : Nat) : Int) = (q : Int) ∧ q ≤ n := by
  have h := u64_range x
  refine ⟨(Int.tmod (IntKind.u64.wrap x) ((n + 1 : Nat) : Int)).toNat, ?_, ?_⟩ <;> rw [Int.tmod_eq_emod_of_nonneg h.1] <;> have h1 := Int.emod_nonneg (IntKind.u64.wrap x) (show ((n + 1 : Nat) : Int) ≠ 0 by omega) <;> have h2 := Int.emod_lt_of_pos (IntKind.u64.wrap x) (show (0 : Int) < ((n + 1 : Nat) : Int) by omega) <;> omega
end Go.Proofs.Ytheaipbnbnjlgaa.Ce
