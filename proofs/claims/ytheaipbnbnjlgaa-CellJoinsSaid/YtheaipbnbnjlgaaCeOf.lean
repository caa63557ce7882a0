/- The document's cell of a row of samples: plain. -/
import Derived.Test.YtheaipbnbnjlgaaCeGroups
import Derived.Test.YtheaipbnbnjlgaaCeAdd
namespace Go.Proofs.Ytheaipbnbnjlgaa.Ce
open Go.RowKit Go.Proofs.YtheaipbnbnjlgaaW.PrintWords Go.Proofs.YtheaipbnbnjlgaaW.PrintLast Go.Proofs.YtheaipbnbnjlgaaW.PrintMore
open Go.Proofs.Ytheaipbnbnjlgaa.Flow
set_option linter.unusedVariables false
set_option linter.unusedSimpArgs false
theorem fold_bnd (l : List Smp) (j : Nat) (hn : l.length ≤ 2000) (hv : VOk l) : Bnd (l.take j) (foldC (l.take j)) := cells_bnd _ (by rw [List.length_take]; omega) (hv.sub (fun s hs => List.mem_of_mem_take hs))
theorem atF_bnd {l : List Smp} {c : CL} (h : Bnd l c) (i : Nat) : 0 ≤ atF c.h i ∧ atF c.h i ≤ (l.length : Int) := by
  unfold atF
  split
  · exact h.h _
  · omega
theorem wl_lo (al bl : Int) : 0 ≤ wl al bl ∧ wl al bl < 18446744073709551616 := by unfold wl; omega
theorem wrap_rng (x : Int) : -9223372036854775808 ≤ wrap64 x ∧ wrap64 x ≤ 9223372036854775807 := by unfold wrap64; omega
theorem upd_one (f : Fin 65 → Int) (b : Nat) (hw : ∀ i, wrap64 (f i + 0) = f i ∧ wrap64 (f i + 1) = f i + 1) : (fun i => wrap64 (f i + updF (fun _ => 0) b 1 i)) = updF f b (atF f b + 1) := by
  funext i
  unfold updF
  by_cases h : i.val = b
  · rw [if_pos h, if_pos h, (hw i).2]
    unfold atF
    rw [dif_pos (by rw [← h]; exact i.isLt)]
    congr 2
    exact Fin.ext h
  · rw [if_neg h, if_neg h, (hw i).1]
theorem of_leaf (l : List Smp) (j : Nat) (hj : j < l.length) (hn : l.length ≤ 2000) (hv : VOk l) (s : Smp) (hs : s = l.getD j (0, 0, 0, 0, 0, 0)) (o : CL) (ho : o = foldC (l.take j)) (mn mx t src seq v : Int)
    (hmn : mn = if j = 0 ∨ s.2.2.2.2.2 < o.mn then s.2.2.2.2.2 else o.mn) (hmx : mx = if j = 0 ∨ o.mx < s.2.2.2.2.2 then s.2.2.2.2.2 else o.mx)
    (hl : (t, src, seq, v) = if j = 0 ∨ later s.2.2.2.1 s.1 s.2.1 s.2.2.2.2.2 o.t o.src o.seq o.v = true then (s.2.2.2.1, s.1, s.2.1, s.2.2.2.2.2) else (o.t, o.src, o.seq, o.v)) :
    foldC (l.take (j + 1)) = (⟨o.cnt + 1, wh o.hi o.lo (s.2.2.2.2.2 / 9223372036854775808) (s.2.2.2.2.2 % 18446744073709551616), wl o.lo (s.2.2.2.2.2 % 18446744073709551616), mn, mx, t, src, seq, v, updF o.h (blen s.2.2.2.2.2.natAbs) (atF o.h (blen s.2.2.2.2.2.natAbs) + 1)⟩ : CL) := by
  have hs2 : s = l[j] := by rw [hs, List.getD_eq_getElem?_getD, List.getElem?_eq_getElem hj]; rfl
  have e : l.take (j + 1) = l.take j ++ [s] := by rw [List.take_succ_eq_append_getElem hj, hs2]
  have hvs : -9223372036854775808 ≤ s.2.2.2.2.2 ∧ s.2.2.2.2.2 ≤ 9223372036854775807 := hv s (by rw [hs2]; exact List.getElem_mem hj)
  have hb := fold_bnd l j hn hv
  rw [← ho] at hb
  have hlen : (l.take j).length = j := by rw [List.length_take]; omega
  rw [e]
  by_cases h0 : j = 0
  · subst h0
    have ho2 : o = CL.unit := by rw [ho]; rfl
    subst ho2
    rw [if_pos (.inl rfl)] at hmn hmx hl
    simp only [Prod.mk.injEq] at hl
    obtain ⟨l0, l1, l2, l3⟩ := hl
    subst hmn hmx l0 l1 l2 l3
    rw [List.take_zero, List.nil_append, foldC_one]
    refine cl_ext rfl ?_ ?_ rfl rfl rfl ?_
    · show s.2.2.2.2.2 / 9223372036854775808 = wrap64 (0 + s.2.2.2.2.2 / 9223372036854775808 + (0 + s.2.2.2.2.2 % 18446744073709551616) / 18446744073709551616)
      unfold wrap64
      omega
    · show s.2.2.2.2.2 % 18446744073709551616 = (0 + s.2.2.2.2.2 % 18446744073709551616) % 18446744073709551616
      omega
    · show updF (fun _ => 0) (blen s.2.2.2.2.2.natAbs) 1 = updF (fun _ => 0) (blen s.2.2.2.2.2.natAbs) (atF (fun _ => 0) (blen s.2.2.2.2.2.natAbs) + 1)
      have e0 : atF (fun _ => (0 : Int)) (blen s.2.2.2.2.2.natAbs) = 0 := by unfold atF; split <;> rfl
      rw [e0]
      rfl
  · have hne : l.take j ≠ [] := by
      intro h
      rw [h] at hlen
      exact h0 hlen.symm
    rw [foldC_snoc _ s hne, ← ho]
    have c0 : ∀ p : Prop, (j = 0 ∨ p) ↔ p := fun p => ⟨fun h => h.resolve_left h0, .inr⟩
    simp only [c0] at hmn hmx hl
    refine cl_ext ?_ rfl rfl ?_ ?_ ?_ ?_
    · show wrap64 (o.cnt + 1) = o.cnt + 1
      rw [hb.cnt, hlen]
      exact wrap_small (by omega) (by omega)
    · show min o.mn s.2.2.2.2.2 = mn
      rw [hmn]
      split <;> omega
    · show max o.mx s.2.2.2.2.2 = mx
      rw [hmx]
      split <;> omega
    · rw [two_last]
      show mx4 (o.t, o.src, o.seq, o.v) (s.2.2.2.1, s.1, s.2.1, s.2.2.2.2.2) = (t, src, seq, v)
      rw [hl]
      rfl
    · show (fun i => wrap64 (o.h i + updF (fun _ => 0) (blen s.2.2.2.2.2.natAbs) 1 i)) = _
      refine upd_one o.h _ (fun i => ?_)
      have h1 := hb.h i
      rw [hlen] at h1
      exact ⟨by rw [wrap_small (by omega) (by omega)]; omega, wrap_small (by omega) (by omega)⟩
end Go.Proofs.Ytheaipbnbnjlgaa.Ce
