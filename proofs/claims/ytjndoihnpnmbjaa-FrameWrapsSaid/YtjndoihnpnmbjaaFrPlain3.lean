/- Frames one behind the other, cut anywhere: which are split off. -/
import Derived.Test.YtjndoihnpnmbjaaFrPlain2
namespace Go.Proofs.Ytjndoihnpnmbjaa.PFrameSums
open Go.RowKit Go.Proofs.YtjndoihnpnmbjaaW.PrintWords Go.Proofs.YtjndoihnpnmbjaaW.PrintLast Go.Proofs.YtjndoihnpnmbjaaW.PrintMore
open Go.Proofs.Ytjndoihnpnmbjaa.Flow
set_option linter.unusedVariables false
set_option linter.unusedSimpArgs false
/-- The frames that bytes begin with, and how many bytes these are. -/
inductive SplitR : List Int → List (List Int) → Nat → Prop
  | none (b : List Int) : wholeP b = 0 → SplitR b [] 0
  | some (b : List Int) (l : List (List Int)) (n : Nat) : wholeP b ≠ 0 → SplitR (b.drop (wholeP b)) l n → SplitR b ((b.take (wholeP b)).drop 8 :: l) (wholeP b + n)
theorem wholeP_le (b : List Int) : wholeP b = 0 ∨ (8 ≤ wholeP b ∧ wholeP b ≤ b.length) := by
  unfold wholeP
  split
  · exact Or.inl rfl
  · split
    · exact Or.inl rfl
    · split
      · exact Or.inl rfl
      · split
        · right
          omega
        · exact Or.inl rfl
def FC (ps : List (List Int)) : List Int := (ps.map frameB).flatten
def ends (ps : List (List Int)) (j : Nat) : Nat := (FC (ps.take j)).length
theorem FC_cons (p : List Int) (ps : List (List Int)) : FC (p :: ps) = frameB p ++ FC ps := rfl
theorem ends_zero (ps : List (List Int)) : ends ps 0 = 0 := by simp [ends, FC]
theorem ends_cons (p : List Int) (ps : List (List Int)) (j : Nat) : ends (p :: ps) (j + 1) = (frameB p).length + ends ps j := by
  unfold ends
  rw [List.take_succ_cons, FC_cons, List.length_append]
theorem whole_frame (p r : List Int) (hl : p.length ≤ 16376) : wholeP (frameB p ++ r) = 8 + p.length := by
  have hf := frameB_len p hl
  obtain ⟨a, b, h, ha, hb, h1, h2⟩ := frameB_parts p hl
  have hS := fnv_range p 2166136261 (by omega)
  obtain ⟨S, hSn⟩ := Int.eq_ofNat_of_zero_le hS.1
  have hvb : valN b = S := by rw [hb, hSn]; exact valN_low4 S (by omega)
  have e1 : ((frameB p ++ r).drop 8).take p.length = p := by
    rw [h, List.append_assoc, show (8 : Nat) = (a ++ b).length by simp; omega, List.drop_left, List.take_left]
  have e2 : ((frameB p ++ r).take 8).drop 4 = b := by
    rw [h, List.append_assoc, show (8 : Nat) = (a ++ b).length by simp; omega, List.take_left, ← h1, List.drop_left]
  unfold wholeP
  rw [take4 p hl r, List.length_append, if_neg (by omega), if_neg (by omega), if_neg (by omega), e1, e2, hvb, if_pos (by rw [hSn])]
theorem split_frames : ∀ (ps : List (List Int)), (∀ p ∈ ps, p.length ≤ 16376) → ∀ (k : Nat) (l : List (List Int)) (n : Nat), SplitR ((FC ps).take k) l n →
    ∃ wh, wh ≤ ps.length ∧ l = ps.take wh ∧ n = ends ps wh ∧ ends ps wh ≤ k ∧ (wh < ps.length → k < ends ps (wh + 1))
  | [], _, k, l, n, h => by
    have e : (FC []).take k = [] := by simp [FC]
    rw [e] at h
    cases h with
    | none _ h0 => exact ⟨0, by simp, rfl, (ends_zero _).symm, by rw [ends_zero]; omega, fun h => by simp at h⟩
    | some _ l n h0 _ => exact absurd (by simp [wholeP]) h0
  | p :: ps, hps, k, l, n, h => by
    have hp := hps p (by simp)
    have hf := frameB_len p hp
    rw [FC_cons] at h
    by_cases hk : k < (frameB p).length
    · have e : (frameB p ++ FC ps).take k = (frameB p).take k := by rw [List.take_append_of_le_length (by omega)]
      have e0 := whole_cut p hp k hk
      rw [e] at h
      cases h with
      | none _ h0 => exact ⟨0, by simp, rfl, (ends_zero _).symm, by rw [ends_zero]; omega, fun _ => by rw [ends_cons, ends_zero]; omega⟩
      | some _ l n h0 _ => exact absurd e0 h0
    · have e : (frameB p ++ FC ps).take k = frameB p ++ (FC ps).take (k - (frameB p).length) := by
        rw [List.take_append, List.take_of_length_le (by omega)]
      have e0 := whole_frame p ((FC ps).take (k - (frameB p).length)) hp
      rw [e] at h
      cases h with
      | none _ h0 => rw [e0] at h0; omega
      | some _ l' n' h0 hs =>
        have ed : (frameB p ++ (FC ps).take (k - (frameB p).length)).drop (8 + p.length) = (FC ps).take (k - (frameB p).length) := by rw [← hf, List.drop_left]
        have et : ((frameB p ++ (FC ps).take (k - (frameB p).length)).take (8 + p.length)).drop 8 = p := by
          rw [← hf, List.take_left]
          obtain ⟨a, b, h, ha, hb, h1, h2⟩ := frameB_parts p hp
          rw [h, show (8 : Nat) = (a ++ b).length by simp; omega, List.drop_left]
        rw [e0, ed] at hs
        obtain ⟨wh, q1, q2, q3, q4, q5⟩ := split_frames ps (fun x hx => hps x (List.mem_cons_of_mem _ hx)) _ _ _ hs
        refine ⟨wh + 1, by simp; omega, ?_, ?_, ?_, fun hlt => ?_⟩
        · rw [e0, et, q2, List.take_succ_cons]
        · rw [e0, ends_cons, q3]; omega
        · rw [ends_cons]; omega
        · have := q5 (by simpa using hlt)
          rw [ends_cons]
          omega
theorem ends_step : ∀ (ps : List (List Int)) (j : Nat), j < ps.length → ends ps (j + 1) = ends ps j + (frameB (rd_L2 ps (j : Int))).length
  | p :: ps, 0, _ => by
    rw [ends_cons, ends_zero, ends_zero, rd_L2_at _ 0 (by simp)]
    simp
  | p :: ps, j + 1, h => by
    have hj : j < ps.length := by simpa using h
    rw [ends_cons, ends_cons, ends_step ps j hj, rd_L2_at _ (j + 1) h, rd_L2_at ps j hj]
    simp only [List.getElem_cons_succ]
    omega
theorem ends_mono (ps : List (List Int)) : ∀ (j i : Nat), i ≤ j → j ≤ ps.length → ends ps i ≤ ends ps j
  | 0, i, h, _ => by rw [show i = 0 by omega]; exact Nat.le_refl _
  | j + 1, i, h, hj => by
    by_cases h1 : i = j + 1
    · rw [h1]; exact Nat.le_refl _
    · have h2 := ends_mono ps j i (by omega) (by omega)
      have h3 := ends_step ps j (by omega)
      omega
/-- The number of whole frames is told by their ends. -/
theorem ends_uniq (ps : List (List Int)) (k a b : Nat) (ha : a ≤ ps.length) (hb : b ≤ ps.length) (a1 : ends ps a ≤ k) (a2 : a < ps.length → k < ends ps (a + 1)) (b1 : ends ps b ≤ k) (b2 : b < ps.length → k < ends ps (b + 1)) : a = b := by
  rcases Nat.lt_trichotomy a b with h | h | h
  · have := ends_mono ps b (a + 1) h hb
    have := a2 (by omega)
    omega
  · exact h
  · have := ends_mono ps a (b + 1) h ha
    have := b2 (by omega)
    omega
theorem FC_take (ps : List (List Int)) (j : Nat) (h : j < ps.length) : FC (ps.take (j + 1)) = FC (ps.take j) ++ frameB (rd_L2 ps (j : Int)) := by
  unfold FC
  rw [List.take_succ_eq_append_getElem h, List.map_append, List.flatten_append, rd_L2_at ps j h]
  simp
end Go.Proofs.Ytjndoihnpnmbjaa.PFrameSums
