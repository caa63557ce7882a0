/- Frames: what the printed functions compute, in numbers and lists. -/
import Derived.Test.YtjndoihnpnmbjaaFrCut
import Derived.Test.YtjndoihnpnmbjaaFlowF
namespace Go.Proofs.Ytjndoihnpnmbjaa.PFrameSums
open Go.RowKit Go.Proofs.YtjndoihnpnmbjaaW.PrintWords Go.Proofs.YtjndoihnpnmbjaaW.PrintLast Go.Proofs.YtjndoihnpnmbjaaW.PrintMore
open Go.Proofs.Ytjndoihnpnmbjaa.Flow
set_option linter.unusedVariables false
set_option linter.unusedSimpArgs false
/-- The lowest n bytes from the i-th on. -/
def lowl (u : Int) : Nat → Nat → List Int
  | 0, _ => []
  | n + 1, i => (shr .u64 u (8 * (i : Int))) % 256 :: lowl u n (i + 1)
theorem lowl_len (u : Int) : ∀ n i, (lowl u n i).length = n
  | 0, _ => rfl
  | n + 1, i => by simp [lowl, lowl_len u n]
theorem low_l0 (u : Int) (N : Nat) (hN : N ≤ 8) : ∀ (n K i : Nat) (l : List Int), n + 1 ≤ K → i + n = N → l.length + n < 140737488355328 → frame_low.l0 K l u (N : Int) (i : Int) = some (l ++ lowl u n i)
  | 0, K, i, l, hK, hi, hl => by
    obtain ⟨k, rfl⟩ : ∃ k, K = k + 1 := ⟨K - 1, by omega⟩
    rw [frame_low.l0, if_neg (by omega)]
    simp [lowl]
  | n + 1, K, i, l, hK, hi, hl => by
    obtain ⟨k, rfl⟩ : ∃ k, K = k + 1 := ⟨K - 1, by omega⟩
    have e1 : wrap64 (8 * (i : Int)) = 8 * (i : Int) := wrap_id (by omega) (by omega)
    have e2 : wrap64 ((i : Int) + 1) = ((i + 1 : Nat) : Int) := wrap_id (by omega) (by omega)
    rw [frame_low.l0, if_pos (by omega), e1, if_pos (by omega), if_pos (by omega), e2]
    rw [low_l0 u N hN n k (i + 1) _ (by omega) (by omega) (by simp; omega)]
    simp [lowl]
theorem low_f (K : Nat) (l : List Int) (u : Int) (N : Nat) (hN : N ≤ 8) (hK : N + 1 ≤ K) (hl : l.length + N < 140737488355328) : frame_low.f K l u (N : Int) = some (l ++ lowl u N 0) := by
  unfold frame_low.f
  exact low_l0 u N hN N K 0 l hK (by omega) hl
/-- The sum. -/
def fnv (s : Int) (l : List Int) : Int := l.foldl (fun s c => ((Go.bits .xor .u32 s (c % 4294967296)) * 16777619) % 4294967296) s
theorem fnv_append (s : Int) (l m : List Int) : fnv s (l ++ m) = fnv (fnv s l) m := by simp [fnv]
theorem sum_l1 (ps : List (List Int)) (j : Nat) (p : List Int) (hp : p.length ≤ 9223372036854775806) (K0 : Nat) (R : Option Int) : ∀ (m K i : Nat) (s : Int), m + 1 + K0 ≤ K → i + m = p.length → (∀ K', K0 ≤ K' → frame_Sum.l0 K' (fnv s (p.drop i)) ps (ps.length : Int) (wrap64 ((j : Int) + 1)) = R) →
    frame_Sum.l1 K s ps (ps.length : Int) (j : Int) p (p.length : Int) (i : Int) = R
  | 0, K, i, s, hK, hi, h => by
    obtain ⟨k, rfl⟩ : ∃ k, K = k + 1 := ⟨K - 1, by omega⟩
    rw [frame_Sum.l1, if_neg (by omega)]
    have := h k (by omega)
    rw [List.drop_of_length_le (by omega)] at this
    exact this
  | m + 1, K, i, s, hK, hi, h => by
    obtain ⟨k, rfl⟩ : ∃ k, K = k + 1 := ⟨K - 1, by omega⟩
    have e2 : wrap64 ((i : Int) + 1) = ((i + 1 : Nat) : Int) := wrap_id (by omega) (by omega)
    rw [frame_Sum.l1, if_pos (by omega), if_pos (by omega), if_pos (by omega), e2]
    refine sum_l1 ps j p hp K0 R m k (i + 1) _ (by omega) (by omega) (fun K' hK' => ?_)
    have := h K' hK'
    have hlt : i < p.length := by omega
    rw [List.drop_eq_getElem_cons hlt] at this
    have e3 : rd p (i : Int) = p[i] := by
      unfold rd
      rw [List.getD_eq_getElem?_getD, show ((i : Int)).toNat = i by omega, List.getElem?_eq_getElem hlt]
      rfl
    rw [e3]
    exact this
theorem rd_L2_at (ps : List (List Int)) (j : Nat) (h : j < ps.length) : rd_L2 ps (j : Int) = ps[j] := by
  unfold rd_L2
  rw [List.getD_eq_getElem?_getD, show ((j : Int)).toNat = j by omega, List.getElem?_eq_getElem h]
  rfl
theorem sum_l0 (ps : List (List Int)) (hps : ps.length ≤ 9223372036854775806) (hall : ∀ p ∈ ps, p.length ≤ 9223372036854775806) : ∀ (m K j : Nat) (s : Int), j + m = ps.length → 2 * m + 1 + ((ps.drop j).flatten).length ≤ K → frame_Sum.l0 K s ps (ps.length : Int) (j : Int) = some (fnv s ((ps.drop j).flatten))
  | 0, K, j, s, hj, hK => by
    obtain ⟨k, rfl⟩ : ∃ k, K = k + 1 := ⟨K - 1, by omega⟩
    rw [frame_Sum.l0, if_neg (by omega), List.drop_of_length_le (by omega)]
    rfl
  | m + 1, K, j, s, hj, hK => by
    obtain ⟨k, rfl⟩ : ∃ k, K = k + 1 := ⟨K - 1, by omega⟩
    have hlt : j < ps.length := by omega
    have e2 : wrap64 ((j : Int) + 1) = ((j + 1 : Nat) : Int) := wrap_id (by omega) (by omega)
    rw [List.drop_eq_getElem_cons hlt] at hK ⊢
    simp only [List.flatten_cons, List.length_append] at hK ⊢
    rw [frame_Sum.l0, if_pos (by omega), if_pos (by omega), if_pos (by omega), rd_L2_at ps j hlt]
    refine sum_l1 ps j ps[j] (hall _ (List.getElem_mem hlt)) (2 * m + 1 + ((ps.drop (j + 1)).flatten).length) _ ps[j].length k 0 s (by omega) (by omega) (fun K' hK' => ?_)
    rw [e2, sum_l0 ps hps hall m K' (j + 1) _ (by omega) hK', fnv_append]
    rfl
theorem sum_f (ps : List (List Int)) (hps : ps.length ≤ 9223372036854775806) (hall : ∀ p ∈ ps, p.length ≤ 9223372036854775806) (K : Nat) (hK : 2 * ps.length + 1 + ps.flatten.length ≤ K) : frame_Sum.f K ps = some (fnv 2166136261 ps.flatten) := by
  unfold frame_Sum.f
  exact sum_l0 ps hps hall ps.length K 0 _ (by omega) hK
theorem fnv_range : ∀ (l : List Int) (s : Int), 0 ≤ s ∧ s < 4294967296 → 0 ≤ fnv s l ∧ fnv s l < 4294967296
  | [], s, h => h
  | c :: r, s, h => fnv_range r _ ⟨Int.emod_nonneg _ (by decide), Int.emod_lt_of_pos _ (by decide)⟩
/-- Too large for the document's answer. -/
def lg (ps : List (List Int)) : Bool := (ps.any fun p => decide (65536 < p.length)) || decide (65536 < ps.flatten.length) || decide (300 < ps.length)
theorem large_l0 (xs : List (List Int)) (ps : List (List Int)) (hps : ps.length ≤ 6000000000000) : ∀ (m K j : Nat) (n : Nat), j + m = ps.length → m + 1 ≤ K → n ≤ 65536 * j → estuarylaw04_large.l0 K xs (n : Int) ps (ps.length : Int) (j : Int) = some (((ps.drop j).any fun p => decide (65536 < p.length)) || decide (65536 < n + ((ps.drop j).flatten).length) || decide (300 < xs.length))
  | 0, K, j, n, hj, hK, hn => by
    obtain ⟨k, rfl⟩ : ∃ k, K = k + 1 := ⟨K - 1, by omega⟩
    rw [estuarylaw04_large.l0, if_neg (by omega), List.drop_of_length_le (by omega)]
    simp only [List.any_nil, Bool.false_or, List.flatten_nil, List.length_nil, Nat.add_zero]
    by_cases h : 65536 < n
    · rw [if_pos (by omega), decide_eq_true h]
      rfl
    · rw [if_neg (by omega), decide_eq_false h, Bool.false_or]
      congr 1
      rw [decide_eq_decide]
      omega
  | m + 1, K, j, n, hj, hK, hn => by
    obtain ⟨k, rfl⟩ : ∃ k, K = k + 1 := ⟨K - 1, by omega⟩
    have hlt : j < ps.length := by omega
    rw [List.drop_eq_getElem_cons hlt]
    rw [estuarylaw04_large.l0, if_pos (by omega), if_pos (by omega), if_pos (by omega), rd_L2_at ps j hlt]
    simp only [List.any_cons, List.flatten_cons, List.length_append]
    by_cases h : 65536 < ps[j].length
    · rw [if_pos (by omega), decide_eq_true h]
      rfl
    · rw [if_neg (by omega), decide_eq_false h, Bool.false_or]
      have e2 : wrap64 ((j : Int) + 1) = ((j + 1 : Nat) : Int) := wrap_id (by omega) (by omega)
      have e3 : wrap64 ((n : Int) + (ps[j].length : Int)) = ((n + ps[j].length : Nat) : Int) := wrap_id (by omega) (by omega)
      rw [e2, e3, large_l0 xs ps hps m k (j + 1) _ (by omega) (by omega) (by omega), Nat.add_assoc]
theorem large_f (ps : List (List Int)) (hps : ps.length ≤ 6000000000000) (K : Nat) (hK : ps.length + 1 ≤ K) : estuarylaw04_large.f K ps = some (lg ps) := by
  unfold estuarylaw04_large.f
  have h := large_l0 ps ps hps ps.length K 0 0 (by omega) hK (by omega)
  simp only [List.drop_zero, Nat.zero_add] at h
  exact h
theorem lg_no {ps : List (List Int)} (h : lg ps = false) : (∀ p ∈ ps, p.length ≤ 65536) ∧ ps.flatten.length ≤ 65536 ∧ ps.length ≤ 300 := by
  simp only [lg, Bool.or_eq_false_iff, decide_eq_false_iff_not, List.any_eq_false, decide_eq_true_eq] at h
  exact ⟨fun p hp => Nat.le_of_not_lt (h.1.1 p hp), Nat.le_of_not_lt h.1.2, Nat.le_of_not_lt h.2⟩
theorem take_flat (ps : List (List Int)) (i : Nat) (h : i < ps.length) : (ps.take (i + 1)).flatten = (ps.take i).flatten ++ rd_L2 ps (i : Int) := by
  rw [List.take_succ_eq_append_getElem h, rd_L2_at ps i h, List.flatten_append]
  simp only [List.flatten_cons, List.flatten_nil, List.append_nil]
theorem take_len (ps : List (List Int)) (i : Nat) (h : i < ps.length) : ((ps.take (i + 1)).flatten).length = ((ps.take i).flatten).length + (rd_L2 ps (i : Int)).length := by
  rw [take_flat ps i h, List.length_append]
theorem take_le (ps : List (List Int)) (i : Nat) : ((ps.take i).flatten).length ≤ ps.flatten.length := by
  have h : ps.flatten = (ps.take i).flatten ++ (ps.drop i).flatten := by rw [← List.flatten_append, List.take_append_drop]
  rw [h]
  simp
theorem rd_L2_mem (ps : List (List Int)) (i : Nat) (h : i < ps.length) : rd_L2 ps (i : Int) ∈ ps := by
  rw [rd_L2_at ps i h]
  exact List.getElem_mem h
/-- The frame. -/
def frameB (l : List Int) : List Int := if 16376 < l.length then [] else (lowl (l.length : Int) 4 0 ++ lowl (fnv 2166136261 l) 4 0) ++ l
def frameE (l : List Int) : Option Int := if 16376 < l.length then some 7 else none
end Go.Proofs.Ytjndoihnpnmbjaa.PFrameSums
