/- Numbers as bytes: what the printed functions compute. -/
import Derived.Test.YtjndoihnpnmbjaaFrPlain4
import Derived.Test.YtjndoihnpnmbjaaFrCut4
namespace Go.Proofs.Ytjndoihnpnmbjaa.PFrameSums
open Go.RowKit Go.Proofs.YtjndoihnpnmbjaaW.PrintWords Go.Proofs.YtjndoihnpnmbjaaW.PrintLast Go.Proofs.YtjndoihnpnmbjaaW.PrintMore
open Go.Proofs.Ytjndoihnpnmbjaa.Flow
set_option linter.unusedVariables false
set_option linter.unusedSimpArgs false
theorem take_f (b : List Int) (hb : Bytes b) (hl : b.length ≤ 140737488355328) (K : Nat) (hK : 12 ≤ K) : frame_take.f K b = some ((takeP b).1, (((takeP b).2 : Nat) : Int)) := by
  obtain ⟨k, rfl⟩ : ∃ k, K = k + 2 := ⟨K - 2, by omega⟩
  unfold frame_take.f takeP
  by_cases c1 : b.length = 0
  · rw [if_pos (by omega), if_pos c1, frame_take.j0, if_pos rfl]
    rfl
  rw [if_neg (by omega), if_neg c1, if_pos (by omega)]
  have hr := rd_range hb 0 (by omega)
  rw [show ((0 : Nat) : Int) = 0 from rfl] at hr
  by_cases c2 : 8 < rd b 0
  · rw [if_pos c2, if_pos c2, frame_take.j0, if_pos rfl]
    rfl
  rw [if_neg c2, if_neg c2]
  have e1 : wrap64 (rd b 0) = rd b 0 := wrap_id (by omega) (by omega)
  have e2 : wrap64 ((b.length : Int) - 1) = (b.length : Int) - 1 := wrap_id (by omega) (by omega)
  rw [e1, e2]
  by_cases c3 : (b.length : Int) - 1 < rd b 0
  · rw [if_pos c3, frame_take.j0, if_pos (decide_eq_true c3)]
    rfl
  rw [if_neg c3, frame_take.j0, if_neg (by rw [decide_eq_false c3]; decide), if_pos (by omega), e1]
  have e3 : wrap64 (1 + rd b 0) = 1 + rd b 0 := wrap_id (by omega) (by omega)
  have key : frame_take.j1 k.succ b (rd b 0) false = some (bk (valN ((b.take (1 + (rd b 0).toNat)).drop 1)), ((1 + (rd b 0).toNat : Nat) : Int)) := by
    rw [frame_take.j1, if_neg (by decide), e3, if_pos (by omega), if_pos (by omega), show (1 + rd b 0).toNat = 1 + (rd b 0).toNat by omega]
    have hB : Bytes ((b.take (1 + (rd b 0).toNat)).drop 1) := (hb.take _).drop _
    have hL : ((b.take (1 + (rd b 0).toNat)).drop 1).length ≤ 8 := by rw [List.length_drop, List.length_take]; omega
    have hv := valN_lt _ hB
    have h9 : 2 ^ (8 * ((b.take (1 + (rd b 0).toNat)).drop 1).length) ≤ 2 ^ 64 := Nat.pow_le_pow_right (by omega) (by omega)
    have hv64 : valN ((b.take (1 + (rd b 0).toNat)).drop 1) < 18446744073709551616 := Nat.lt_of_lt_of_le hv h9
    rw [high_f _ hB hL k (by omega), Option.bind_some, back_f _ hv64, Option.bind_some]
    congr 2
    omega
  by_cases c4 : 0 < rd b 0
  · rw [if_pos c4, if_pos (by omega), if_pos (by omega)]
    by_cases c5 : rd b (rd b 0) = 0
    · rw [if_pos ⟨c4, c5⟩, frame_take.j1, if_pos (by simpa using c5)]
      rfl
    · rw [if_neg (fun h => c5 h.2), show (rd b (rd b 0) == 0) = false by simpa using c5]
      exact key
  · rw [if_neg c4, if_neg (fun h => c4 h.1)]
    exact key
theorem PB_cons (y : Int) (ys : List Int) : PB (y :: ys) = numB y ++ PB ys := rfl
theorem nums_ok : ∀ (ys x : List Int) (most : Int) (K : Nat), (∀ y ∈ ys, I64 y) → ys.length + 13 ≤ K → (x.length : Int) + ys.length ≤ most → x.length + ys.length ≤ 1000000 → frame_Nums.l0 K (PB ys) most x = some (x ++ ys, none)
  | [], x, most, K, hy, hK, hm, hl => by
    obtain ⟨k, rfl⟩ : ∃ k, K = k + 1 := ⟨K - 1, by omega⟩
    rw [frame_Nums.l0, if_neg (by simp [PB])]
    simp
  | y :: ys, x, most, K, hy, hK, hm, hl => by
    obtain ⟨k, rfl⟩ : ∃ k, K = k + 1 := ⟨K - 1, by omega⟩
    have h1 := hy y (by simp)
    have hn := numB_len y
    have hs := szN_le (tn_lt h1)
    have hp := PB_len (y :: ys) hy
    have hpb := PB_bytes (y :: ys) hy
    rw [List.length_cons] at hp hm hl hK
    have hpl : (PB (y :: ys)).length = (numB y).length + (PB ys).length := by rw [PB_cons, List.length_append]
    rw [frame_Nums.l0, if_pos (by omega), take_f _ hpb (by omega) k (by omega), Option.bind_some]
    rw [PB_cons, take_num y h1 (PB ys)]
    simp only
    rw [if_neg (by omega), if_neg (by omega), if_pos (by omega), if_pos (by omega), if_pos (by rw [List.length_append]; omega)]
    have e : (numB y ++ PB ys).drop (((1 + szN (tn y) : Nat) : Int)).toNat = PB ys := by rw [Int.toNat_natCast, ← hn, List.drop_left]
    rw [e, nums_ok ys (x ++ [y]) most k (fun z hz => hy z (List.mem_cons_of_mem _ hz)) (by omega) (by simp only [List.length_append, List.length_singleton]; omega) (by simp only [List.length_append, List.length_singleton]; omega)]
    simp
theorem nums_few : ∀ (ys x : List Int) (most : Int) (K : Nat), (∀ y ∈ ys, I64 y) → ys.length + 13 ≤ K → (x.length : Int) ≤ most → most < (x.length : Int) + ys.length → x.length + ys.length ≤ 1000000 → frame_Nums.l0 K (PB ys) most x = some ([], some 3)
  | [], x, most, K, hy, hK, h0, hm, hl => by simp at hm; omega
  | y :: ys, x, most, K, hy, hK, h0, hm, hl => by
    obtain ⟨k, rfl⟩ : ∃ k, K = k + 1 := ⟨K - 1, by omega⟩
    have h1 := hy y (by simp)
    have hn := numB_len y
    have hs := szN_le (tn_lt h1)
    have hp := PB_len (y :: ys) hy
    have hpb := PB_bytes (y :: ys) hy
    rw [List.length_cons] at hp hm hl hK
    have hpl : (PB (y :: ys)).length = (numB y).length + (PB ys).length := by rw [PB_cons, List.length_append]
    rw [frame_Nums.l0, if_pos (by omega), take_f _ hpb (by omega) k (by omega), Option.bind_some]
    rw [PB_cons, take_num y h1 (PB ys)]
    simp only
    rw [if_neg (by omega)]
    by_cases h2 : most ≤ (x.length : Int)
    · rw [if_pos h2]
    · rw [if_neg h2, if_pos (by omega), if_pos (by omega), if_pos (by rw [List.length_append]; omega)]
      have e : (numB y ++ PB ys).drop (((1 + szN (tn y) : Nat) : Int)).toNat = PB ys := by rw [Int.toNat_natCast, ← hn, List.drop_left]
      rw [e, nums_few ys (x ++ [y]) most k (fun z hz => hy z (List.mem_cons_of_mem _ hz)) (by omega) (by simp only [List.length_append, List.length_singleton]; omega) (by simp only [List.length_append, List.length_singleton]; omega) (by simp only [List.length_append, List.length_singleton]; omega)]
theorem ints_l0 (l : List Int) (hl : l.length ≤ 9223372036854775806) : ∀ (m K i : Nat), m + 1 ≤ K → i + m = l.length → estuarynum_Ints.l0 K l l (l.length : Int) (i : Int) = some true
  | 0, K, i, hK, hi => by
    obtain ⟨k, rfl⟩ : ∃ k, K = k + 1 := ⟨K - 1, by omega⟩
    rw [estuarynum_Ints.l0, if_neg (by omega)]
  | m + 1, K, i, hK, hi => by
    obtain ⟨k, rfl⟩ : ∃ k, K = k + 1 := ⟨K - 1, by omega⟩
    have e2 : wrap64 ((i : Int) + 1) = ((i + 1 : Nat) : Int) := wrap_id (by omega) (by omega)
    rw [estuarynum_Ints.l0, if_pos (by omega), if_pos (by omega), if_pos (by omega), if_pos (by omega), if_pos rfl, e2]
    exact ints_l0 l hl m k (i + 1) (by omega) (by omega)
theorem ints_f (l : List Int) (hl : l.length ≤ 9223372036854775806) : estuarynum_Ints.f (l.length + 1) l l = some true := by
  unfold estuarynum_Ints.f
  rw [if_pos rfl]
  exact ints_l0 l hl l.length _ 0 (by omega) (by omega)
end Go.Proofs.Ytjndoihnpnmbjaa.PFrameSums
