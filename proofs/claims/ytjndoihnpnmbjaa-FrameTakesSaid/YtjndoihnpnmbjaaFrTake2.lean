/- The document's numbers in bytes: the walks. -/
import Derived.Test.YtjndoihnpnmbjaaFrPlain6
import Derived.Test.YtjndoihnpnmbjaaFrTake
namespace Go.Proofs.Ytjndoihnpnmbjaa.PFrameSums
open Go.RowKit Go.Proofs.YtjndoihnpnmbjaaW.PrintWords Go.Proofs.YtjndoihnpnmbjaaW.PrintLast Go.Proofs.YtjndoihnpnmbjaaW.PrintMore
open Go.Proofs.Ytjndoihnpnmbjaa.Flow
set_option linter.unusedVariables false
set_option linter.unusedSimpArgs false
theorem str_inj : ∀ (a b : List Int), Bytes a → Bytes b → (a.map fun n => UInt8.ofNat n.toNat) = (b.map fun n => UInt8.ofNat n.toNat) → a = b
  | [], [], _, _, _ => rfl
  | [], y :: b, _, _, h => by simp at h
  | x :: a, [], _, _, h => by simp at h
  | x :: a, y :: b, ha, hb, h => by
    simp only [List.map_cons, List.cons.injEq] at h
    have h1 := ha x (by simp)
    have h2 := hb y (by simp)
    have h3 := congrArg UInt8.toNat h.1
    simp at h3
    have h4 : x = y := by omega
    rw [h4, str_inj a b ha.tail hb.tail h.2]
theorem str_iff {a b : List Int} (ha : Bytes a) (hb : Bytes b) : (strOfNums a).toList = (strOfNums b).toList ↔ a = b := by
  constructor
  · intro h
    have h1 := toList_inj h
    have h2 : (strOfNums a).data.toList = (strOfNums b).data.toList := by rw [h1]
    rw [strOfNums_data, strOfNums_data] at h2
    exact str_inj a b ha hb h2
  · intro h
    rw [h]
/-- One more byte, from the top. -/
theorem valN_step (b : List Int) (hb : Bytes b) (z i : Nat) (hz : z ≤ 8) (hl : 1 + z ≤ b.length) (hi : 0 < i) (hiz : i ≤ z) : IntKind.u64.wrap ((IntKind.u64.wrap (((valN ((b.take (1 + z)).drop (i + 1)) : Nat) : Int) * 256)) + (rd b (i : Int))) = ((valN ((b.take (1 + z)).drop i) : Nat) : Int) := by
  have hlt : i < (b.take (1 + z)).length := by rw [List.length_take]; omega
  have hB : Bytes ((b.take (1 + z)).drop i) := (hb.take _).drop _
  have hv := valN_lt _ hB
  have h9 : 2 ^ (8 * ((b.take (1 + z)).drop i).length) ≤ 2 ^ 64 := Nat.pow_le_pow_right (by omega) (by rw [List.length_drop, List.length_take]; omega)
  have hv64 : valN ((b.take (1 + z)).drop i) < 18446744073709551616 := Nat.lt_of_lt_of_le hv h9
  have hr := rd_range hb i (by omega)
  have e0 : valN ((b.take (1 + z)).drop i) = (rd b (i : Int)).toNat + 256 * valN ((b.take (1 + z)).drop (i + 1)) := by
    rw [List.drop_eq_getElem_cons hlt, valN, List.getElem_take, rd_at b i (by omega)]
  clear hv h9
  rw [u64_wrap, u64_wrap]
  omega
theorem valN_U (b : List Int) (hb : Bytes b) (z : Nat) (hz : z ≤ 8) : valN ((b.take (1 + z)).drop 1) < 18446744073709551616 := by
  have hB : Bytes ((b.take (1 + z)).drop 1) := (hb.take _).drop _
  have hv := valN_lt _ hB
  have h9 : 2 ^ (8 * ((b.take (1 + z)).drop 1).length) ≤ 2 ^ 64 := Nat.pow_le_pow_right (by omega) (by rw [List.length_drop, List.length_take]; omega)
  exact Nat.lt_of_lt_of_le hv h9
/-- Read, and written again. -/
theorem fin_take (b : List Int) (hb : Bytes b) (z : Nat) (hz : z ≤ 8) (hl : 1 + z ≤ b.length) (hr : rd b 0 = (z : Int)) : takeP b = if (strOfNums (numB (bk (valN ((b.take (1 + z)).drop 1))))).toList = (strOfNums (b.take (1 + z))).toList then (bk (valN ((b.take (1 + z)).drop 1)), 1 + z) else (0, 0) := by
  have hB : Bytes ((b.take (1 + z)).drop 1) := (hb.take _).drop _
  have hL : ((b.take (1 + z)).drop 1).length = z := by rw [List.length_drop, List.length_take]; omega
  have hv := valN_lt _ hB
  rw [hL] at hv
  have h9 : 2 ^ (8 * z) ≤ 2 ^ 64 := Nat.pow_le_pow_right (by omega) (by omega)
  have hv64 : valN ((b.take (1 + z)).drop 1) < 18446744073709551616 := Nat.lt_of_lt_of_le hv h9
  have hlt : (b.take (1 + z)).length = 1 + z := by rw [List.length_take]; omega
  have hcond := str_iff (numB_bytes (bk (valN ((b.take (1 + z)).drop 1))) (bk_range hv64)) (hb.take (1 + z))
  by_cases hc : numB (bk (valN ((b.take (1 + z)).drop 1))) = b.take (1 + z)
  · rw [if_pos (hcond.2 hc)]
    have h1 := take_num (bk (valN ((b.take (1 + z)).drop 1))) (bk_range hv64) (b.drop (1 + z))
    have h2 : 1 + szN (tn (bk (valN ((b.take (1 + z)).drop 1)))) = 1 + z := by rw [← numB_len, hc, hlt]
    rw [h2, hc, List.take_append_drop] at h1
    exact h1
  · rw [if_neg (fun h => hc (hcond.1 h))]
    have h0 : (takeP b).2 = 0 := by
      rcases Nat.eq_zero_or_pos (takeP b).2 with h | h
      · exact h
      · have h3 := take_back b hb (by omega)
        have h4 : takeP b = (bk (valN ((b.take (1 + z)).drop 1)), 1 + z) := by
          revert h
          unfold takeP
          rw [hr]
          have e : (((z : Nat) : Int)).toNat = z := by omega
          rw [e]
          split
          · intro h; simp at h
          · split
            · intro h; simp at h
            · split
              · intro h; simp at h
              · split
                · intro h; simp at h
                · intro _; rfl
        rw [h4] at h3
        have h5 := congrArg (List.take (1 + z)) h3.1
        simp only at h5
        have h6 : (numB (bk (valN ((b.take (1 + z)).drop 1)))).length = 1 + z := by
          have h7 := congrArg List.length h3.1
          simp only [List.length_append, List.length_drop] at h7
          omega
        rw [List.take_append_of_le_length (by omega), List.take_of_length_le (by omega)] at h5
        exact absurd h5 hc
    exact Prod.ext (takeP_zero b h0) h0
/-- All numbers, as the document has them: the numbers so far in front. -/
def numsP : Nat → List Int → Int → List Int → List Int × Bool
  | 0, _, _, _ => ([], false)
  | k + 1, b, most, x => if b.length = 0 then (if 0 < x.length ∧ most < (x.length : Int) then ([], false) else (x, true)) else if (takeP b).2 = 0 then ([], false) else numsP k (b.drop (takeP b).2) most (x ++ [(takeP b).1])
theorem nums_many : ∀ (n : Nat) (b x : List Int) (most : Int) (K : Nat), b.length ≤ n → Bytes b → n < K → most < (x.length : Int) → 0 < x.length → numsP K b most x = ([], false)
  | n, b, x, most, K, hn, hb, hK, hm, hx => by
    obtain ⟨k, rfl⟩ : ∃ k, K = k + 1 := ⟨K - 1, by omega⟩
    rw [numsP]
    by_cases c1 : b.length = 0
    · rw [if_pos c1, if_pos ⟨hx, hm⟩]
    · rw [if_neg c1]
      by_cases c2 : (takeP b).2 = 0
      · rw [if_pos c2]
      · have h3 := take_back b hb c2
        have hd : (b.drop (takeP b).2).length = b.length - (takeP b).2 := List.length_drop
        rw [if_neg c2]
        match n, hn with
        | 0, hn => omega
        | n + 1, hn => exact nums_many n (b.drop (takeP b).2) (x ++ [(takeP b).1]) most k (by omega) (hb.drop _) (by omega) (by simp only [List.length_append, List.length_singleton]; omega) (by simp)
/-- Both say the same. -/
theorem nums_both : ∀ (n : Nat) (b x : List Int) (most : Int) (K L : Nat), b.length ≤ n → Bytes b → n + 32 ≤ K → n < L → (x = [] ∨ (x.length : Int) ≤ most) → x.length + b.length ≤ 1000000 →
    frame_Nums.l0 K b most x = some ((numsP L b most x).1, if (numsP L b most x).2 = true then none else some 3) ∧ (numsP L b most x).1.length ≤ 1000000
  | n, b, x, most, K, L, hn, hb, hK, hL, hm, hl => by
    obtain ⟨k, rfl⟩ : ∃ k, K = k + 1 := ⟨K - 1, by omega⟩
    obtain ⟨l, rfl⟩ : ∃ l, L = l + 1 := ⟨L - 1, by omega⟩
    rw [numsP, frame_Nums.l0]
    by_cases c1 : b.length = 0
    · rw [if_pos c1, if_neg (by omega), if_neg ?_]
      · exact ⟨rfl, by simp only; omega⟩
      · rintro ⟨h1, h2⟩
        rcases hm with h | h
        · rw [h] at h1
          simp at h1
        · omega
    · rw [if_neg c1, if_pos (by omega), take_f b hb (by omega) k (by omega), Option.bind_some]
      by_cases c2 : (takeP b).2 = 0
      · rw [if_pos c2, if_pos (by simp only; omega)]
        exact ⟨rfl, by simp⟩
      · have h3 := take_back b hb c2
        have hd : (b.drop (takeP b).2).length = b.length - (takeP b).2 := List.length_drop
        rw [if_neg c2, if_neg (by simp only; omega)]
        by_cases c3 : most ≤ (x.length : Int)
        · rw [if_pos c3]
          match n, hn with
          | 0, hn => omega
          | n + 1, hn =>
            rw [nums_many n (b.drop (takeP b).2) (x ++ [(takeP b).1]) most l (by omega) (hb.drop _) (by omega) (by simp only [List.length_append, List.length_singleton]; omega) (by simp)]
            exact ⟨rfl, by simp⟩
        · rw [if_neg c3, if_pos (by omega), if_pos (by omega), if_pos (by omega)]
          simp only [Int.toNat_natCast]
          match n, hn with
          | 0, hn => omega
          | n + 1, hn => exact nums_both n (b.drop (takeP b).2) (x ++ [(takeP b).1]) most k l (by omega) (hb.drop _) (by omega) (by omega) (.inr (by simp only [List.length_append, List.length_singleton]; omega)) (by simp only [List.length_append, List.length_singleton]; omega)
end Go.Proofs.Ytjndoihnpnmbjaa.PFrameSums
namespace Go.Proofs.Ytjndoihnpnmbjaa.PFrameSums
open Go.RowKit Go.Proofs.YtjndoihnpnmbjaaW.PrintWords Go.Proofs.YtjndoihnpnmbjaaW.PrintLast Go.Proofs.YtjndoihnpnmbjaaW.PrintMore
open Go.Proofs.Ytjndoihnpnmbjaa.Flow
set_option linter.unusedVariables false
set_option linter.unusedSimpArgs false


theorem own_C_spec {k : IntKind} {e W lo : Nat} {xs : List Int} {A : Option Addr} {n c : Nat} {w : World} (h : Own k e w W lo A n c xs) : (Kd.int k).C w A n xs := by rw [h.len]; exact h.C
theorem refnumber_calls (w : World) (n : Int) (hn : I64 n) : Calls Try.prog 34 #[.int .i64 n] w fun e w' => ∃ A' n' c', e = .returned (.slice A' n' c') ∧ Own .u8 5 w' w.heap.size w.heap.size A' n' c' (numB n) ∧ Below w.heap.size w w' := by
  refine (estuaryref04_Number.calls 12 n _ w (number_f n hn 12 (Nat.le_refl _))).mono ?_
  rintro e w' ⟨v0, rfl, hR, hB⟩
  obtain ⟨A', c', rfl, hle, hR2⟩ := R_shape hR
  exact ⟨A', _, c', rfl, Own.born hR2 (Nat.le_refl _), hB⟩
set_option maxHeartbeats 4000000 in
theorem reftake_calls (w : World) (A0 : Option Addr) (c0 : Nat) (b : List Int) (hC : (Kd.int .u8).C w A0 b.length b) (hc : b.length ≤ c0) (hb : Bytes b) (hl : b.length ≤ 140737488355328) :
    Calls Try.prog 29 #[.slice A0 b.length c0] w fun e w' => e = .returned (.tuple #[.int .i64 (takeP b).1, .int .i64 (((takeP b).2 : Nat) : Int)]) ∧ Below w.heap.size w w' := by
  refine calls_flow Try.func29 rfl 65 rfl (Nat.le_of_ble_eq_true rfl) [(0, .slice A0 b.length c0)] ?_ ?_
  · intro t v h; exact args_look rfl t v h
  refine w_seq ?_
  refine w_region ?_
  refine rw_val (v := .int .i64 0) (w' := w) rfl rfl rfl rfl rfl ?_
  refine rw_val (v := .int .i64 0) (w' := w) rfl rfl rfl rfl rfl ?_
  refine rw_end ?_
  refine w_seq ?_
  refine w_seq ?_
  refine w_region ?_
  refine rw_val (v := .slice A0 b.length c0) (w' := w) rfl rfl rfl rfl rfl ?_
  refine rw_val (v := .int .i64 (b.length : Int)) (w' := w) rfl rfl rfl rfl (by simp [go_sem, sEv, sLook, nbeq, i64_w, -List.length_flatten]) ?_
  refine rw_val (v := .bool ((b.length : Int) == 0)) (w' := w) rfl rfl rfl rfl (by simp [go_sem, sEv, sLook, nbeq, i64_w, -List.length_flatten]) ?_
  refine rw_val (v := .bool ((b.length : Int) == 0)) (w' := w) rfl rfl rfl rfl rfl ?_
  rcases bcase ((b.length : Int) == 0) with cN | cN
  · refine rw_on (c := ((b.length : Int) == 0)) rfl rfl rfl (by first | (rw [cN]; rfl) | simp [cN]) ?_
    refine rw_val (v := .slice A0 b.length c0) (w' := w) rfl rfl rfl rfl rfl ?_
    refine rw_on (c := ((b.length : Int) == 0)) rfl rfl rfl (by first | (rw [cN]; rfl) | simp [cN]) ?_
    have cN_ : b.length ≠ 0 := by simpa using cN
    obtain ⟨ad, hA_, hcell_⟩ := Kd.at_int hC 0 (by omega) (by omega)
    subst hA_
    rw [show (0 : Int).toNat = 0 from rfl, Flow.add_zero] at hcell_
    have hr_ := rd_range hb 0 (by omega)
    rw [show ((0 : Nat) : Int) = 0 from rfl] at hr_
    refine rw_val (v := .pointer (some ad)) (w' := w) rfl rfl rfl rfl (by have hp_ : 0 < b.length := (by omega); have hp2_ : b ≠ [] := (fun h_ => by rw [h_] at hp_; simp at hp_); first | (simp [go_sem, sEv, sLook, nbeq, i64_w, -List.length_flatten, Try.underlying22, Flow.add_zero, hp_]; done) | (simp [go_sem, sEv, sLook, nbeq, i64_w, -List.length_flatten, Try.underlying22, Flow.add_zero, hp2_]; done) | (simp [go_sem, sEv, sLook, nbeq, i64_w, -List.length_flatten, Try.underlying22, Flow.add_zero]; exact hp2_)) ?_
    refine rw_on (c := ((b.length : Int) == 0)) rfl rfl rfl (by first | (rw [cN]; rfl) | simp [cN]) ?_
    refine rw_val (v := .int .u8 (rd b 0)) (w' := w) rfl rfl rfl rfl (by simp [go_sem, sEv, sLook, nbeq, i64_w, -List.length_flatten, hcell_]) ?_
    refine rw_on (c := ((b.length : Int) == 0)) rfl rfl rfl (by first | (rw [cN]; rfl) | simp [cN]) ?_
    refine rw_val (v := .bool (decide (8 < (rd b 0)))) (w' := w) rfl rfl rfl rfl (by simp [go_sem, sEv, sLook, nbeq, i64_w, -List.length_flatten]) ?_
    refine rw_val (v := .bool (decide (8 < (rd b 0)))) (w' := w) rfl rfl rfl rfl (by first | (simp [go_sem, sEv, sLook, nbeq, i64_w, -List.length_flatten, cN]; done) | (simp [go_sem, sEv, sLook, nbeq, i64_w, -List.length_flatten] <;> omega) | (simp [go_sem, sEv, sLook, nbeq, i64_w, -List.length_flatten]; intro h_; exact absurd (by omega) h_) | (rw [cN]; simp [go_sem, sEv, sLook, nbeq, i64_w, -List.length_flatten]; done)) ?_
    refine rw_val (v := .bool (decide (8 < (rd b 0)))) (w' := w) rfl rfl rfl rfl rfl ?_
    rcases bcase (decide (8 < (rd b 0))) with c8 | c8
    · refine rw_on (c := decide (8 < (rd b 0))) rfl rfl rfl (by first | (rw [c8]; rfl) | simp [c8]) ?_
      refine rw_val (v := .slice (some ad) b.length c0) (w' := w) rfl rfl rfl rfl rfl ?_
      refine rw_on (c := decide (8 < (rd b 0))) rfl rfl rfl (by first | (rw [c8]; rfl) | simp [c8]) ?_
      refine rw_val (v := .int .i64 (b.length : Int)) (w' := w) rfl rfl rfl rfl (by simp [go_sem, sEv, sLook, nbeq, i64_w, -List.length_flatten]) ?_
      refine rw_on (c := decide (8 < (rd b 0))) rfl rfl rfl (by first | (rw [c8]; rfl) | simp [c8]) ?_
      refine rw_val (v := .slice (some ad) b.length c0) (w' := w) rfl rfl rfl rfl rfl ?_
      refine rw_on (c := decide (8 < (rd b 0))) rfl rfl rfl (by first | (rw [c8]; rfl) | simp [c8]) ?_
      refine rw_val (v := .pointer (some ad)) (w' := w) rfl rfl rfl rfl (by have hp_ : 0 < b.length := (by omega); have hp2_ : b ≠ [] := (fun h_ => by rw [h_] at hp_; simp at hp_); first | (simp [go_sem, sEv, sLook, nbeq, i64_w, -List.length_flatten, Try.underlying22, Flow.add_zero, hp_]; done) | (simp [go_sem, sEv, sLook, nbeq, i64_w, -List.length_flatten, Try.underlying22, Flow.add_zero, hp2_]; done) | (simp [go_sem, sEv, sLook, nbeq, i64_w, -List.length_flatten, Try.underlying22, Flow.add_zero]; exact hp2_)) ?_
      refine rw_on (c := decide (8 < (rd b 0))) rfl rfl rfl (by first | (rw [c8]; rfl) | simp [c8]) ?_
      refine rw_val (v := .int .u8 (rd b 0)) (w' := w) rfl rfl rfl rfl (by simp [go_sem, sEv, sLook, nbeq, i64_w, -List.length_flatten, hcell_]) ?_
      refine rw_on (c := decide (8 < (rd b 0))) rfl rfl rfl (by first | (rw [c8]; rfl) | simp [c8]) ?_
      refine rw_val (v := .int .i64 (rd b 0)) (w' := w) rfl rfl rfl rfl (by simp [go_sem, sEv, sLook, nbeq, i64_w, -List.length_flatten]; exact wrap_id (by omega) (by omega)) ?_
      refine rw_on (c := decide (8 < (rd b 0))) rfl rfl rfl (by first | (rw [c8]; rfl) | simp [c8]) ?_
      refine rw_val (v := .int .i64 (1 + (rd b 0))) (w' := w) rfl rfl rfl rfl (by simp [go_sem, sEv, sLook, nbeq, i64_w, -List.length_flatten]; have c8_ := of_decide_eq_false c8; exact wrap_id (by omega) (by omega)) ?_
      refine rw_on (c := decide (8 < (rd b 0))) rfl rfl rfl (by first | (rw [c8]; rfl) | simp [c8]) ?_
      refine rw_val (v := .bool (decide ((b.length : Int) < (1 + (rd b 0))))) (w' := w) rfl rfl rfl rfl (by simp [go_sem, sEv, sLook, nbeq, i64_w, -List.length_flatten]) ?_
      refine rw_val (v := .bool (decide ((b.length : Int) < (1 + (rd b 0))))) (w' := w) rfl rfl rfl rfl (by first | (simp [go_sem, sEv, sLook, nbeq, i64_w, -List.length_flatten, c8]; done) | (simp [go_sem, sEv, sLook, nbeq, i64_w, -List.length_flatten] <;> omega) | (simp [go_sem, sEv, sLook, nbeq, i64_w, -List.length_flatten]; intro h_; exact absurd (by omega) h_) | (rw [c8]; simp [go_sem, sEv, sLook, nbeq, i64_w, -List.length_flatten]; done)) ?_
      refine rw_end ?_
      refine w_weaken (G' := [(0, .slice (some ad) b.length c0), (2, .int .i64 0), (3, .int .i64 0), (26, .bool (decide ((b.length : Int) < (1 + (rd b 0)))))]) ⟨rfl, rfl, rfl, rfl, trivial⟩ ?_
      refine w_cond rfl rfl (fun c3 => ?_) (fun c3 => ?_)
      · refine w_seq ?_
        refine w_region ?_
        refine rw_val (v := .int .i64 0) (w' := w) rfl rfl rfl rfl rfl ?_
        refine rw_val (v := .int .i64 0) (w' := w) rfl rfl rfl rfl rfl ?_
        refine rw_end ?_
        refine w_ret (post_ret2 rfl rfl rfl ?_)
        have c3_ := of_decide_eq_true c3
        have c8_ := of_decide_eq_false c8
        have e_ : takeP b = (0, 0) := by unfold takeP; rw [if_neg (by simpa using cN), if_neg c8_, if_pos (by omega)]
        exact ⟨by first | (rw [e_]; done) | (rw [e_]; rfl) | (simp [e_]; done) | (rw [e_]; simp only; rw [eK_]; done) | (rw [e_]; simp only; rw [eK_]; simp), (Below.refl _ _)⟩
      · refine w_skip ?_
        refine w_seq ?_
        refine w_region ?_
        refine rw_val (v := .slice (some ad) b.length c0) (w' := w) rfl rfl rfl rfl rfl ?_
        refine rw_val (v := .pointer (some ad)) (w' := w) rfl rfl rfl rfl (by have hp_ : 0 < b.length := (by omega); have hp2_ : b ≠ [] := (fun h_ => by rw [h_] at hp_; simp at hp_); first | (simp [go_sem, sEv, sLook, nbeq, i64_w, -List.length_flatten, Try.underlying22, Flow.add_zero, hp_]; done) | (simp [go_sem, sEv, sLook, nbeq, i64_w, -List.length_flatten, Try.underlying22, Flow.add_zero, hp2_]; done) | (simp [go_sem, sEv, sLook, nbeq, i64_w, -List.length_flatten, Try.underlying22, Flow.add_zero]; exact hp2_)) ?_
        refine rw_val (v := .int .u8 (rd b 0)) (w' := w) rfl rfl rfl rfl (by simp [go_sem, sEv, sLook, nbeq, i64_w, -List.length_flatten, hcell_]) ?_
        refine rw_val (v := .int .i64 (rd b 0)) (w' := w) rfl rfl rfl rfl (by simp [go_sem, sEv, sLook, nbeq, i64_w, -List.length_flatten]; exact wrap_id (by omega) (by omega)) ?_
        have c8_ := of_decide_eq_false c8
        have c3_ := of_decide_eq_false c3
        obtain ⟨z, hz⟩ : ∃ z : Nat, rd b 0 = (z : Int) := ⟨(rd b 0).toNat, by omega⟩
        have hz8 : z ≤ 8 := by omega
        have hzl : 1 + z ≤ b.length := by omega
        refine rw_val (v := .int .i64 ((1 + z : Nat) : Int)) (w' := w) rfl rfl rfl rfl (by simp [go_sem, sEv, sLook, nbeq, i64_w, -List.length_flatten]; rw [wrap_id (by omega) (by omega)]; omega) ?_
        refine rw_val (v := .int .i64 ((1 + z : Nat) : Int)) (w' := w) rfl rfl rfl rfl rfl ?_
        refine rw_end ?_
        refine w_weaken (G' := [(0, .slice (some ad) b.length c0), (2, .int .i64 0), (3, .int .i64 0), (4, .int .i64 ((1 + z : Nat) : Int))]) ⟨rfl, rfl, rfl, rfl, trivial⟩ ?_
        refine w_seq ?_
        refine w_region ?_
        refine rw_val (v := .int .u64 0) (w' := w) rfl rfl rfl rfl rfl ?_
        refine rw_end ?_
        refine w_seq ?_
        refine w_seq ?_
        refine w_region ?_
        refine rw_val (v := .int .i64 ((1 + z : Nat) : Int)) (w' := w) rfl rfl rfl rfl rfl ?_
        refine rw_val (v := .int .i64 (z : Int)) (w' := w) rfl rfl rfl rfl (by simp [go_sem, sEv, sLook, nbeq, i64_w, -List.length_flatten]; rw [wrap_id (by omega) (by omega)]; omega) ?_
        refine rw_val (v := .int .i64 (z : Int)) (w' := w) rfl rfl rfl rfl rfl ?_
        refine rw_end ?_
        refine w_block ?_
        have h0_ : ((valN ((b.take (1 + z)).drop (z + 1)) : Nat) : Int) = 0 := by rw [List.drop_of_length_le (by rw [List.length_take]; omega)]; rfl
        refine w_loop (fun m_ G W_ => ∃ (i_ : Nat), i_ = m_ ∧ i_ ≤ z ∧ W_ = w ∧ G = [(0, .slice (some ad) b.length c0), (4, .int .i64 ((1 + z : Nat) : Int)), (5, .int .u64 ((valN ((b.take (1 + z)).drop (i_ + 1)) : Nat) : Int)), (6, .int .i64 (i_ : Int))]) z [(0, .slice (some ad) b.length c0), (4, .int .i64 ((1 + z : Nat) : Int)), (5, .int .u64 0), (6, .int .i64 (z : Int))] ⟨z, rfl, Nat.le_refl _, rfl, by rw [h0_]⟩ ⟨rfl, rfl, rfl, rfl, trivial⟩ ?_
        rintro m_ G w_ ⟨i_, rfl, hiz, rfl, rfl⟩
        refine w_seq ?_
        refine w_seq ?_
        refine w_region ?_
        refine rw_val (v := .int .i64 (i_ : Int)) (w' := w_) rfl rfl rfl rfl rfl ?_
        refine rw_val (v := .bool (decide (0 < (i_ : Int)))) (w' := w_) rfl rfl rfl rfl (by simp [go_sem, sEv, sLook, nbeq, i64_w, -List.length_flatten]) ?_
        refine rw_end ?_
        refine w_cond rfl rfl (fun cI => ?_) (fun cI => ?_)
        · refine w_skip ?_
          refine w_seq ?_
          refine w_block ?_
          refine w_region ?_
          refine rw_val (v := .int .u64 ((valN ((b.take (1 + z)).drop (i_ + 1)) : Nat) : Int)) (w' := w_) rfl rfl rfl rfl rfl ?_
          refine rw_val (v := .int .u64 (IntKind.u64.wrap (((valN ((b.take (1 + z)).drop (i_ + 1)) : Nat) : Int) * 256))) (w' := w_) rfl rfl rfl rfl (by simp [go_sem, sEv, sLook, nbeq, i64_w, -List.length_flatten]) ?_
          refine rw_val (v := .slice (some ad) b.length c0) (w' := w_) rfl rfl rfl rfl rfl ?_
          refine rw_val (v := .int .i64 (i_ : Int)) (w' := w_) rfl rfl rfl rfl rfl ?_
          have cI_ := of_decide_eq_true cI
          obtain ⟨ad2, hA2_, hcell2_⟩ := Kd.at_int hC (i_ : Int) (by omega) (by omega)
          obtain rfl := Option.some.inj hA2_
          rw [Int.toNat_natCast] at hcell2_
          have hri_ := rd_range hb i_ (by omega)
          refine rw_val (v := .pointer (some (ad.add i_))) (w' := w_) rfl rfl rfl rfl (by simp [go_sem, sEv, sLook, nbeq, i64_w, -List.length_flatten, Try.underlying22]; omega) ?_
          refine rw_val (v := .int .u8 (rd b (i_ : Int))) (w' := w_) rfl rfl rfl rfl (by simp [go_sem, sEv, sLook, nbeq, i64_w, -List.length_flatten, hcell2_]) ?_
          refine rw_val (v := .int .u64 (rd b (i_ : Int))) (w' := w_) rfl rfl rfl rfl (by simp [go_sem, sEv, sLook, nbeq, i64_w, -List.length_flatten, u64_wrap]; omega) ?_
          refine rw_val (v := .int .u64 ((valN ((b.take (1 + z)).drop i_) : Nat) : Int)) (w' := w_) rfl rfl rfl rfl (by simp [go_sem, sEv, sLook, nbeq, i64_w, -List.length_flatten]; have h_ := valN_step b hb z i_ hz8 hzl (by omega) hiz; exact h_) ?_
          refine rw_val (v := .int .u64 ((valN ((b.take (1 + z)).drop i_) : Nat) : Int)) (w' := w_) rfl rfl rfl rfl rfl ?_
          refine rw_end ?_
          refine w_weaken (G' := [(0, .slice (some ad) b.length c0), (4, .int .i64 ((1 + z : Nat) : Int)), (5, .int .u64 ((valN ((b.take (1 + z)).drop i_) : Nat) : Int)), (6, .int .i64 (i_ : Int))]) ⟨rfl, rfl, rfl, rfl, trivial⟩ ?_
          refine w_blk ?_
          refine w_region ?_
          refine rw_val (v := .int .i64 (i_ : Int)) (w' := w_) rfl rfl rfl rfl rfl ?_
          refine rw_val (v := .int .i64 ((i_ - 1 : Nat) : Int)) (w' := w_) rfl rfl rfl rfl (by simp [go_sem, sEv, sLook, nbeq, i64_w, -List.length_flatten]; have cI_ := of_decide_eq_true cI; rw [wrap_id (by omega) (by omega)]; omega) ?_
          refine rw_val (v := .int .i64 ((i_ - 1 : Nat) : Int)) (w' := w_) rfl rfl rfl rfl rfl ?_
          refine rw_end ?_
          exact w_back (i_ - 1) [(0, .slice (some ad) b.length c0), (4, .int .i64 ((1 + z : Nat) : Int)), (5, .int .u64 ((valN ((b.take (1 + z)).drop i_) : Nat) : Int)), (6, .int .i64 ((i_ - 1 : Nat) : Int))] (by omega) ⟨rfl, rfl, rfl, rfl, trivial⟩ ⟨i_ - 1, rfl, by omega, rfl, by rw [show i_ - 1 + 1 = i_ by omega]⟩
        · refine w_exit rfl ?_
          refine w_seq ?_
          refine w_region ?_
          have i0_ : i_ = 0 := by have cI_ := of_decide_eq_false cI; omega
          subst i0_
          obtain ⟨U_, hU0_⟩ : ∃ U_, valN ((b.take (1 + z)).drop (0 + 1)) = U_ := ⟨_, rfl⟩
          rw [hU0_]
          have hU_ := valN_U b hb z hz8
          have hf_ := fin_take b hb z hz8 hzl hz
          rw [show valN ((b.take (1 + z)).drop 1) = U_ from hU0_] at hU_ hf_
          have hI_ := bk_range hU_
          clear hU0_
          refine rw_val (v := .int .u64 ((U_ : Nat) : Int)) (w' := w_) rfl rfl rfl rfl rfl ?_
          refine rw_val (v := .int .u64 ((U_ / 2 : Nat) : Int)) (w' := w_) rfl rfl rfl rfl (by simp [go_sem, sEv, sLook, nbeq, i64_w, -List.length_flatten]; rw [u64_wrap]; omega) ?_
          refine rw_val (v := .int .i64 ((U_ / 2 : Nat) : Int)) (w' := w_) rfl rfl rfl rfl (by simp [go_sem, sEv, sLook, nbeq, i64_w, -List.length_flatten]; exact wrap_id (by omega) (by omega)) ?_
          refine rw_val (v := .int .i64 ((U_ / 2 : Nat) : Int)) (w' := w_) rfl rfl rfl rfl rfl ?_
          refine rw_end ?_
          refine w_weaken (G' := [(0, .slice (some ad) b.length c0), (4, .int .i64 ((1 + z : Nat) : Int)), (5, .int .u64 ((U_ : Nat) : Int)), (7, .int .i64 ((U_ / 2 : Nat) : Int))]) ⟨rfl, rfl, rfl, rfl, trivial⟩ ?_
          refine w_seq ?_
          refine w_seq ?_
          refine w_region ?_
          refine rw_val (v := .int .u64 ((U_ : Nat) : Int)) (w' := w_) rfl rfl rfl rfl rfl ?_
          refine rw_val (v := .int .u64 ((U_ % 2 : Nat) : Int)) (w' := w_) rfl rfl rfl rfl (by simp [go_sem, sEv, sLook, nbeq, i64_w, -List.length_flatten]; rw [Int.tmod_eq_emod_of_nonneg (by omega)]) ?_
          refine rw_val (v := .bool (((U_ % 2 : Nat) : Int) == 1)) (w' := w_) rfl rfl rfl rfl (by simp [go_sem, sEv, sLook, nbeq, i64_w, -List.length_flatten]) ?_
          refine rw_end ?_
          refine w_cond rfl rfl (fun cO => ?_) (fun cO => ?_)
          · refine w_region ?_
            refine rw_val (v := .int .i64 ((U_ / 2 : Nat) : Int)) (w' := w_) rfl rfl rfl rfl rfl ?_
            refine rw_val (v := .int .i64 (-((U_ / 2 : Nat) : Int))) (w' := w_) rfl rfl rfl rfl (by simp [go_sem, sEv, sLook, nbeq, i64_w, -List.length_flatten]; exact wrap_id (by omega) (by omega)) ?_
            have cO_ : ((U_ % 2 : Nat) : Int) = 1 := by simpa using cO
            have eK_ : bk U_ = -((U_ / 2 : Nat) : Int) - 1 := by unfold bk; rw [if_neg (by omega)] <;> omega
            refine rw_val (v := .int .i64 (bk U_)) (w' := w_) rfl rfl rfl rfl (by rw [eK_]; simp [go_sem, sEv, sLook, nbeq, i64_w, -List.length_flatten]; exact wrap_id (by omega) (by omega)) ?_
            refine rw_val (v := .int .i64 (bk U_)) (w' := w_) rfl rfl rfl rfl rfl ?_
            refine rw_end ?_
            refine w_weaken (G' := [(0, .slice (some ad) b.length c0), (4, .int .i64 ((1 + z : Nat) : Int)), (7, .int .i64 (bk U_))]) ⟨rfl, rfl, rfl, trivial⟩ ?_
            refine w_seq ?_
            refine w_seq ?_
            refine w_draw (M := [0, 1, 3, 0, 0, 24, 56, 127]) (ss := [Is (.int .i64 (bk U_)), OwnSpec w_.heap.size w_.heap.size (numB (bk U_)), Is (.string (strOfNums (numB (bk U_)))), Is (.slice (some ad) b.length c0), Is (.int .i64 ((1 + z : Nat) : Int)), Is (.slice (some ad) ((b.take (1 + z)).length) c0), Is (.string (strOfNums (b.take (1 + z)))), Is (.bool (!decide (strOfNums (numB (bk U_)) = strOfNums (b.take (1 + z)))))]) rfl (by decide +kernel) ?_
            refine t_is (.int .i64 (bk U_)) rfl rfl rfl rfl (fun W_ hW_ F_ => rfl) ?_
            refine t_call (f := 34) (args := #[.int .i64 (bk U_)]) (OwnSpec w_.heap.size w_.heap.size (numB (bk U_))) rfl rfl rfl rfl (fun W_ => by simp [go_sem, sEv, sLook, nbeq, i64_w, -List.length_flatten]) (fun W_ hW_ F_ => ?_) ?_
            · have hs_ := (below_of_drew hW_).size
              refine (refnumber_calls W_ _ hI_).mono ?_
              rintro e_ w_2 ⟨A_, n_, c_, rfl, hO_, hb_⟩
              exact ⟨_, rfl, ⟨A_, n_, c_, rfl, hO_.lower (by omega) |>.mono hs_⟩, hb_⟩
            rintro _ ⟨A1, n2, c3, rfl⟩
            refine t_is (.string (strOfNums (numB (bk U_)))) rfl rfl rfl rfl (fun W_ hW_ F_ => by have hO_ := ownspec_fact (F_ 1 _ _ rfl rfl); exact run_as (run_str_of (P := Try.prog) (e := 5) (by kernel_rfl) (by kernel_rfl) (by kernel_rfl) (show (Kd.int .u8).C W_ A1 n2 _ by rw [hO_.len]; exact hO_.C))) ?_
            refine t_is (.slice (some ad) b.length c0) rfl rfl rfl rfl (fun W_ hW_ F_ => rfl) ?_
            refine t_is (.int .i64 ((1 + z : Nat) : Int)) rfl rfl rfl rfl (fun W_ hW_ F_ => rfl) ?_
            have hP4 := (to_C hC (1 + z) (by omega))
            have hc5 : (b.take (1 + z)).length ≤ c0 := by have q_ := hc; have q2_ : b.length = b.length := rfl; simp only [List.length_take, List.length_drop]; omega
            refine t_is (.slice (some ad) ((b.take (1 + z)).length) c0) rfl rfl rfl rfl (fun W_ hW_ F_ => (run_as (run_to (e := 5) (by kernel_rfl) (fun _ => by kernel_rfl) (1 + z) _ (by first | rfl | (simp; done) | omega) rfl (by omega) hc _))) ?_
            refine t_is (.string (strOfNums (b.take (1 + z)))) rfl rfl rfl rfl (fun W_ hW_ F_ => run_as (run_str_of (P := Try.prog) (e := 5) (by kernel_rfl) (by kernel_rfl) (by kernel_rfl) (Kd.C_below hP4 (chain (Below.refl _ _) (below_of_drew hW_))))) ?_
            refine t_is (.bool (!decide (strOfNums (numB (bk U_)) = strOfNums (b.take (1 + z))))) rfl rfl rfl rfl (fun W_ hW_ F_ => (run_as (run_str_neq 9 _ _ _))) ?_
            refine t_end ?_
            intro w6 hb7_ F8
            have hb7 := below_of_drew hb7_
            have hs_w6 := hb7.size
            refine w_weaken (G' := [(4, .int .i64 ((1 + z : Nat) : Int)), (7, .int .i64 (bk U_)), (62, .bool (!decide (strOfNums (numB (bk U_)) = strOfNums (b.take (1 + z)))))]) ⟨rfl, rfl, rfl, trivial⟩ ?_
            refine w_cond rfl rfl (fun cS => ?_) (fun cS => ?_)
            · refine w_seq ?_
              refine w_region ?_
              refine rw_val (v := .int .i64 0) (w' := w6) rfl rfl rfl rfl rfl ?_
              refine rw_val (v := .int .i64 0) (w' := w6) rfl rfl rfl rfl rfl ?_
              refine rw_end ?_
              refine w_ret (post_ret2 rfl rfl rfl ?_)
              have cS_ : ¬ strOfNums (numB (bk U_)) = strOfNums (b.take (1 + z)) := by simpa using cS
              rw [if_neg (fun h => cS_ (toList_inj h))] at hf_
              have e_ : takeP b = (0, 0) := hf_
              exact ⟨by first | (rw [e_]; done) | (rw [e_]; rfl) | (simp [e_]; done) | (rw [e_]; simp only; rw [eK_]; done) | (rw [e_]; simp only; rw [eK_]; simp), hb7⟩
            · refine w_skip ?_
              refine w_seq ?_
              refine w_region ?_
              refine rw_val (v := .int .i64 (bk U_)) (w' := w6) rfl rfl rfl rfl rfl ?_
              refine rw_val (v := .int .i64 ((1 + z : Nat) : Int)) (w' := w6) rfl rfl rfl rfl rfl ?_
              refine rw_val (v := .int .i64 (bk U_)) (w' := w6) rfl rfl rfl rfl rfl ?_
              refine rw_val (v := .int .i64 ((1 + z : Nat) : Int)) (w' := w6) rfl rfl rfl rfl rfl ?_
              refine rw_end ?_
              refine w_weaken (G' := [(2, .int .i64 (bk U_)), (3, .int .i64 ((1 + z : Nat) : Int))]) ⟨rfl, rfl, trivial⟩ ?_
              refine w_ret (post_ret2 rfl rfl rfl ?_)
              have cS_ : strOfNums (numB (bk U_)) = strOfNums (b.take (1 + z)) := by simpa using cS
              rw [if_pos (by rw [cS_])] at hf_
              have e_ : takeP b = (bk U_, 1 + z) := hf_
              exact ⟨by first | (rw [e_]; done) | (rw [e_]; rfl) | (simp [e_]; done) | (rw [e_]; simp only; rw [eK_]; done) | (rw [e_]; simp only; rw [eK_]; simp), hb7⟩
          · refine w_skip ?_
            refine w_seq ?_
            refine w_seq ?_
            refine w_draw (M := [0, 1, 3, 0, 0, 24, 56, 127]) (ss := [Is (.int .i64 (bk U_)), OwnSpec w_.heap.size w_.heap.size (numB (bk U_)), Is (.string (strOfNums (numB (bk U_)))), Is (.slice (some ad) b.length c0), Is (.int .i64 ((1 + z : Nat) : Int)), Is (.slice (some ad) ((b.take (1 + z)).length) c0), Is (.string (strOfNums (b.take (1 + z)))), Is (.bool (!decide (strOfNums (numB (bk U_)) = strOfNums (b.take (1 + z)))))]) rfl (by decide +kernel) ?_
            have cO_ : ((U_ % 2 : Nat) : Int) ≠ 1 := by simpa using cO
            have eK_ : bk U_ = ((U_ / 2 : Nat) : Int) := by unfold bk; rw [if_pos (by omega)]; try omega
            refine t_is (.int .i64 (bk U_)) rfl rfl rfl rfl (fun W_ hW_ F_ => (by rw [eK_]; first | rfl | simp)) ?_
            refine t_call (f := 34) (args := #[.int .i64 (bk U_)]) (OwnSpec w_.heap.size w_.heap.size (numB (bk U_))) rfl rfl rfl rfl (fun W_ => by simp [go_sem, sEv, sLook, nbeq, i64_w, -List.length_flatten]) (fun W_ hW_ F_ => ?_) ?_
            · have hs_ := (below_of_drew hW_).size
              refine (refnumber_calls W_ _ hI_).mono ?_
              rintro e_ w_2 ⟨A_, n_, c_, rfl, hO_, hb_⟩
              exact ⟨_, rfl, ⟨A_, n_, c_, rfl, hO_.lower (by omega) |>.mono hs_⟩, hb_⟩
            rintro _ ⟨A9, n10, c11, rfl⟩
            refine t_is (.string (strOfNums (numB (bk U_)))) rfl rfl rfl rfl (fun W_ hW_ F_ => by have hO_ := ownspec_fact (F_ 1 _ _ rfl rfl); exact run_as (run_str_of (P := Try.prog) (e := 5) (by kernel_rfl) (by kernel_rfl) (by kernel_rfl) (show (Kd.int .u8).C W_ A9 n10 _ by rw [hO_.len]; exact hO_.C))) ?_
            refine t_is (.slice (some ad) b.length c0) rfl rfl rfl rfl (fun W_ hW_ F_ => rfl) ?_
            refine t_is (.int .i64 ((1 + z : Nat) : Int)) rfl rfl rfl rfl (fun W_ hW_ F_ => rfl) ?_
            have hP12 := (to_C hC (1 + z) (by omega))
            have hc13 : (b.take (1 + z)).length ≤ c0 := by have q_ := hc; have q2_ : b.length = b.length := rfl; simp only [List.length_take, List.length_drop]; omega
            refine t_is (.slice (some ad) ((b.take (1 + z)).length) c0) rfl rfl rfl rfl (fun W_ hW_ F_ => (run_as (run_to (e := 5) (by kernel_rfl) (fun _ => by kernel_rfl) (1 + z) _ (by first | rfl | (simp; done) | omega) rfl (by omega) hc _))) ?_
            refine t_is (.string (strOfNums (b.take (1 + z)))) rfl rfl rfl rfl (fun W_ hW_ F_ => run_as (run_str_of (P := Try.prog) (e := 5) (by kernel_rfl) (by kernel_rfl) (by kernel_rfl) (Kd.C_below hP12 (chain (Below.refl _ _) (below_of_drew hW_))))) ?_
            refine t_is (.bool (!decide (strOfNums (numB (bk U_)) = strOfNums (b.take (1 + z))))) rfl rfl rfl rfl (fun W_ hW_ F_ => (run_as (run_str_neq 9 _ _ _))) ?_
            refine t_end ?_
            intro w14 hb15_ F16
            have hb15 := below_of_drew hb15_
            have hs_w14 := hb15.size
            refine w_weaken (G' := [(4, .int .i64 ((1 + z : Nat) : Int)), (7, .int .i64 ((U_ / 2 : Nat) : Int)), (62, .bool (!decide (strOfNums (numB (bk U_)) = strOfNums (b.take (1 + z)))))]) ⟨rfl, rfl, rfl, trivial⟩ ?_
            refine w_cond rfl rfl (fun cS => ?_) (fun cS => ?_)
            · refine w_seq ?_
              refine w_region ?_
              refine rw_val (v := .int .i64 0) (w' := w14) rfl rfl rfl rfl rfl ?_
              refine rw_val (v := .int .i64 0) (w' := w14) rfl rfl rfl rfl rfl ?_
              refine rw_end ?_
              refine w_ret (post_ret2 rfl rfl rfl ?_)
              have cS_ : ¬ strOfNums (numB (bk U_)) = strOfNums (b.take (1 + z)) := by simpa using cS
              rw [if_neg (fun h => cS_ (toList_inj h))] at hf_
              have e_ : takeP b = (0, 0) := hf_
              exact ⟨by first | (rw [e_]; done) | (rw [e_]; rfl) | (simp [e_]; done) | (rw [e_]; simp only; rw [eK_]; done) | (rw [e_]; simp only; rw [eK_]; simp), hb15⟩
            · refine w_skip ?_
              refine w_seq ?_
              refine w_region ?_
              refine rw_val (v := .int .i64 ((U_ / 2 : Nat) : Int)) (w' := w14) rfl rfl rfl rfl rfl ?_
              refine rw_val (v := .int .i64 ((1 + z : Nat) : Int)) (w' := w14) rfl rfl rfl rfl rfl ?_
              refine rw_val (v := .int .i64 ((U_ / 2 : Nat) : Int)) (w' := w14) rfl rfl rfl rfl rfl ?_
              refine rw_val (v := .int .i64 ((1 + z : Nat) : Int)) (w' := w14) rfl rfl rfl rfl rfl ?_
              refine rw_end ?_
              refine w_weaken (G' := [(2, .int .i64 ((U_ / 2 : Nat) : Int)), (3, .int .i64 ((1 + z : Nat) : Int))]) ⟨rfl, rfl, trivial⟩ ?_
              refine w_ret (post_ret2 rfl rfl rfl ?_)
              have cS_ : strOfNums (numB (bk U_)) = strOfNums (b.take (1 + z)) := by simpa using cS
              rw [if_pos (by rw [cS_])] at hf_
              have e_ : takeP b = (bk U_, 1 + z) := hf_
              exact ⟨by first | (rw [e_]; done) | (rw [e_]; rfl) | (simp [e_]; done) | (rw [e_]; simp only; rw [eK_]; done) | (rw [e_]; simp only; rw [eK_]; simp), hb15⟩
    · refine rw_off (c := decide (8 < (rd b 0))) rfl rfl rfl (by first | (rw [c8]; rfl) | simp [c8]) rfl rfl ?_
      refine rw_off (c := decide (8 < (rd b 0))) rfl rfl rfl (by first | (rw [c8]; rfl) | simp [c8]) rfl rfl ?_
      refine rw_off (c := decide (8 < (rd b 0))) rfl rfl rfl (by first | (rw [c8]; rfl) | simp [c8]) rfl rfl ?_
      refine rw_off (c := decide (8 < (rd b 0))) rfl rfl rfl (by first | (rw [c8]; rfl) | simp [c8]) rfl rfl ?_
      refine rw_off (c := decide (8 < (rd b 0))) rfl rfl rfl (by first | (rw [c8]; rfl) | simp [c8]) rfl rfl ?_
      refine rw_off (c := decide (8 < (rd b 0))) rfl rfl rfl (by first | (rw [c8]; rfl) | simp [c8]) rfl rfl ?_
      refine rw_off (c := decide (8 < (rd b 0))) rfl rfl rfl (by first | (rw [c8]; rfl) | simp [c8]) rfl rfl ?_
      refine rw_off (c := decide (8 < (rd b 0))) rfl rfl rfl (by first | (rw [c8]; rfl) | simp [c8]) rfl rfl ?_
      refine rw_val (v := .bool true) (w' := w) rfl rfl rfl rfl (by first | (simp [go_sem, sEv, sLook, nbeq, i64_w, -List.length_flatten, c8]; done) | (simp [go_sem, sEv, sLook, nbeq, i64_w, -List.length_flatten] <;> omega) | (simp [go_sem, sEv, sLook, nbeq, i64_w, -List.length_flatten]; intro h_; exact absurd (by omega) h_) | (rw [c8]; simp [go_sem, sEv, sLook, nbeq, i64_w, -List.length_flatten]; done)) ?_
      refine rw_end ?_
      refine w_weaken (G' := [(0, .slice (some ad) b.length c0), (2, .int .i64 0), (3, .int .i64 0), (26, .bool true)]) ⟨rfl, rfl, rfl, rfl, trivial⟩ ?_
      refine w_cond_t rfl rfl rfl ?_
      refine w_seq ?_
      refine w_region ?_
      refine rw_val (v := .int .i64 0) (w' := w) rfl rfl rfl rfl rfl ?_
      refine rw_val (v := .int .i64 0) (w' := w) rfl rfl rfl rfl rfl ?_
      refine rw_end ?_
      refine w_ret (post_ret2 rfl rfl rfl ?_)
      have e_ : takeP b = (0, 0) := by unfold takeP; rw [if_neg (by simpa using cN), if_pos (of_decide_eq_true c8)]
      exact ⟨by first | (rw [e_]; done) | (rw [e_]; rfl) | (simp [e_]; done) | (rw [e_]; simp only; rw [eK_]; done) | (rw [e_]; simp only; rw [eK_]; simp), (Below.refl _ _)⟩
  · refine rw_off (c := ((b.length : Int) == 0)) rfl rfl rfl (by first | (rw [cN]; rfl) | simp [cN]) rfl rfl ?_
    refine rw_off (c := ((b.length : Int) == 0)) rfl rfl rfl (by first | (rw [cN]; rfl) | simp [cN]) rfl rfl ?_
    refine rw_off (c := ((b.length : Int) == 0)) rfl rfl rfl (by first | (rw [cN]; rfl) | simp [cN]) rfl rfl ?_
    refine rw_off (c := ((b.length : Int) == 0)) rfl rfl rfl (by first | (rw [cN]; rfl) | simp [cN]) rfl rfl ?_
    refine rw_val (v := .bool true) (w' := w) rfl rfl rfl rfl (by first | (simp [go_sem, sEv, sLook, nbeq, i64_w, -List.length_flatten, cN]; done) | (simp [go_sem, sEv, sLook, nbeq, i64_w, -List.length_flatten] <;> omega) | (simp [go_sem, sEv, sLook, nbeq, i64_w, -List.length_flatten]; intro h_; exact absurd (by omega) h_) | (rw [cN]; simp [go_sem, sEv, sLook, nbeq, i64_w, -List.length_flatten]; done)) ?_
    refine rw_val (v := .bool true) (w' := w) rfl rfl rfl rfl rfl ?_
    refine rw_off (c := true) rfl rfl rfl rfl rfl rfl ?_
    refine rw_off (c := true) rfl rfl rfl rfl rfl rfl ?_
    refine rw_off (c := true) rfl rfl rfl rfl rfl rfl ?_
    refine rw_off (c := true) rfl rfl rfl rfl rfl rfl ?_
    refine rw_off (c := true) rfl rfl rfl rfl rfl rfl ?_
    refine rw_off (c := true) rfl rfl rfl rfl rfl rfl ?_
    refine rw_off (c := true) rfl rfl rfl rfl rfl rfl ?_
    refine rw_off (c := true) rfl rfl rfl rfl rfl rfl ?_
    refine rw_val (v := .bool true) (w' := w) rfl rfl rfl rfl (by simp [go_sem, sEv, sLook, nbeq, i64_w, -List.length_flatten]) ?_
    refine rw_end ?_
    refine w_weaken (G' := [(0, .slice A0 b.length c0), (2, .int .i64 0), (3, .int .i64 0), (26, .bool true)]) ⟨rfl, rfl, rfl, rfl, trivial⟩ ?_
    refine w_cond_t rfl rfl rfl ?_
    refine w_seq ?_
    refine w_region ?_
    refine rw_val (v := .int .i64 0) (w' := w) rfl rfl rfl rfl rfl ?_
    refine rw_val (v := .int .i64 0) (w' := w) rfl rfl rfl rfl rfl ?_
    refine rw_end ?_
    refine w_ret (post_ret2 rfl rfl rfl ?_)
    have e_ : takeP b = (0, 0) := by unfold takeP; rw [if_pos (by simpa using cN)]
    exact ⟨by first | (rw [e_]; done) | (rw [e_]; rfl) | (simp [e_]; done) | (rw [e_]; simp only; rw [eK_]; done) | (rw [e_]; simp only; rw [eK_]; simp), (Below.refl _ _)⟩

theorem numsP_fuel : ∀ (K L : Nat) (b : List Int) (most : Int) (x : List Int), Bytes b → b.length < K → b.length < L → numsP K b most x = numsP L b most x
  | 0, _, _, _, _, _, h, _ => by omega
  | _ + 1, 0, _, _, _, _, _, h => by omega
  | k + 1, l + 1, b, most, x, hb, h1, h2 => by
    rw [numsP, numsP]
    by_cases c1 : b.length = 0
    · rw [if_pos c1, if_pos c1]
    · rw [if_neg c1, if_neg c1]
      by_cases c2 : (takeP b).2 = 0
      · rw [if_pos c2, if_pos c2]
      · rw [if_neg c2, if_neg c2]
        have h3 := take_back b hb c2
        have hd : (b.drop (takeP b).2).length = b.length - (takeP b).2 := List.length_drop
        exact numsP_fuel k l _ most _ (hb.drop _) (by omega) (by omega)
set_option maxHeartbeats 4000000 in
theorem refnums_calls (w : World) (A0 : Option Addr) (c0 : Nat) (b : List Int) (hC : (Kd.int .u8).C w A0 b.length b) (hc : b.length ≤ c0) (hb : Bytes b) (hl : b.length ≤ 1000000) (most : Int) :
    Calls Try.prog 31 #[.slice A0 b.length c0, .int .i64 most] w fun e w' => ∃ A' n' c', e = .returned (.tuple #[.slice A' n' c', .bool (numsP (b.length + 1) b most []).2]) ∧ Own .i64 3 w' w.heap.size w.heap.size A' n' c' (numsP (b.length + 1) b most []).1 ∧ Below w.heap.size w w' := by
  refine calls_flow Try.func31 rfl 36 rfl (Nat.le_of_ble_eq_true rfl) [(0, .slice A0 b.length c0), (1, .int .i64 most)] ?_ ?_
  · intro t v h; exact args_look rfl t v h
  refine w_seq ?_
  refine w_region ?_
  refine rw_val (v := .slice none 0 0) (w' := w) rfl rfl rfl rfl rfl ?_
  refine rw_val (v := .bool false) (w' := w) rfl rfl rfl rfl rfl ?_
  refine rw_end ?_
  refine w_seq ?_
  refine w_region ?_
  refine rw_val (v := .slice none 0 0) (w' := w) rfl rfl rfl rfl rfl ?_
  refine rw_end ?_
  refine w_seq ?_
  refine w_block ?_
  refine w_loop (fun m_ G W_ => ∃ (l_ x_ : List Int) (A_ A6 : Option Addr) (c_ n6 c6 : Nat), l_.length = m_ ∧ l_.length + x_.length ≤ b.length ∧ Bytes l_ ∧ l_.length ≤ c_ ∧ (Kd.int .u8).C w A_ l_.length l_ ∧ Own .i64 3 W_ w.heap.size w.heap.size A6 n6 c6 x_ ∧ Below w.heap.size w W_ ∧ numsP (b.length + 1) b most [] = numsP (m_ + 1) l_ most x_ ∧ G = [(0, .slice A_ l_.length c_), (1, .int .i64 most), (6, .slice A6 n6 c6)]) b.length [(0, .slice A0 b.length c0), (1, .int .i64 most), (6, .slice none 0 0)] ⟨b, [], A0, none, c0, 0, 0, rfl, by simp, hb, hc, hC, Own.nil _ _ _ _ _, (Below.refl _ _), rfl, rfl⟩ ⟨rfl, rfl, rfl, trivial⟩ ?_
  rintro m_ G w_ ⟨l_, x_, A_, A6, c_, n6, c6, rfl, hlx_, hbl_, hcl_, hCl_, hO6_, hBw_, hS_, rfl⟩
  have hs_w_ := hBw_.size
  have hn6_ := hO6_.len
  have hc6_ := hO6_.cap
  refine w_seq ?_
  refine w_seq ?_
  refine w_region ?_
  refine rw_val (v := .slice A_ l_.length c_) (w' := w_) rfl rfl rfl rfl rfl ?_
  refine rw_val (v := .int .i64 (l_.length : Int)) (w' := w_) rfl rfl rfl rfl (by simp [go_sem, sEv, sLook, nbeq, i64_w, -List.length_flatten]) ?_
  refine rw_val (v := .bool (decide (0 < (l_.length : Int)))) (w' := w_) rfl rfl rfl rfl (by simp [go_sem, sEv, sLook, nbeq, i64_w, -List.length_flatten]) ?_
  refine rw_end ?_
  refine w_cond rfl rfl (fun cL => ?_) (fun cL => ?_)
  · refine w_skip ?_
    refine w_block ?_
    refine w_seq ?_
    refine w_region ?_
    refine rw_val (v := .slice A_ l_.length c_) (w' := w_) rfl rfl rfl rfl rfl ?_
    refine rw_call rfl rfl rfl rfl (f := 29) (args := #[.slice A_ l_.length c_]) (by simp [go_sem, sEv, sLook, nbeq, i64_w, -List.length_flatten]) (reftake_calls w_ _ _ l_ (Kd.C_below hCl_ hBw_) hcl_ hbl_ (by omega)) ?_
    rintro e_ w1 ⟨rfl, hb2⟩
    refine ⟨_, rfl, ?_⟩
    have hs_w1 := hb2.size
    refine rw_val (v := .tuple #[.int .i64 ((takeP l_).1), .int .i64 (((takeP l_).2 : Nat) : Int)]) (w' := w1) rfl rfl rfl rfl rfl ?_
    refine rw_val (v := .int .i64 ((takeP l_).1)) (w' := w1) rfl rfl rfl rfl (by simp [go_sem, sEv, sLook, nbeq, i64_w, -List.length_flatten]) ?_
    refine rw_val (v := .int .i64 (((takeP l_).2 : Nat) : Int)) (w' := w1) rfl rfl rfl rfl (by simp [go_sem, sEv, sLook, nbeq, i64_w, -List.length_flatten]) ?_
    refine rw_val (v := .int .i64 ((takeP l_).1)) (w' := w1) rfl rfl rfl rfl rfl ?_
    refine rw_val (v := .int .i64 (((takeP l_).2 : Nat) : Int)) (w' := w1) rfl rfl rfl rfl rfl ?_
    refine rw_end ?_
    refine w_weaken (G' := [(0, .slice A_ l_.length c_), (1, .int .i64 most), (6, .slice A6 n6 c6), (7, .int .i64 ((takeP l_).1)), (8, .int .i64 (((takeP l_).2 : Nat) : Int))]) ⟨rfl, rfl, rfl, rfl, rfl, trivial⟩ ?_
    refine w_seq ?_
    refine w_seq ?_
    refine w_region ?_
    refine rw_val (v := .int .i64 (((takeP l_).2 : Nat) : Int)) (w' := w1) rfl rfl rfl rfl rfl ?_
    refine rw_val (v := .bool ((((takeP l_).2 : Nat) : Int) == 0)) (w' := w1) rfl rfl rfl rfl (by simp [go_sem, sEv, sLook, nbeq, i64_w, -List.length_flatten]) ?_
    refine rw_end ?_
    refine w_cond rfl rfl (fun cZ => ?_) (fun cZ => ?_)
    · refine w_seq ?_
      refine w_region ?_
      refine rw_val (v := .slice none 0 0) (w' := w1) rfl rfl rfl rfl rfl ?_
      refine rw_val (v := .bool false) (w' := w1) rfl rfl rfl rfl rfl ?_
      refine rw_end ?_
      refine w_ret (post_ret2 rfl rfl rfl ?_)
      have cL_ := of_decide_eq_true cL
      have e_ : numsP (l_.length + 1) l_ most x_ = ([], false) := by rw [numsP, if_neg (by omega), if_pos (by simpa using cZ)]
      rw [hS_.trans e_]
      refine ⟨_, _, _, rfl, ?_, (chain hBw_ hb2)⟩
      exact Own.nil _ _ _ _ _
    · refine w_skip ?_
      refine w_seq ?_
      refine w_region ?_
      refine rw_val (v := .slice A6 n6 c6) (w' := w1) rfl rfl rfl rfl rfl ?_
      refine rw_val (v := .int .i64 ((takeP l_).1)) (w' := w1) rfl rfl rfl rfl rfl ?_
      have cZ_ : ¬ (takeP l_).2 = 0 := by simpa using cZ
      have ht_ := take_back l_ hbl_ cZ_
      refine rw_new (cs := #[.int .i64 (takeP l_).1]) (t := 3) (fun g => .slice (some ⟨g, 0, none⟩) 1 1) rfl rfl rfl rfl (by kernel_rfl) ?_
      intro g3 w4 hg8 hz7 hb5 hk6
      have hs_w4 := hb5.size
      have hO9 : Own .i64 3 w4 w.heap.size g3 (some ⟨g3, 0, none⟩) 1 1 [(takeP l_).1] := own_blk (xs := [(takeP l_).1]) w.heap.size hk6 (by omega) rfl (by simp) (by omega) (fun j hj => by
        match j, hj with
        | 0, _ => rfl
        | j + 1, hj => simp at hj)
      have ho_ := (hO6_.on (chain hb2 hb5))
      refine rw_append_row .i64 w.heap.size rfl rfl rfl (.tmp 19) (.tmp 21) rfl rfl 23 3 8 rfl (by kernel_rfl) info3 (by decide) (b := w.heap.size) rfl rfl (by omega) ho_ (show (Kd.int .i64).C _ _ 1 [(takeP l_).1] by exact (Kd.C_below (Own.C hO9) (Below.refl _ _))) (chain (chain hBw_ hb2) hb5) (by omega) (by omega) ?_
      intro A10 n11 c12 w13 hn14 hO15 hB16 hG17
      have hs_w13 := hB16.size
      have hgs_w13 := hG17.size
      refine rw_val (v := .slice A10 n11 c12) (w' := w13) rfl rfl rfl rfl rfl ?_
      refine rw_end ?_
      refine w_weaken (G' := [(0, .slice A_ l_.length c_), (1, .int .i64 most), (6, .slice A10 n11 c12), (8, .int .i64 (((takeP l_).2 : Nat) : Int))]) ⟨rfl, rfl, rfl, rfl, trivial⟩ ?_
      refine w_region ?_
      refine rw_val (v := .slice A_ l_.length c_) (w' := w13) rfl rfl rfl rfl rfl ?_
      refine rw_val (v := .int .i64 (((takeP l_).2 : Nat) : Int)) (w' := w13) rfl rfl rfl rfl rfl ?_
      have hP18 := (from_C hCl_ ((takeP l_).2) (by omega) (show l_.length ≤ c_ by have q_ := hcl_; have q2_ : l_.length = l_.length := rfl; omega))
      have hc19 : (l_.drop ((takeP l_).2)).length ≤ (c_ - (takeP l_).2) := by have q_ := hcl_; have q2_ : l_.length = l_.length := rfl; simp only [List.length_take, List.length_drop]; omega
      refine rw_val (v := .slice (adr A_ c_ ((takeP l_).2)) ((l_.drop ((takeP l_).2)).length) (c_ - (takeP l_).2)) (w' := w13) rfl rfl rfl rfl (run_as (run_from (e := 5) (by kernel_rfl) (fun _ => by kernel_rfl) ((takeP l_).2) _ (by first | rfl | (simp; done) | omega) rfl (by omega) hcl_ _)) ?_
      refine rw_val (v := .slice (adr A_ c_ ((takeP l_).2)) ((l_.drop ((takeP l_).2)).length) (c_ - (takeP l_).2)) (w' := w13) rfl rfl rfl rfl rfl ?_
      refine rw_end ?_
      refine w_weaken (G' := [(0, .slice (adr A_ c_ ((takeP l_).2)) ((l_.drop ((takeP l_).2)).length) (c_ - (takeP l_).2)), (1, .int .i64 most), (6, .slice A10 n11 c12)]) ⟨rfl, rfl, rfl, trivial⟩ ?_
      refine w_blk ?_
      have e_ : numsP (l_.length + 1) l_ most x_ = numsP l_.length (l_.drop (takeP l_).2) most (x_ ++ [(takeP l_).1]) := by rw [numsP, if_neg (by omega), if_neg cZ_]
      have hdl_ : (l_.drop (takeP l_).2).length = l_.length - (takeP l_).2 := List.length_drop
      have hf_ : numsP l_.length (l_.drop (takeP l_).2) most (x_ ++ [(takeP l_).1]) = numsP ((l_.drop (takeP l_).2).length + 1) (l_.drop (takeP l_).2) most (x_ ++ [(takeP l_).1]) := numsP_fuel _ _ _ _ _ (hbl_.drop _) (by omega) (by omega)
      exact w_back (l_.drop (takeP l_).2).length [(0, .slice (adr A_ c_ ((takeP l_).2)) (l_.drop ((takeP l_).2)).length (c_ - (takeP l_).2)), (1, .int .i64 most), (6, .slice A10 n11 c12)] (by omega) ⟨rfl, rfl, rfl, trivial⟩ ⟨l_.drop (takeP l_).2, x_ ++ [(takeP l_).1], _, _, _, _, _, rfl, by simp only [List.length_append, List.length_singleton]; omega, hbl_.drop _, by omega, hP18, Own.mono (hO15.on (Below.refl _ _)) (by omega), hB16, hS_.trans (e_.trans hf_), rfl⟩
  · refine w_exit rfl ?_
    refine w_seq ?_
    refine w_seq ?_
    refine w_region ?_
    refine rw_val (v := .slice A6 n6 c6) (w' := w_) rfl rfl rfl rfl rfl ?_
    refine rw_val (v := .int .i64 (n6 : Int)) (w' := w_) rfl rfl rfl rfl (by simp [go_sem, sEv, sLook, nbeq, i64_w, -List.length_flatten]) ?_
    refine rw_val (v := .bool (decide (0 < (n6 : Int)))) (w' := w_) rfl rfl rfl rfl (by simp [go_sem, sEv, sLook, nbeq, i64_w, -List.length_flatten]) ?_
    refine rw_val (v := .bool (decide (0 < (n6 : Int)))) (w' := w_) rfl rfl rfl rfl rfl ?_
    rcases bcase (decide (0 < (n6 : Int))) with cP | cP
    · refine rw_off (c := decide (0 < (n6 : Int))) rfl rfl rfl (by first | (rw [cP]; rfl) | simp [cP]) rfl rfl ?_
      refine rw_off (c := decide (0 < (n6 : Int))) rfl rfl rfl (by first | (rw [cP]; rfl) | simp [cP]) rfl rfl ?_
      refine rw_off (c := decide (0 < (n6 : Int))) rfl rfl rfl (by first | (rw [cP]; rfl) | simp [cP]) rfl rfl ?_
      refine rw_off (c := decide (0 < (n6 : Int))) rfl rfl rfl (by first | (rw [cP]; rfl) | simp [cP]) rfl rfl ?_
      refine rw_val (v := .bool false) (w' := w_) rfl rfl rfl rfl (by first | (simp [go_sem, sEv, sLook, nbeq, i64_w, -List.length_flatten, cP]; done) | (simp [go_sem, sEv, sLook, nbeq, i64_w, -List.length_flatten] <;> omega) | (simp [go_sem, sEv, sLook, nbeq, i64_w, -List.length_flatten]; intro h_; exact absurd (by omega) h_) | (rw [cP]; simp [go_sem, sEv, sLook, nbeq, i64_w, -List.length_flatten]; done)) ?_
      refine rw_end ?_
      refine w_weaken (G' := [(6, .slice A6 n6 c6), (34, .bool false)]) ⟨rfl, rfl, trivial⟩ ?_
      refine w_cond_f rfl rfl rfl ?_
      refine w_skip ?_
      refine w_seq ?_
      refine w_region ?_
      refine rw_val (v := .slice A6 n6 c6) (w' := w_) rfl rfl rfl rfl rfl ?_
      refine rw_val (v := .slice A6 n6 c6) (w' := w_) rfl rfl rfl rfl rfl ?_
      refine rw_val (v := .bool true) (w' := w_) rfl rfl rfl rfl rfl ?_
      refine rw_end ?_
      refine w_ret (post_ret2 rfl rfl rfl ?_)
      have cL_ := of_decide_eq_false cL
      have cP_ := of_decide_eq_false cP
      have cM_ : True := trivial
      have e_ : numsP (l_.length + 1) l_ most x_ = (x_, true) := by rw [numsP, if_pos (by omega), if_neg (by rintro ⟨h1_, h2_⟩; omega)]
      rw [hS_.trans e_]
      refine ⟨_, _, _, rfl, ?_, hBw_⟩
      exact (hO6_.on (Below.refl _ _))
    · refine rw_on (c := decide (0 < (n6 : Int))) rfl rfl rfl (by first | (rw [cP]; rfl) | simp [cP]) ?_
      refine rw_val (v := .slice A6 n6 c6) (w' := w_) rfl rfl rfl rfl rfl ?_
      refine rw_on (c := decide (0 < (n6 : Int))) rfl rfl rfl (by first | (rw [cP]; rfl) | simp [cP]) ?_
      refine rw_val (v := .int .i64 (n6 : Int)) (w' := w_) rfl rfl rfl rfl (by simp [go_sem, sEv, sLook, nbeq, i64_w, -List.length_flatten]) ?_
      refine rw_on (c := decide (0 < (n6 : Int))) rfl rfl rfl (by first | (rw [cP]; rfl) | simp [cP]) ?_
      refine rw_val (v := .int .i64 most) (w' := w_) rfl rfl rfl rfl rfl ?_
      refine rw_on (c := decide (0 < (n6 : Int))) rfl rfl rfl (by first | (rw [cP]; rfl) | simp [cP]) ?_
      refine rw_val (v := .bool (decide (most < (n6 : Int)))) (w' := w_) rfl rfl rfl rfl (by simp [go_sem, sEv, sLook, nbeq, i64_w, -List.length_flatten]) ?_
      refine rw_val (v := .bool (decide (most < (n6 : Int)))) (w' := w_) rfl rfl rfl rfl (by first | (simp [go_sem, sEv, sLook, nbeq, i64_w, -List.length_flatten, cP]; done) | (simp [go_sem, sEv, sLook, nbeq, i64_w, -List.length_flatten] <;> omega) | (simp [go_sem, sEv, sLook, nbeq, i64_w, -List.length_flatten]; intro h_; exact absurd (by omega) h_) | (rw [cP]; simp [go_sem, sEv, sLook, nbeq, i64_w, -List.length_flatten]; done)) ?_
      refine rw_end ?_
      refine w_weaken (G' := [(6, .slice A6 n6 c6), (34, .bool (decide (most < (n6 : Int))))]) ⟨rfl, rfl, trivial⟩ ?_
      refine w_cond rfl rfl (fun cM => ?_) (fun cM => ?_)
      · refine w_seq ?_
        refine w_region ?_
        refine rw_val (v := .slice none 0 0) (w' := w_) rfl rfl rfl rfl rfl ?_
        refine rw_val (v := .bool false) (w' := w_) rfl rfl rfl rfl rfl ?_
        refine rw_end ?_
        refine w_ret (post_ret2 rfl rfl rfl ?_)
        have cL_ := of_decide_eq_false cL
        have cP_ := of_decide_eq_true cP
        have cM_ := of_decide_eq_true cM
        have e_ : numsP (l_.length + 1) l_ most x_ = ([], false) := by rw [numsP, if_pos (by omega), if_pos ⟨by omega, by omega⟩]
        rw [hS_.trans e_]
        refine ⟨_, _, _, rfl, ?_, hBw_⟩
        exact Own.nil _ _ _ _ _
      · refine w_skip ?_
        refine w_seq ?_
        refine w_region ?_
        refine rw_val (v := .slice A6 n6 c6) (w' := w_) rfl rfl rfl rfl rfl ?_
        refine rw_val (v := .slice A6 n6 c6) (w' := w_) rfl rfl rfl rfl rfl ?_
        refine rw_val (v := .bool true) (w' := w_) rfl rfl rfl rfl rfl ?_
        refine rw_end ?_
        refine w_ret (post_ret2 rfl rfl rfl ?_)
        have cL_ := of_decide_eq_false cL
        have cP_ : True := trivial
        have cM_ := of_decide_eq_false cM
        have e_ : numsP (l_.length + 1) l_ most x_ = (x_, true) := by rw [numsP, if_pos (by omega), if_neg (by rintro ⟨h1_, h2_⟩; omega)]
        rw [hS_.trans e_]
        refine ⟨_, _, _, rfl, ?_, hBw_⟩
        exact (hO6_.on (Below.refl _ _))
end Go.Proofs.Ytjndoihnpnmbjaa.PFrameSums
