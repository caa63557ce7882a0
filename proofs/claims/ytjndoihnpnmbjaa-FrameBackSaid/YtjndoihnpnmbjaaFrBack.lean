/- Numbers there and back: the walk. -/
import Derived.Test.YtjndoihnpnmbjaaFrTake
namespace Go.Proofs.Ytjndoihnpnmbjaa.PFrameSums
open Go.RowKit Go.Proofs.YtjndoihnpnmbjaaW.PrintWords Go.Proofs.YtjndoihnpnmbjaaW.PrintLast Go.Proofs.YtjndoihnpnmbjaaW.PrintMore
open Go.Proofs.Ytjndoihnpnmbjaa.Flow
set_option linter.unusedVariables false
set_option linter.unusedSimpArgs false


/-- A drawn call's answer that is a row of the function's own. -/
def OwnSpec (base b : Nat) (xs : List Int) : Flow.Spec where
  s := fun v w => ∃ A n c, v = .slice A n c ∧ Own .u8 5 w base b A n c xs
  pl := fun v => ∃ A n c, v = .slice A n c
  stab := fun v w w' hb ⟨A, n, c, h1, h2⟩ => ⟨A, n, c, h1, h2.on hb⟩
  imp := fun v w ⟨A, n, c, h1, _⟩ => ⟨A, n, c, h1⟩
  inh := ⟨.slice none 0 0, none, 0, 0, rfl⟩
theorem ownspec_fact {base b : Nat} {xs : List Int} {A : Option Addr} {n c : Nat} {w : World} (h : (OwnSpec base b xs).s (.slice A n c) w) : Own .u8 5 w base b A n c xs := by
  obtain ⟨A', n', c', he, h2⟩ := h
  injection he with h3 h4 h5
  subst h3 h4 h5
  exact h2
theorem strOfNums_app (xs ys : List Int) : strOfNums (xs ++ ys) = strOfNums xs ++ strOfNums ys := by
  apply ByteArray.ext
  simp [strOfNums]
theorem run_str_add (a b : List Int) (h : a.length + b.length ≤ 1000000) (w : World) : (binOp .add 9 (.string (strOfNums a)) (.string (strOfNums b))).run Try.prog w = .ok (.string (strOfNums (a ++ b))) w := by
  have h1 : (strOfNums a).size + (strOfNums b).size ≤ 9223372036854775807 := by rw [strOfNums_size, strOfNums_size]; omega
  rw [strOfNums_app]
  simp [go_sem]
  omega
theorem put_nil (w : World) (DA : Option Addr) (dc : Nat) (ys : List Int) (hC1 : (Kd.int .i64).C w DA ys.length ys) (hc1 : ys.length ≤ dc) (hy : ∀ y ∈ ys, I64 y) (hl : ys.length ≤ 1000000) : Calls Try.prog 14 #[.slice none 0 0, .slice DA ys.length dc] w fun e w' => ∃ A' n' c', e = .returned (.slice A' n' c') ∧ Own .u8 5 w' w.heap.size w.heap.size A' n' c' (PB ys) ∧ Below w.heap.size w w' :=
  put_calls w (ys.length + 12) none 0 0 [] ⟨rfl, by simp, fun h => absurd h (by simp)⟩ (by omega) DA dc ys (PB ys) hC1 hc1 (put_f ys hy hl)
theorem put_one (w : World) (DA : Option Addr) (dc : Nat) (y : Int) (hC1 : (Kd.int .i64).C w DA [y].length [y]) (hc1 : 1 ≤ dc) (hy : I64 y) : Calls Try.prog 14 #[.slice none 0 0, .slice DA 1 dc] w fun e w' => ∃ A' n' c', e = .returned (.slice A' n' c') ∧ Own .u8 5 w' w.heap.size w.heap.size A' n' c' (numB y) ∧ Below w.heap.size w w' := by
  have h := put_nil w DA dc [y] hC1 hc1 (by simpa using hy) (by simp)
  have e : PB [y] = numB y := by simp [PB]
  rw [e] at h
  exact h
theorem nums_calls (w : World) (A0 : Option Addr) (c0 : Nat) (ys : List Int) (base b : Nat) (hO : Own .u8 5 w base b A0 (PB ys).length c0 (PB ys)) (most : Int) (r : List Int) (e2 : Option Int) (hf : frame_Nums.l0 (ys.length + 13) (PB ys) most [] = some (r, e2)) : Calls Try.prog 30 #[.slice A0 (PB ys).length c0, .int .i64 most] w fun e w' => ∃ A' c', e = .returned (.tuple #[.slice A' r.length c', errW e2]) ∧ r.length ≤ c' ∧ (Kd.int .i64).C w' A' r.length r ∧ Below w.heap.size w w' := by
  refine (frame_Nums.calls (ys.length + 13) (fun q => b ≤ q) A0 c0 (PB ys) most r e2 w (Kd.R_V hO) hf).mono ?_
  rintro e w' ⟨v0, rfl, hR, hB⟩
  obtain ⟨A', c', rfl, hle, hR2⟩ := R_shape hR
  exact ⟨A', c', rfl, hle, (Kd.R_reads' hR2).2.2, hB⟩

theorem nums_less (ys : List Int) (hy : ∀ y ∈ ys, I64 y) (hl : ys.length ≤ 1000000) : frame_Nums.l0 (ys.length + 13) (PB ys) ((ys.length : Int) - 1) [] = some ([], (if ys.length = 0 then none else some 3)) := by
  by_cases h : ys.length = 0
  · have e : ys = [] := List.eq_nil_of_length_eq_zero h
    subst e
    rfl
  · rw [if_neg h]
    exact nums_few ys [] _ _ hy (by omega) (by simp; omega) (by simp; omega) (by simp; omega)
set_option maxHeartbeats 4000000 in
theorem back_calls (w : World) (Y0 X1 : Option Addr) (dy d1 : Nat) (ys l1 : List Int) (hy0 : (Kd.int .i64).C w Y0 ys.length ys) (ey : ys.length ≤ dy) (hyr : ∀ y ∈ ys, I64 y) (h1 : (Kd.int .u8).C w X1 l1.length l1) (e1 : l1.length ≤ d1) (hb1 : Bytes l1) :
    Calls Try.prog 10 #[.slice Y0 ys.length dy, .slice X1 l1.length d1] w fun e w' => e = .returned (.bool true) ∧ Below w.heap.size w w' := by
  refine calls_flow Try.func10 rfl 75 rfl (Nat.le_of_ble_eq_true rfl) [(0, .slice Y0 ys.length dy), (1, .slice X1 l1.length d1)] ?_ ?_
  · intro t v h; exact args_look rfl t v h
  refine w_seq ?_
  refine w_region ?_
  refine rw_val (v := .bool false) (w' := w) rfl rfl rfl rfl rfl ?_
  refine rw_end ?_
  refine w_seq ?_
  refine w_seq ?_
  refine w_region ?_
  refine rw_call rfl rfl rfl rfl (f := 11) (args := #[]) (by simp [go_sem, sEv, sLook, nbeq, i64_w, -List.length_flatten]) (alive_calls w) ?_
  rintro e_ w1 ⟨rfl, hb2⟩
  refine ⟨_, rfl, ?_⟩
  have hs_w1 := hb2.size
  refine rw_val (v := .bool false) (w' := w1) rfl rfl rfl rfl (by simp [go_sem, sEv, sLook, nbeq, i64_w, -List.length_flatten]) ?_
  refine rw_end ?_
  refine w_cond_f rfl rfl rfl ?_
  refine w_skip ?_
  refine w_seq ?_
  refine w_seq ?_
  refine w_region ?_
  refine rw_val (v := .slice Y0 ys.length dy) (w' := w1) rfl rfl rfl rfl rfl ?_
  refine rw_val (v := .int .i64 (ys.length : Int)) (w' := w1) rfl rfl rfl rfl (by simp [go_sem, sEv, sLook, nbeq, i64_w, -List.length_flatten]) ?_
  refine rw_val (v := .bool (decide (4000 < (ys.length : Int)))) (w' := w1) rfl rfl rfl rfl (by simp [go_sem, sEv, sLook, nbeq, i64_w, -List.length_flatten]) ?_
  refine rw_val (v := .bool (decide (4000 < (ys.length : Int)))) (w' := w1) rfl rfl rfl rfl rfl ?_
  rcases bcase (decide (4000 < (ys.length : Int))) with cY | cY
  · refine rw_on (c := decide (4000 < (ys.length : Int))) rfl rfl rfl (by first | (rw [cY]; rfl) | simp [cY]) ?_
    refine rw_val (v := .slice X1 l1.length d1) (w' := w1) rfl rfl rfl rfl rfl ?_
    refine rw_on (c := decide (4000 < (ys.length : Int))) rfl rfl rfl (by first | (rw [cY]; rfl) | simp [cY]) ?_
    refine rw_new (cs := #[.slice X1 l1.length d1]) (t := 22) (fun g => .slice (some ⟨g, 0, none⟩) 1 1) rfl rfl rfl rfl (by kernel_rfl) ?_
    intro g3 w4 hg8 hz7 hb5 hk6
    have hs_w4 := hb5.size
    have hP9 : (Kd.slice 5 (Kd.int .u8)).C w4 (some ⟨g3, 0, none⟩) [l1].length [l1] := rows1 hk6 e1 (Kd.C_below h1 (chain hb2 hb5))
    refine rw_on (c := decide (4000 < (ys.length : Int))) rfl rfl rfl (by first | (rw [cY]; rfl) | simp [cY]) ?_
    refine rw_call rfl rfl rfl rfl (f := 12) (args := #[.slice (some ⟨g3, 0, none⟩) 1 1]) (by simp [go_sem, sEv, sLook, nbeq, i64_w, -List.length_flatten]) (estuarylaw04_large.calls 10 _ 1 [l1] _ w4 (Kd.C_below hP9 (Below.refl _ _)) (by simp) (large_f _ (by simp) _ (by simp))) ?_
    rintro e_ w10 ⟨rfl, hb11_⟩
    refine ⟨_, rfl, ?_⟩
    have hb11 := hb11_.below
    have hs_w10 := hb11.size
    refine rw_val (v := .bool (lg [l1])) (w' := w10) rfl rfl rfl rfl (by first | (simp [go_sem, sEv, sLook, nbeq, i64_w, -List.length_flatten, cY]; done) | (simp [go_sem, sEv, sLook, nbeq, i64_w, -List.length_flatten] <;> omega) | (simp [go_sem, sEv, sLook, nbeq, i64_w, -List.length_flatten]; intro h_; exact absurd (by omega) h_) | (rw [cY]; simp [go_sem, sEv, sLook, nbeq, i64_w, -List.length_flatten]; done)) ?_
    refine rw_end ?_
    refine w_weaken (G' := [(0, .slice Y0 ys.length dy), (1, .slice X1 l1.length d1), (4, .bool false), (21, .bool (lg [l1]))]) ⟨rfl, rfl, rfl, rfl, trivial⟩ ?_
    refine w_cond rfl rfl (fun cG => ?_) (fun cG => ?_)
    · refine w_seq ?_
      refine w_region ?_
      refine rw_val (v := .bool true) (w' := w10) rfl rfl rfl rfl rfl ?_
      refine rw_end ?_
      refine w_ret (post_ret1 rfl rfl ?_)
      exact ⟨rfl, (chain (chain hb2 hb5) hb11)⟩
    · refine w_skip ?_
      refine w_seq ?_
      refine w_region ?_
      refine rw_val (v := .slice Y0 ys.length dy) (w' := w10) rfl rfl rfl rfl rfl ?_
      have hys_ := of_decide_eq_false cY
      refine rw_call rfl rfl rfl rfl (f := 14) (args := #[.slice none 0 0, .slice Y0 ys.length dy]) (by simp [go_sem, sEv, sLook, nbeq, i64_w, -List.length_flatten]) (put_nil w10 _ _ ys (Kd.C_below hy0 (chain (chain hb2 hb5) hb11)) ey hyr (by omega)) ?_
      rintro e_ w15 ⟨A12, n13, c14, rfl, hO16, hB17⟩
      refine ⟨_, rfl, ?_⟩
      obtain rfl := hO16.len
      have hs_w15 := hB17.size
      have hL18 : Own .u8 5 w15 w.heap.size w10.heap.size A12 (PB ys).length c14 (PB ys) := Own.lower hO16 (by omega)
      obtain ⟨_, hlg2_, _⟩ := lg_no cG
      have hl1_ : l1.length ≤ 65536 := by simpa using hlg2_
      have hys_ := of_decide_eq_false cY
      refine rw_val (v := .slice A12 ((PB ys).length) c14) (w' := w15) rfl rfl rfl rfl rfl ?_
      refine rw_end ?_
      refine w_seq ?_
      refine w_region ?_
      refine rw_val (v := .slice A12 ((PB ys).length) c14) (w' := w15) rfl rfl rfl rfl rfl ?_
      refine rw_val (v := .slice Y0 ys.length dy) (w' := w15) rfl rfl rfl rfl rfl ?_
      refine rw_val (v := .int .i64 (ys.length : Int)) (w' := w15) rfl rfl rfl rfl (by simp [go_sem, sEv, sLook, nbeq, i64_w, -List.length_flatten]) ?_
      refine rw_call rfl rfl rfl rfl (f := 30) (args := #[.slice A12 ((PB ys).length) c14, .int .i64 (ys.length : Int)]) (by simp [go_sem, sEv, sLook, nbeq, i64_w, -List.length_flatten]) (nums_calls w15 _ _ ys _ _ (hL18.on (Below.refl _ _)) (ys.length : Int) ys none (nums_ok ys [] _ _ hyr (by omega) (by simp) (by simp; omega))) ?_
      rintro e_ w21 ⟨A19, c20, rfl, hle22, hC23, hB24⟩
      refine ⟨_, rfl, ?_⟩
      have hs_w21 := hB24.size
      refine rw_val (v := .tuple #[.slice A19 ys.length c20, errW none]) (w' := w21) rfl rfl rfl rfl rfl ?_
      refine rw_val (v := .slice A19 ys.length c20) (w' := w21) rfl rfl rfl rfl (by simp [go_sem, sEv, sLook, nbeq, i64_w, -List.length_flatten]) ?_
      refine rw_val (v := errW none) (w' := w21) rfl rfl rfl rfl (by simp [go_sem, sEv, sLook, nbeq, i64_w, -List.length_flatten]) ?_
      refine rw_val (v := .slice A19 ys.length c20) (w' := w21) rfl rfl rfl rfl rfl ?_
      refine rw_val (v := errW none) (w' := w21) rfl rfl rfl rfl rfl ?_
      refine rw_end ?_
      refine w_weaken (G' := [(0, .slice Y0 ys.length dy), (1, .slice X1 l1.length d1), (4, .bool false), (5, .slice A12 ((PB ys).length) c14), (6, .slice A19 ys.length c20), (7, errW none)]) ⟨rfl, rfl, rfl, rfl, rfl, rfl, trivial⟩ ?_
      refine w_seq ?_
      refine w_seq ?_
      refine w_region ?_
      refine rw_val (v := errW none) (w' := w21) rfl rfl rfl rfl rfl ?_
      refine rw_val (v := .bool false) (w' := w21) rfl rfl rfl rfl (run_as (guard_errW_neq _ none _)) ?_
      refine rw_val (v := .bool false) (w' := w21) rfl rfl rfl rfl rfl ?_
      refine rw_on (c := false) rfl rfl rfl rfl ?_
      refine rw_val (v := .slice A19 ys.length c20) (w' := w21) rfl rfl rfl rfl rfl ?_
      refine rw_on (c := false) rfl rfl rfl rfl ?_
      refine rw_val (v := .slice Y0 ys.length dy) (w' := w21) rfl rfl rfl rfl rfl ?_
      refine rw_on (c := false) rfl rfl rfl rfl ?_
      refine rw_call rfl rfl rfl rfl (f := 17) (args := #[.slice A19 ys.length c20, .slice Y0 ys.length dy]) (by simp [go_sem, sEv, sLook, nbeq, i64_w, -List.length_flatten]) (estuarynum_Ints.calls (ys.length + 1) _ _ ys _ _ ys _ w21 (Kd.C_below hC23 (Below.refl _ _)) hle22 (Kd.C_below hy0 (chain (chain (chain (chain hb2 hb5) hb11) hB17) hB24)) ey (ints_f ys (by omega))) ?_
      rintro e_ w25 ⟨rfl, hb26_⟩
      refine ⟨_, rfl, ?_⟩
      have hb26 := hb26_.below
      have hs_w25 := hb26.size
      refine rw_on (c := false) rfl rfl rfl rfl ?_
      refine rw_val (v := .bool false) (w' := w25) rfl rfl rfl rfl (by simp [go_sem, sEv, sLook, nbeq, i64_w, -List.length_flatten]) ?_
      refine rw_val (v := .bool false) (w' := w25) rfl rfl rfl rfl (by simp [go_sem, sEv, sLook, nbeq, i64_w, -List.length_flatten]) ?_
      refine rw_end ?_
      refine w_weaken (G' := [(0, .slice Y0 ys.length dy), (1, .slice X1 l1.length d1), (4, .bool false), (5, .slice A12 ((PB ys).length) c14), (7, errW none), (38, .bool false)]) ⟨rfl, rfl, rfl, rfl, rfl, rfl, trivial⟩ ?_
      refine w_cond_f rfl rfl rfl ?_
      refine w_skip ?_
      refine w_seq ?_
      refine w_seq ?_
      refine w_region ?_
      refine rw_val (v := .slice A12 ((PB ys).length) c14) (w' := w25) rfl rfl rfl rfl rfl ?_
      refine rw_val (v := .slice Y0 ys.length dy) (w' := w25) rfl rfl rfl rfl rfl ?_
      refine rw_val (v := .int .i64 (ys.length : Int)) (w' := w25) rfl rfl rfl rfl (by simp [go_sem, sEv, sLook, nbeq, i64_w, -List.length_flatten]) ?_
      refine rw_val (v := .int .i64 ((ys.length : Int) - 1)) (w' := w25) rfl rfl rfl rfl (by simp [go_sem, sEv, sLook, nbeq, i64_w, -List.length_flatten]; exact wrap_id (by omega) (by omega)) ?_
      refine rw_call rfl rfl rfl rfl (f := 30) (args := #[.slice A12 ((PB ys).length) c14, .int .i64 ((ys.length : Int) - 1)]) (by simp [go_sem, sEv, sLook, nbeq, i64_w, -List.length_flatten]) (nums_calls w25 _ _ ys _ _ (hL18.on (chain hB24 hb26)) ((ys.length : Int) - 1) ([] : List Int) (if ys.length = 0 then none else some 3) (nums_less ys hyr (by omega))) ?_
      rintro e_ w29 ⟨A27, c28, rfl, hle30, hC31, hB32⟩
      refine ⟨_, rfl, ?_⟩
      have hs_w29 := hB32.size
      refine rw_val (v := .tuple #[.slice A27 (([] : List Int).length) c28, errW (if ys.length = 0 then none else some 3)]) (w' := w29) rfl rfl rfl rfl rfl ?_
      refine rw_val (v := .slice A27 (([] : List Int).length) c28) (w' := w29) rfl rfl rfl rfl (by simp [go_sem, sEv, sLook, nbeq, i64_w, -List.length_flatten]) ?_
      refine rw_val (v := errW (if ys.length = 0 then none else some 3)) (w' := w29) rfl rfl rfl rfl (by simp [go_sem, sEv, sLook, nbeq, i64_w, -List.length_flatten]) ?_
      refine rw_val (v := .slice A27 (([] : List Int).length) c28) (w' := w29) rfl rfl rfl rfl rfl ?_
      refine rw_val (v := errW (if ys.length = 0 then none else some 3)) (w' := w29) rfl rfl rfl rfl rfl ?_
      refine rw_end ?_
      refine w_weaken (G' := [(0, .slice Y0 ys.length dy), (1, .slice X1 l1.length d1), (4, .bool false), (7, errW none), (9, errW (if ys.length = 0 then none else some 3))]) ⟨rfl, rfl, rfl, rfl, rfl, trivial⟩ ?_
      refine w_seq ?_
      refine w_region ?_
      refine rw_val (v := .slice Y0 ys.length dy) (w' := w29) rfl rfl rfl rfl rfl ?_
      refine rw_val (v := .int .i64 (ys.length : Int)) (w' := w29) rfl rfl rfl rfl (by simp [go_sem, sEv, sLook, nbeq, i64_w, -List.length_flatten]) ?_
      refine rw_val (v := .bool (decide (0 < (ys.length : Int)))) (w' := w29) rfl rfl rfl rfl (by simp [go_sem, sEv, sLook, nbeq, i64_w, -List.length_flatten]) ?_
      refine rw_val (v := .bool (decide (0 < (ys.length : Int)))) (w' := w29) rfl rfl rfl rfl rfl ?_
      rcases bcase (decide (0 < (ys.length : Int))) with cP | cP
      · refine rw_off (c := decide (0 < (ys.length : Int))) rfl rfl rfl (by first | (rw [cP]; rfl) | simp [cP]) rfl rfl ?_
        refine rw_off (c := decide (0 < (ys.length : Int))) rfl rfl rfl (by first | (rw [cP]; rfl) | simp [cP]) rfl rfl ?_
        refine rw_off (c := decide (0 < (ys.length : Int))) rfl rfl rfl (by first | (rw [cP]; rfl) | simp [cP]) rfl rfl ?_
        refine rw_val (v := .bool false) (w' := w29) rfl rfl rfl rfl (by first | (simp [go_sem, sEv, sLook, nbeq, i64_w, -List.length_flatten, cP]; done) | (simp [go_sem, sEv, sLook, nbeq, i64_w, -List.length_flatten] <;> omega) | (simp [go_sem, sEv, sLook, nbeq, i64_w, -List.length_flatten]; intro h_; exact absurd (by omega) h_) | (rw [cP]; simp [go_sem, sEv, sLook, nbeq, i64_w, -List.length_flatten]; done)) ?_
        refine rw_end ?_
        refine w_weaken (G' := [(1, .slice X1 l1.length d1), (4, .bool false), (7, errW none), (54, .bool false)]) ⟨rfl, rfl, rfl, rfl, trivial⟩ ?_
        refine w_cond_f rfl rfl rfl ?_
        refine w_skip ?_
        refine w_seq ?_
        refine w_region ?_
        refine rw_val (v := .slice X1 l1.length d1) (w' := w29) rfl rfl rfl rfl rfl ?_
        refine rw_call rfl rfl rfl rfl (f := 28) (args := #[.slice X1 l1.length d1]) (by simp [go_sem, sEv, sLook, nbeq, i64_w, -List.length_flatten]) (Take_calls w29 X1 d1 l1 (Kd.C_below h1 (chain (chain (chain (chain (chain (chain hb2 hb5) hb11) hB17) hB24) hb26) hB32)) e1 hb1 (by omega)) ?_
        rintro e_ w36 ⟨A33, n34, c35, rfl, hO37, hB38⟩
        refine ⟨_, rfl, ?_⟩
        have hs_w36 := hB38.size
        refine rw_val (v := .tuple #[.int .i64 ((takeP l1).1), .slice A33 n34 c35, errW (TE l1)]) (w' := w36) rfl rfl rfl rfl rfl ?_
        refine rw_val (v := .int .i64 ((takeP l1).1)) (w' := w36) rfl rfl rfl rfl (by simp [go_sem, sEv, sLook, nbeq, i64_w, -List.length_flatten]) ?_
        refine rw_val (v := .slice A33 n34 c35) (w' := w36) rfl rfl rfl rfl (by simp [go_sem, sEv, sLook, nbeq, i64_w, -List.length_flatten]) ?_
        refine rw_val (v := errW (TE l1)) (w' := w36) rfl rfl rfl rfl (by simp [go_sem, sEv, sLook, nbeq, i64_w, -List.length_flatten]) ?_
        refine rw_val (v := .int .i64 ((takeP l1).1)) (w' := w36) rfl rfl rfl rfl rfl ?_
        refine rw_val (v := .slice A33 n34 c35) (w' := w36) rfl rfl rfl rfl rfl ?_
        refine rw_val (v := errW (TE l1)) (w' := w36) rfl rfl rfl rfl rfl ?_
        refine rw_end ?_
        refine w_weaken (G' := [(1, .slice X1 l1.length d1), (4, .bool false), (7, errW (TE l1)), (10, .int .i64 ((takeP l1).1)), (11, .slice A33 n34 c35)]) ⟨rfl, rfl, rfl, rfl, rfl, trivial⟩ ?_
        refine w_seq ?_
        rcases bcase ((TE l1).isSome) with cT | cT
        · refine w_draw (M := [0, 1, 3, 7, 15, 31, 63, 7, 135, 511, 7, 1031, 4095, 8191, 16383]) (ss := [Is (errW (TE l1)), Is (.bool ((TE l1).isSome)), Is (.bool ((TE l1).isSome)), Is (.int .i64 ((takeP l1).1)), LitSpec .i64 [(takeP l1).1], OwnSpec w.heap.size w36.heap.size (numB (takeP l1).1), Is (.string (strOfNums (numB (takeP l1).1))), Is (.slice A33 n34 c35), Is (.string (strOfNums (TR l1))), Is (.string (strOfNums (numB (takeP l1).1 ++ TR l1))), Is (.slice X1 l1.length d1), Is (.string (strOfNums l1)), Is (.bool true), Is (.bool true), Is (.bool true)]) rfl (by decide +kernel) ?_
          refine t_is (errW (TE l1)) rfl rfl rfl rfl (fun W_ hW_ F_ => rfl) ?_
          refine t_is (.bool ((TE l1).isSome)) rfl rfl rfl rfl (fun W_ hW_ F_ => (run_as (guard_errW_neq _ (TE l1) _))) ?_
          refine t_is (.bool ((TE l1).isSome)) rfl rfl rfl rfl (fun W_ hW_ F_ => rfl) ?_
          refine t_gis (c := (TE l1).isSome) (.int .i64 ((takeP l1).1)) rfl rfl rfl (by first | (rw [cT]; rfl) | simp [cT]) rfl rfl rfl (fun W_ hW_ F_ => rfl) ?_
          refine t_gval (c := (TE l1).isSome) (LitSpec .i64 [(takeP l1).1]) rfl rfl rfl (by first | (rw [cT]; rfl) | simp [cT]) rfl rfl rfl (fun W_ hW_ F_ => lit_gives 3 .i64 [(takeP l1).1] (by simp) (by kernel_rfl)) ?_
          rintro _ ⟨A39, c40, rfl, hle41⟩
          refine t_gcall (c := (TE l1).isSome) (f := 14) (args := #[.slice none 0 0, .slice A39 ([(takeP l1).1].length) c40]) (OwnSpec w.heap.size w36.heap.size (numB (takeP l1).1)) rfl rfl rfl (by first | (rw [cT]; rfl) | simp [cT]) rfl rfl rfl (fun W_ => by simp [go_sem, sEv, sLook, nbeq, i64_w, -List.length_flatten]) (fun W_ hW_ F_ => ?_) ?_
          · have hs_ := (below_of_drew hW_).size
            have hL_ := lit_fact (F_ 4 _ _ rfl rfl)
            have cT_ : TE l1 = none := by simpa using cT
            have ht0_ : (takeP l1).2 ≠ 0 := fun h_ => by rw [TE, if_pos h_] at cT_; cases cT_
            refine (put_one W_ A39 c40 (takeP l1).1 hL_.2.2 hL_.2.1 (take_back l1 hb1 ht0_).2.1).mono ?_
            rintro e_ w_ ⟨A_, n_, c_, rfl, hO_, hb_⟩
            exact ⟨_, rfl, ⟨A_, n_, c_, rfl, hO_.lower (by omega) |>.mono hs_⟩, hb_⟩
          rintro _ ⟨A42, n43, c44, rfl⟩
          refine t_gis (c := (TE l1).isSome) (.string (strOfNums (numB (takeP l1).1))) rfl rfl rfl (by first | (rw [cT]; rfl) | simp [cT]) rfl rfl rfl (fun W_ hW_ F_ => by have hO_ := ownspec_fact (F_ 5 _ _ rfl rfl); exact run_as (run_str_of (P := Try.prog) (e := 5) (by kernel_rfl) (by kernel_rfl) (by kernel_rfl) (show (Kd.int .u8).C W_ A42 n43 _ by rw [hO_.len]; exact hO_.C))) ?_
          refine t_gis (c := (TE l1).isSome) (.slice A33 n34 c35) rfl rfl rfl (by first | (rw [cT]; rfl) | simp [cT]) rfl rfl rfl (fun W_ hW_ F_ => rfl) ?_
          refine t_gis (c := (TE l1).isSome) (.string (strOfNums (TR l1))) rfl rfl rfl (by first | (rw [cT]; rfl) | simp [cT]) rfl rfl rfl (fun W_ hW_ F_ => run_as (run_str_of (P := Try.prog) (e := 5) (by kernel_rfl) (by kernel_rfl) (by kernel_rfl) (show (Kd.int .u8).C W_ A33 n34 _ by rw [hO37.len]; exact (Kd.C_below (Own.C hO37) (chain (Below.refl _ _) (below_of_drew hW_)))))) ?_
          refine t_gis (c := (TE l1).isSome) (.string (strOfNums (numB (takeP l1).1 ++ TR l1))) rfl rfl rfl (by first | (rw [cT]; rfl) | simp [cT]) rfl rfl rfl (fun W_ hW_ F_ => by have cT_ : TE l1 = none := (by simpa using cT); have ht0_ : (takeP l1).2 ≠ 0 := (fun h_ => by rw [TE, if_pos h_] at cT_; cases cT_); have hb_ := take_back l1 hb1 ht0_; exact run_as (run_str_add _ _ (by have q_ := congrArg List.length hb_.1; rw [TR, if_neg ht0_, ← List.length_append, q_]; omega) _)) ?_
          refine t_gis (c := (TE l1).isSome) (.slice X1 l1.length d1) rfl rfl rfl (by first | (rw [cT]; rfl) | simp [cT]) rfl rfl rfl (fun W_ hW_ F_ => rfl) ?_
          refine t_gis (c := (TE l1).isSome) (.string (strOfNums l1)) rfl rfl rfl (by first | (rw [cT]; rfl) | simp [cT]) rfl rfl rfl (fun W_ hW_ F_ => run_as (run_str_of (P := Try.prog) (e := 5) (by kernel_rfl) (by kernel_rfl) (by kernel_rfl) (Kd.C_below h1 (chain (chain (chain (chain (chain (chain (chain (chain hb2 hb5) hb11) hB17) hB24) hb26) hB32) hB38) (below_of_drew hW_))))) ?_
          refine t_gis (c := (TE l1).isSome) (.bool true) rfl rfl rfl (by first | (rw [cT]; rfl) | simp [cT]) rfl rfl rfl (fun W_ hW_ F_ => by have cT_ : TE l1 = none := (by simpa using cT); have ht0_ : (takeP l1).2 ≠ 0 := (fun h_ => by rw [TE, if_pos h_] at cT_; cases cT_); have hb_ := take_back l1 hb1 ht0_; exact run_bool (run_as (run_str_eql 9 _ _ _)) (by rw [TR, if_neg ht0_, hb_.1]; simp)) ?_
          refine t_is (.bool true) rfl rfl rfl rfl (fun W_ hW_ F_ => by first | (simp [go_sem, sEv, sLook, nbeq, i64_w, -List.length_flatten, cT]; done) | (simp [go_sem, sEv, sLook, nbeq, i64_w, -List.length_flatten] <;> omega) | (simp [go_sem, sEv, sLook, nbeq, i64_w, -List.length_flatten]; intro h_; exact absurd (by omega) h_) | (rw [cT]; simp [go_sem, sEv, sLook, nbeq, i64_w, -List.length_flatten]; done)) ?_
          refine t_is (.bool true) rfl rfl rfl rfl (fun W_ hW_ F_ => rfl) ?_
          refine t_end ?_
          intro w45 hb46_ F47
          have hb46 := below_of_drew hb46_
          have hs_w45 := hb46.size
          refine w_weaken (G' := [(4, .bool true)]) ⟨rfl, trivial⟩ ?_
          refine w_ret (post_ret1 rfl rfl ?_)
          exact ⟨rfl, (chain (chain (chain (chain (chain (chain (chain (chain hb2 hb5) hb11) hB17) hB24) hb26) hB32) hB38) hb46)⟩
        · refine w_draw (M := [0, 1, 3, 7, 15, 31, 63, 7, 135, 511, 7, 1031, 4095, 8191, 16383]) (ss := [Is (errW (TE l1)), Is (.bool ((TE l1).isSome)), Is (.bool ((TE l1).isSome)), Is undef, Is undef, Is undef, Is undef, Is undef, Is undef, Is undef, Is undef, Is undef, Is undef, Is (.bool true), Is (.bool true)]) rfl (by decide +kernel) ?_
          refine t_is (errW (TE l1)) rfl rfl rfl rfl (fun W_ hW_ F_ => rfl) ?_
          refine t_is (.bool ((TE l1).isSome)) rfl rfl rfl rfl (fun W_ hW_ F_ => (run_as (guard_errW_neq _ (TE l1) _))) ?_
          refine t_is (.bool ((TE l1).isSome)) rfl rfl rfl rfl (fun W_ hW_ F_ => rfl) ?_
          refine t_off (c := (TE l1).isSome) rfl rfl rfl (by first | (rw [cT]; rfl) | simp [cT]) rfl rfl ?_
          refine t_off (c := (TE l1).isSome) rfl rfl rfl (by first | (rw [cT]; rfl) | simp [cT]) rfl rfl ?_
          refine t_off (c := (TE l1).isSome) rfl rfl rfl (by first | (rw [cT]; rfl) | simp [cT]) rfl rfl ?_
          refine t_off (c := (TE l1).isSome) rfl rfl rfl (by first | (rw [cT]; rfl) | simp [cT]) rfl rfl ?_
          refine t_off (c := (TE l1).isSome) rfl rfl rfl (by first | (rw [cT]; rfl) | simp [cT]) rfl rfl ?_
          refine t_off (c := (TE l1).isSome) rfl rfl rfl (by first | (rw [cT]; rfl) | simp [cT]) rfl rfl ?_
          refine t_off (c := (TE l1).isSome) rfl rfl rfl (by first | (rw [cT]; rfl) | simp [cT]) rfl rfl ?_
          refine t_off (c := (TE l1).isSome) rfl rfl rfl (by first | (rw [cT]; rfl) | simp [cT]) rfl rfl ?_
          refine t_off (c := (TE l1).isSome) rfl rfl rfl (by first | (rw [cT]; rfl) | simp [cT]) rfl rfl ?_
          refine t_off (c := (TE l1).isSome) rfl rfl rfl (by first | (rw [cT]; rfl) | simp [cT]) rfl rfl ?_
          refine t_is (.bool true) rfl rfl rfl rfl (fun W_ hW_ F_ => by first | (simp [go_sem, sEv, sLook, nbeq, i64_w, -List.length_flatten, cT]; done) | (simp [go_sem, sEv, sLook, nbeq, i64_w, -List.length_flatten] <;> omega) | (simp [go_sem, sEv, sLook, nbeq, i64_w, -List.length_flatten]; intro h_; exact absurd (by omega) h_) | (rw [cT]; simp [go_sem, sEv, sLook, nbeq, i64_w, -List.length_flatten]; done)) ?_
          refine t_is (.bool true) rfl rfl rfl rfl (fun W_ hW_ F_ => rfl) ?_
          refine t_end ?_
          intro w48 hb49_ F50
          have hb49 := below_of_drew hb49_
          have hs_w48 := hb49.size
          refine w_weaken (G' := [(4, .bool true)]) ⟨rfl, trivial⟩ ?_
          refine w_ret (post_ret1 rfl rfl ?_)
          exact ⟨rfl, (chain (chain (chain (chain (chain (chain (chain (chain hb2 hb5) hb11) hB17) hB24) hb26) hB32) hB38) hb49)⟩
      · refine rw_on (c := decide (0 < (ys.length : Int))) rfl rfl rfl (by first | (rw [cP]; rfl) | simp [cP]) ?_
        refine rw_val (v := errW (if ys.length = 0 then none else some 3)) (w' := w29) rfl rfl rfl rfl rfl ?_
        refine rw_on (c := decide (0 < (ys.length : Int))) rfl rfl rfl (by first | (rw [cP]; rfl) | simp [cP]) ?_
        refine rw_val (v := errW (some 3)) (w' := w29) rfl rfl rfl rfl (by simp [go_sem, sEv, sLook, nbeq, i64_w, -List.length_flatten, errW_some]) ?_
        refine rw_on (c := decide (0 < (ys.length : Int))) rfl rfl rfl (by first | (rw [cP]; rfl) | simp [cP]) ?_
        have hp_ := of_decide_eq_true cP
        refine rw_val (v := .bool false) (w' := w29) rfl rfl rfl rfl (run_bool (run_as (guard_errW_neqs _ _ (if ys.length = 0 then none else some 3) 3 _)) (by rw [if_neg (by omega)]; rfl)) ?_
        refine rw_val (v := .bool false) (w' := w29) rfl rfl rfl rfl (by first | (simp [go_sem, sEv, sLook, nbeq, i64_w, -List.length_flatten, cP]; done) | (simp [go_sem, sEv, sLook, nbeq, i64_w, -List.length_flatten] <;> omega) | (simp [go_sem, sEv, sLook, nbeq, i64_w, -List.length_flatten]; intro h_; exact absurd (by omega) h_) | (rw [cP]; simp [go_sem, sEv, sLook, nbeq, i64_w, -List.length_flatten]; done)) ?_
        refine rw_end ?_
        refine w_weaken (G' := [(1, .slice X1 l1.length d1), (4, .bool false), (7, errW none), (54, .bool false)]) ⟨rfl, rfl, rfl, rfl, trivial⟩ ?_
        refine w_cond_f rfl rfl rfl ?_
        refine w_skip ?_
        refine w_seq ?_
        refine w_region ?_
        refine rw_val (v := .slice X1 l1.length d1) (w' := w29) rfl rfl rfl rfl rfl ?_
        refine rw_call rfl rfl rfl rfl (f := 28) (args := #[.slice X1 l1.length d1]) (by simp [go_sem, sEv, sLook, nbeq, i64_w, -List.length_flatten]) (Take_calls w29 X1 d1 l1 (Kd.C_below h1 (chain (chain (chain (chain (chain (chain hb2 hb5) hb11) hB17) hB24) hb26) hB32)) e1 hb1 (by omega)) ?_
        rintro e_ w54 ⟨A51, n52, c53, rfl, hO55, hB56⟩
        refine ⟨_, rfl, ?_⟩
        have hs_w54 := hB56.size
        refine rw_val (v := .tuple #[.int .i64 ((takeP l1).1), .slice A51 n52 c53, errW (TE l1)]) (w' := w54) rfl rfl rfl rfl rfl ?_
        refine rw_val (v := .int .i64 ((takeP l1).1)) (w' := w54) rfl rfl rfl rfl (by simp [go_sem, sEv, sLook, nbeq, i64_w, -List.length_flatten]) ?_
        refine rw_val (v := .slice A51 n52 c53) (w' := w54) rfl rfl rfl rfl (by simp [go_sem, sEv, sLook, nbeq, i64_w, -List.length_flatten]) ?_
        refine rw_val (v := errW (TE l1)) (w' := w54) rfl rfl rfl rfl (by simp [go_sem, sEv, sLook, nbeq, i64_w, -List.length_flatten]) ?_
        refine rw_val (v := .int .i64 ((takeP l1).1)) (w' := w54) rfl rfl rfl rfl rfl ?_
        refine rw_val (v := .slice A51 n52 c53) (w' := w54) rfl rfl rfl rfl rfl ?_
        refine rw_val (v := errW (TE l1)) (w' := w54) rfl rfl rfl rfl rfl ?_
        refine rw_end ?_
        refine w_weaken (G' := [(1, .slice X1 l1.length d1), (4, .bool false), (7, errW (TE l1)), (10, .int .i64 ((takeP l1).1)), (11, .slice A51 n52 c53)]) ⟨rfl, rfl, rfl, rfl, rfl, trivial⟩ ?_
        refine w_seq ?_
        rcases bcase ((TE l1).isSome) with cT | cT
        · refine w_draw (M := [0, 1, 3, 7, 15, 31, 63, 7, 135, 511, 7, 1031, 4095, 8191, 16383]) (ss := [Is (errW (TE l1)), Is (.bool ((TE l1).isSome)), Is (.bool ((TE l1).isSome)), Is (.int .i64 ((takeP l1).1)), LitSpec .i64 [(takeP l1).1], OwnSpec w.heap.size w54.heap.size (numB (takeP l1).1), Is (.string (strOfNums (numB (takeP l1).1))), Is (.slice A51 n52 c53), Is (.string (strOfNums (TR l1))), Is (.string (strOfNums (numB (takeP l1).1 ++ TR l1))), Is (.slice X1 l1.length d1), Is (.string (strOfNums l1)), Is (.bool true), Is (.bool true), Is (.bool true)]) rfl (by decide +kernel) ?_
          refine t_is (errW (TE l1)) rfl rfl rfl rfl (fun W_ hW_ F_ => rfl) ?_
          refine t_is (.bool ((TE l1).isSome)) rfl rfl rfl rfl (fun W_ hW_ F_ => (run_as (guard_errW_neq _ (TE l1) _))) ?_
          refine t_is (.bool ((TE l1).isSome)) rfl rfl rfl rfl (fun W_ hW_ F_ => rfl) ?_
          refine t_gis (c := (TE l1).isSome) (.int .i64 ((takeP l1).1)) rfl rfl rfl (by first | (rw [cT]; rfl) | simp [cT]) rfl rfl rfl (fun W_ hW_ F_ => rfl) ?_
          refine t_gval (c := (TE l1).isSome) (LitSpec .i64 [(takeP l1).1]) rfl rfl rfl (by first | (rw [cT]; rfl) | simp [cT]) rfl rfl rfl (fun W_ hW_ F_ => lit_gives 3 .i64 [(takeP l1).1] (by simp) (by kernel_rfl)) ?_
          rintro _ ⟨A57, c58, rfl, hle59⟩
          refine t_gcall (c := (TE l1).isSome) (f := 14) (args := #[.slice none 0 0, .slice A57 ([(takeP l1).1].length) c58]) (OwnSpec w.heap.size w54.heap.size (numB (takeP l1).1)) rfl rfl rfl (by first | (rw [cT]; rfl) | simp [cT]) rfl rfl rfl (fun W_ => by simp [go_sem, sEv, sLook, nbeq, i64_w, -List.length_flatten]) (fun W_ hW_ F_ => ?_) ?_
          · have hs_ := (below_of_drew hW_).size
            have hL_ := lit_fact (F_ 4 _ _ rfl rfl)
            have cT_ : TE l1 = none := by simpa using cT
            have ht0_ : (takeP l1).2 ≠ 0 := fun h_ => by rw [TE, if_pos h_] at cT_; cases cT_
            refine (put_one W_ A57 c58 (takeP l1).1 hL_.2.2 hL_.2.1 (take_back l1 hb1 ht0_).2.1).mono ?_
            rintro e_ w_ ⟨A_, n_, c_, rfl, hO_, hb_⟩
            exact ⟨_, rfl, ⟨A_, n_, c_, rfl, hO_.lower (by omega) |>.mono hs_⟩, hb_⟩
          rintro _ ⟨A60, n61, c62, rfl⟩
          refine t_gis (c := (TE l1).isSome) (.string (strOfNums (numB (takeP l1).1))) rfl rfl rfl (by first | (rw [cT]; rfl) | simp [cT]) rfl rfl rfl (fun W_ hW_ F_ => by have hO_ := ownspec_fact (F_ 5 _ _ rfl rfl); exact run_as (run_str_of (P := Try.prog) (e := 5) (by kernel_rfl) (by kernel_rfl) (by kernel_rfl) (show (Kd.int .u8).C W_ A60 n61 _ by rw [hO_.len]; exact hO_.C))) ?_
          refine t_gis (c := (TE l1).isSome) (.slice A51 n52 c53) rfl rfl rfl (by first | (rw [cT]; rfl) | simp [cT]) rfl rfl rfl (fun W_ hW_ F_ => rfl) ?_
          refine t_gis (c := (TE l1).isSome) (.string (strOfNums (TR l1))) rfl rfl rfl (by first | (rw [cT]; rfl) | simp [cT]) rfl rfl rfl (fun W_ hW_ F_ => run_as (run_str_of (P := Try.prog) (e := 5) (by kernel_rfl) (by kernel_rfl) (by kernel_rfl) (show (Kd.int .u8).C W_ A51 n52 _ by rw [hO55.len]; exact (Kd.C_below (Own.C hO55) (chain (Below.refl _ _) (below_of_drew hW_)))))) ?_
          refine t_gis (c := (TE l1).isSome) (.string (strOfNums (numB (takeP l1).1 ++ TR l1))) rfl rfl rfl (by first | (rw [cT]; rfl) | simp [cT]) rfl rfl rfl (fun W_ hW_ F_ => by have cT_ : TE l1 = none := (by simpa using cT); have ht0_ : (takeP l1).2 ≠ 0 := (fun h_ => by rw [TE, if_pos h_] at cT_; cases cT_); have hb_ := take_back l1 hb1 ht0_; exact run_as (run_str_add _ _ (by have q_ := congrArg List.length hb_.1; rw [TR, if_neg ht0_, ← List.length_append, q_]; omega) _)) ?_
          refine t_gis (c := (TE l1).isSome) (.slice X1 l1.length d1) rfl rfl rfl (by first | (rw [cT]; rfl) | simp [cT]) rfl rfl rfl (fun W_ hW_ F_ => rfl) ?_
          refine t_gis (c := (TE l1).isSome) (.string (strOfNums l1)) rfl rfl rfl (by first | (rw [cT]; rfl) | simp [cT]) rfl rfl rfl (fun W_ hW_ F_ => run_as (run_str_of (P := Try.prog) (e := 5) (by kernel_rfl) (by kernel_rfl) (by kernel_rfl) (Kd.C_below h1 (chain (chain (chain (chain (chain (chain (chain (chain hb2 hb5) hb11) hB17) hB24) hb26) hB32) hB56) (below_of_drew hW_))))) ?_
          refine t_gis (c := (TE l1).isSome) (.bool true) rfl rfl rfl (by first | (rw [cT]; rfl) | simp [cT]) rfl rfl rfl (fun W_ hW_ F_ => by have cT_ : TE l1 = none := (by simpa using cT); have ht0_ : (takeP l1).2 ≠ 0 := (fun h_ => by rw [TE, if_pos h_] at cT_; cases cT_); have hb_ := take_back l1 hb1 ht0_; exact run_bool (run_as (run_str_eql 9 _ _ _)) (by rw [TR, if_neg ht0_, hb_.1]; simp)) ?_
          refine t_is (.bool true) rfl rfl rfl rfl (fun W_ hW_ F_ => by first | (simp [go_sem, sEv, sLook, nbeq, i64_w, -List.length_flatten, cT]; done) | (simp [go_sem, sEv, sLook, nbeq, i64_w, -List.length_flatten] <;> omega) | (simp [go_sem, sEv, sLook, nbeq, i64_w, -List.length_flatten]; intro h_; exact absurd (by omega) h_) | (rw [cT]; simp [go_sem, sEv, sLook, nbeq, i64_w, -List.length_flatten]; done)) ?_
          refine t_is (.bool true) rfl rfl rfl rfl (fun W_ hW_ F_ => rfl) ?_
          refine t_end ?_
          intro w63 hb64_ F65
          have hb64 := below_of_drew hb64_
          have hs_w63 := hb64.size
          refine w_weaken (G' := [(4, .bool true)]) ⟨rfl, trivial⟩ ?_
          refine w_ret (post_ret1 rfl rfl ?_)
          exact ⟨rfl, (chain (chain (chain (chain (chain (chain (chain (chain hb2 hb5) hb11) hB17) hB24) hb26) hB32) hB56) hb64)⟩
        · refine w_draw (M := [0, 1, 3, 7, 15, 31, 63, 7, 135, 511, 7, 1031, 4095, 8191, 16383]) (ss := [Is (errW (TE l1)), Is (.bool ((TE l1).isSome)), Is (.bool ((TE l1).isSome)), Is undef, Is undef, Is undef, Is undef, Is undef, Is undef, Is undef, Is undef, Is undef, Is undef, Is (.bool true), Is (.bool true)]) rfl (by decide +kernel) ?_
          refine t_is (errW (TE l1)) rfl rfl rfl rfl (fun W_ hW_ F_ => rfl) ?_
          refine t_is (.bool ((TE l1).isSome)) rfl rfl rfl rfl (fun W_ hW_ F_ => (run_as (guard_errW_neq _ (TE l1) _))) ?_
          refine t_is (.bool ((TE l1).isSome)) rfl rfl rfl rfl (fun W_ hW_ F_ => rfl) ?_
          refine t_off (c := (TE l1).isSome) rfl rfl rfl (by first | (rw [cT]; rfl) | simp [cT]) rfl rfl ?_
          refine t_off (c := (TE l1).isSome) rfl rfl rfl (by first | (rw [cT]; rfl) | simp [cT]) rfl rfl ?_
          refine t_off (c := (TE l1).isSome) rfl rfl rfl (by first | (rw [cT]; rfl) | simp [cT]) rfl rfl ?_
          refine t_off (c := (TE l1).isSome) rfl rfl rfl (by first | (rw [cT]; rfl) | simp [cT]) rfl rfl ?_
          refine t_off (c := (TE l1).isSome) rfl rfl rfl (by first | (rw [cT]; rfl) | simp [cT]) rfl rfl ?_
          refine t_off (c := (TE l1).isSome) rfl rfl rfl (by first | (rw [cT]; rfl) | simp [cT]) rfl rfl ?_
          refine t_off (c := (TE l1).isSome) rfl rfl rfl (by first | (rw [cT]; rfl) | simp [cT]) rfl rfl ?_
          refine t_off (c := (TE l1).isSome) rfl rfl rfl (by first | (rw [cT]; rfl) | simp [cT]) rfl rfl ?_
          refine t_off (c := (TE l1).isSome) rfl rfl rfl (by first | (rw [cT]; rfl) | simp [cT]) rfl rfl ?_
          refine t_off (c := (TE l1).isSome) rfl rfl rfl (by first | (rw [cT]; rfl) | simp [cT]) rfl rfl ?_
          refine t_is (.bool true) rfl rfl rfl rfl (fun W_ hW_ F_ => by first | (simp [go_sem, sEv, sLook, nbeq, i64_w, -List.length_flatten, cT]; done) | (simp [go_sem, sEv, sLook, nbeq, i64_w, -List.length_flatten] <;> omega) | (simp [go_sem, sEv, sLook, nbeq, i64_w, -List.length_flatten]; intro h_; exact absurd (by omega) h_) | (rw [cT]; simp [go_sem, sEv, sLook, nbeq, i64_w, -List.length_flatten]; done)) ?_
          refine t_is (.bool true) rfl rfl rfl rfl (fun W_ hW_ F_ => rfl) ?_
          refine t_end ?_
          intro w66 hb67_ F68
          have hb67 := below_of_drew hb67_
          have hs_w66 := hb67.size
          refine w_weaken (G' := [(4, .bool true)]) ⟨rfl, trivial⟩ ?_
          refine w_ret (post_ret1 rfl rfl ?_)
          exact ⟨rfl, (chain (chain (chain (chain (chain (chain (chain (chain hb2 hb5) hb11) hB17) hB24) hb26) hB32) hB56) hb67)⟩
  · refine rw_off (c := decide (4000 < (ys.length : Int))) rfl rfl rfl (by first | (rw [cY]; rfl) | simp [cY]) rfl rfl ?_
    refine rw_off (c := decide (4000 < (ys.length : Int))) rfl rfl rfl (by first | (rw [cY]; rfl) | simp [cY]) rfl rfl ?_
    refine rw_off (c := decide (4000 < (ys.length : Int))) rfl rfl rfl (by first | (rw [cY]; rfl) | simp [cY]) rfl rfl ?_
    refine rw_val (v := .bool true) (w' := w1) rfl rfl rfl rfl (by first | (simp [go_sem, sEv, sLook, nbeq, i64_w, -List.length_flatten, cY]; done) | (simp [go_sem, sEv, sLook, nbeq, i64_w, -List.length_flatten] <;> omega) | (simp [go_sem, sEv, sLook, nbeq, i64_w, -List.length_flatten]; intro h_; exact absurd (by omega) h_) | (rw [cY]; simp [go_sem, sEv, sLook, nbeq, i64_w, -List.length_flatten]; done)) ?_
    refine rw_end ?_
    refine w_weaken (G' := [(0, .slice Y0 ys.length dy), (1, .slice X1 l1.length d1), (4, .bool false), (21, .bool true)]) ⟨rfl, rfl, rfl, rfl, trivial⟩ ?_
    refine w_cond_t rfl rfl rfl ?_
    refine w_seq ?_
    refine w_region ?_
    refine rw_val (v := .bool true) (w' := w1) rfl rfl rfl rfl rfl ?_
    refine rw_end ?_
    refine w_ret (post_ret1 rfl rfl ?_)
    exact ⟨rfl, hb2⟩
end Go.Proofs.Ytjndoihnpnmbjaa.PFrameSums
