/- What numbers bytes begin with: the walk. -/
import Derived.Test.YtjndoihnpnmbjaaFrTake2
namespace Go.Proofs.Ytjndoihnpnmbjaa.PFrameSums
open Go.RowKit Go.Proofs.YtjndoihnpnmbjaaW.PrintWords Go.Proofs.YtjndoihnpnmbjaaW.PrintLast Go.Proofs.YtjndoihnpnmbjaaW.PrintMore
open Go.Proofs.Ytjndoihnpnmbjaa.Flow
set_option linter.unusedVariables false
set_option linter.unusedSimpArgs false


theorem guard_errW_eq0 (t : Nat) (o : Option Int) (w : World) : (do eqGuard .eql 35 (.tmp t) (.const .nilIface) (errW o) .nilIface; binOp .eql 35 (errW o) .nilIface : Sem Value).run Try.prog w = .ok (.bool o.isNone) w := by
  cases o with
  | none =>
    have h : (binOp .eql 35 .nilIface .nilIface).run Try.prog w = .ok (.bool true) w := by kernel_rfl
    simpa [eqGuard, errW_none] using h
  | some c =>
    have h : (binOp .eql 35 (.iface 47 (.int .i64 c)) .nilIface).run Try.prog w = .ok (.bool false) w := by kernel_rfl
    simpa [eqGuard, errW_some] using h
theorem nums_back (w : World) (A0 : Option Addr) (c0 : Nat) (l0 : List Int) (base b : Nat) (hO : Own .u8 5 w base b A0 l0.length c0 l0) (hb : Bytes l0) (hl : l0.length ≤ 1000000) (most : Int) : Calls Try.prog 30 #[.slice A0 l0.length c0, .int .i64 most] w fun e w' => ∃ A' c', e = .returned (.tuple #[.slice A' (numsP (l0.length + 1) l0 most []).1.length c', errW (if (numsP (l0.length + 1) l0 most []).2 = true then none else some 3)]) ∧ (numsP (l0.length + 1) l0 most []).1.length ≤ c' ∧ (Kd.int .i64).C w' A' (numsP (l0.length + 1) l0 most []).1.length (numsP (l0.length + 1) l0 most []).1 ∧ Below w.heap.size w w' := by
  have h := (nums_both l0.length l0 [] most (l0.length + 32) (l0.length + 1) (Nat.le_refl _) hb (Nat.le_refl _) (by omega) (.inl rfl) (by simpa using hl)).1
  refine (frame_Nums.calls (l0.length + 32) (fun q => b ≤ q) A0 c0 l0 most _ _ w (Kd.R_V hO) h).mono ?_
  rintro e w' ⟨v0, rfl, hR, hB⟩
  obtain ⟨A', c', rfl, hle, hR2⟩ := R_shape hR
  exact ⟨A', c', rfl, hle, (Kd.R_reads' hR2).2.2, hB⟩
theorem nums_len (l0 : List Int) (hb : Bytes l0) (hl : l0.length ≤ 1000000) (most : Int) : (numsP (l0.length + 1) l0 most []).1.length ≤ 1000000 :=
  (nums_both l0.length l0 [] most (l0.length + 32) (l0.length + 1) (Nat.le_refl _) hb (Nat.le_refl _) (by omega) (.inl rfl) (by simpa using hl)).2
theorem TR_len (l0 : List Int) : (TR l0).length ≤ l0.length := by
  unfold TR
  split
  · simp
  · rw [List.length_drop]; omega
set_option maxHeartbeats 4000000 in
theorem walkTakes (w : World) (X0 : Option Addr) (d0 : Nat) (l0 : List Int) (h0 : (Kd.int .u8).C w X0 l0.length l0) (e0 : l0.length ≤ d0) (hb0 : Bytes l0) (most : Int) :
    Calls Try.prog 9 #[.slice X0 l0.length d0, .int .i64 most] w fun e w' => e = .returned (.bool true) ∧ Below w.heap.size w w' := by
  refine calls_flow Try.func9 rfl 112 rfl (Nat.le_of_ble_eq_true rfl) [(0, .slice X0 l0.length d0), (1, .int .i64 most)] ?_ ?_
  · intro t v h; exact args_look rfl t v h
  refine w_seq ?_
  refine w_region ?_
  refine rw_val (v := .bool false) (w' := w) rfl rfl rfl rfl rfl ?_
  refine rw_end ?_
  refine w_seq ?_
  refine w_seq ?_
  refine w_region ?_
  refine rw_call rfl rfl rfl rfl (f := 11) (args := #[]) (by simp [go_sem, sEv, sLook, nbeq, i64_w, -List.length_flatten]) (alive_calls w) ?_
  rintro e_ w1 ⟨rfl, hb2⟩
  refine ⟨_, rfl, ?_⟩
  have hs_w1 := hb2.size
  refine rw_val (v := .bool false) (w' := w1) rfl rfl rfl rfl (by simp [go_sem, sEv, sLook, nbeq, i64_w, -List.length_flatten]) ?_
  refine rw_end ?_
  refine w_cond_f rfl rfl rfl ?_
  refine w_skip ?_
  refine w_seq ?_
  refine w_seq ?_
  refine w_region ?_
  refine rw_val (v := .slice X0 l0.length d0) (w' := w1) rfl rfl rfl rfl rfl ?_
  refine rw_new (cs := #[.slice X0 l0.length d0]) (t := 22) (fun g => .slice (some ⟨g, 0, none⟩) 1 1) rfl rfl rfl rfl (by kernel_rfl) ?_
  intro g3 w4 hg8 hz7 hb5 hk6
  have hs_w4 := hb5.size
  have hP9 : (Kd.slice 5 (Kd.int .u8)).C w4 (some ⟨g3, 0, none⟩) [l0].length [l0] := rows1 hk6 e0 (Kd.C_below h0 (chain hb2 hb5))
  refine rw_call rfl rfl rfl rfl (f := 12) (args := #[.slice (some ⟨g3, 0, none⟩) 1 1]) (by simp [go_sem, sEv, sLook, nbeq, i64_w, -List.length_flatten]) (estuarylaw04_large.calls 10 _ 1 [l0] _ w4 (Kd.C_below hP9 (Below.refl _ _)) (by simp) (large_f _ (by simp) _ (by simp))) ?_
  rintro e_ w10 ⟨rfl, hb11_⟩
  refine ⟨_, rfl, ?_⟩
  have hb11 := hb11_.below
  have hs_w10 := hb11.size
  refine rw_end ?_
  refine w_cond rfl rfl (fun cG => ?_) (fun cG => ?_)
  · refine w_seq ?_
    refine w_region ?_
    refine rw_val (v := .bool true) (w' := w10) rfl rfl rfl rfl rfl ?_
    refine rw_end ?_
    refine w_ret (post_ret1 rfl rfl ?_)
    exact ⟨rfl, (chain (chain hb2 hb5) hb11)⟩
  · refine w_skip ?_
    refine w_seq ?_
    refine w_region ?_
    refine rw_val (v := .slice X0 l0.length d0) (w' := w10) rfl rfl rfl rfl rfl ?_
    obtain ⟨_, hlg2_, _⟩ := lg_no cG
    have hl0_ : l0.length ≤ 65536 := by simpa using hlg2_
    refine rw_call rfl rfl rfl rfl (f := 13) (args := #[.slice X0 l0.length d0]) (by simp [go_sem, sEv, sLook, nbeq, i64_w, -List.length_flatten]) (copy_calls w10 X0 d0 l0 (Kd.C_below h0 (chain (chain hb2 hb5) hb11)) e0 (by omega)) ?_
    rintro e_ w14 ⟨A12, c13, rfl, hO15, hB16⟩
    refine ⟨_, rfl, ?_⟩
    have hs_w14 := hB16.size
    have hL17 : Own .u8 5 w14 w.heap.size w.heap.size A12 (l0.length + 2) c13 (l0 ++ [165, 90]) := (Own.lower hO15 (by omega)).mono (by omega)
    have hocap_ := hL17.cap
    refine rw_val (v := .slice A12 l0.length c13) (w' := w14) rfl rfl rfl rfl rfl ?_
    refine rw_end ?_
    refine w_seq ?_
    refine w_region ?_
    refine rw_val (v := .slice A12 l0.length c13) (w' := w14) rfl rfl rfl rfl rfl ?_
    refine rw_call rfl rfl rfl rfl (f := 28) (args := #[.slice A12 l0.length c13]) (by simp [go_sem, sEv, sLook, nbeq, i64_w, -List.length_flatten]) (Take_calls w14 A12 c13 l0 (Kd.C_below (own_front hL17) (Below.refl _ _)) (by omega) hb0 (by omega)) ?_
    rintro e_ w21 ⟨A18, n19, c20, rfl, hO22, hB23⟩
    refine ⟨_, rfl, ?_⟩
    have hs_w21 := hB23.size
    have hL24 : Own .u8 5 w21 w.heap.size w14.heap.size A18 n19 c20 (TR l0) := Own.lower hO22 (by omega)
    refine rw_val (v := .tuple #[.int .i64 ((takeP l0).1), .slice A18 n19 c20, errW (TE l0)]) (w' := w21) rfl rfl rfl rfl rfl ?_
    refine rw_val (v := .int .i64 ((takeP l0).1)) (w' := w21) rfl rfl rfl rfl (by simp [go_sem, sEv, sLook, nbeq, i64_w, -List.length_flatten]) ?_
    refine rw_val (v := .slice A18 n19 c20) (w' := w21) rfl rfl rfl rfl (by simp [go_sem, sEv, sLook, nbeq, i64_w, -List.length_flatten]) ?_
    refine rw_val (v := errW (TE l0)) (w' := w21) rfl rfl rfl rfl (by simp [go_sem, sEv, sLook, nbeq, i64_w, -List.length_flatten]) ?_
    refine rw_val (v := .int .i64 ((takeP l0).1)) (w' := w21) rfl rfl rfl rfl rfl ?_
    refine rw_val (v := .slice A18 n19 c20) (w' := w21) rfl rfl rfl rfl rfl ?_
    refine rw_val (v := errW (TE l0)) (w' := w21) rfl rfl rfl rfl rfl ?_
    refine rw_end ?_
    refine w_weaken (G' := [(0, .slice X0 l0.length d0), (1, .int .i64 most), (4, .bool false), (5, .slice A12 l0.length c13), (6, .int .i64 ((takeP l0).1)), (7, .slice A18 n19 c20), (8, errW (TE l0))]) ⟨rfl, rfl, rfl, rfl, rfl, rfl, rfl, trivial⟩ ?_
    refine w_seq ?_
    refine w_region ?_
    refine rw_val (v := .slice X0 l0.length d0) (w' := w21) rfl rfl rfl rfl rfl ?_
    refine rw_call rfl rfl rfl rfl (f := 29) (args := #[.slice X0 l0.length d0]) (by simp [go_sem, sEv, sLook, nbeq, i64_w, -List.length_flatten]) (reftake_calls w21 _ _ l0 (Kd.C_below h0 (chain (chain (chain (chain hb2 hb5) hb11) hB16) hB23)) e0 hb0 (by omega)) ?_
    rintro e_ w25 ⟨rfl, hb26⟩
    refine ⟨_, rfl, ?_⟩
    have hs_w25 := hb26.size
    refine rw_val (v := .tuple #[.int .i64 ((takeP l0).1), .int .i64 (((takeP l0).2 : Nat) : Int)]) (w' := w25) rfl rfl rfl rfl rfl ?_
    refine rw_val (v := .int .i64 ((takeP l0).1)) (w' := w25) rfl rfl rfl rfl (by simp [go_sem, sEv, sLook, nbeq, i64_w, -List.length_flatten]) ?_
    refine rw_val (v := .int .i64 (((takeP l0).2 : Nat) : Int)) (w' := w25) rfl rfl rfl rfl (by simp [go_sem, sEv, sLook, nbeq, i64_w, -List.length_flatten]) ?_
    refine rw_val (v := .int .i64 ((takeP l0).1)) (w' := w25) rfl rfl rfl rfl rfl ?_
    refine rw_val (v := .int .i64 (((takeP l0).2 : Nat) : Int)) (w' := w25) rfl rfl rfl rfl rfl ?_
    refine rw_end ?_
    refine w_weaken (G' := [(0, .slice X0 l0.length d0), (1, .int .i64 most), (4, .bool false), (5, .slice A12 l0.length c13), (6, .int .i64 ((takeP l0).1)), (7, .slice A18 n19 c20), (8, errW (TE l0)), (9, .int .i64 ((takeP l0).1)), (10, .int .i64 (((takeP l0).2 : Nat) : Int))]) ⟨rfl, rfl, rfl, rfl, rfl, rfl, rfl, rfl, rfl, trivial⟩ ?_
    refine w_seq ?_
    refine w_seq ?_
    rcases bcase ((((takeP l0).2 : Nat) : Int) == 0) with cZ | cZ
    · refine w_drawk (M := [0, 1, 3, 7, 7, 31, 63, 127, 255, 511, 1023, 2047, 4095, 8191, 16383, 32767, 65535, 131071, 262143, 524287, 1048575, 2097151, 4194303, 8388607, 8388607, 33554431, 67108863, 134217727, 268435455, 536870911, 268435455, 268435455, 3489660927, 7784628223, 17179869183, 34359738367, 68719476735, 137438953471]) (ss := [Is (.int .i64 (((takeP l0).2 : Nat) : Int)), Is (.bool ((((takeP l0).2 : Nat) : Int) == 0)), Is (.bool ((((takeP l0).2 : Nat) : Int) == 0)), Is undef, Is undef, Is undef, Is undef, Is undef, Is undef, Is undef, Is undef, Is undef, Is undef, Is undef, Is undef, Is (.bool false), Is (.bool false), Is (.int .i64 (((takeP l0).2 : Nat) : Int)), Is (.bool true), Is (.bool true), Is (errW none), Is (.bool false), Is (.bool false), Is (.int .i64 ((takeP l0).1)), Is (.int .i64 ((takeP l0).1)), Is (.bool false), Is (.bool false), Is (.bool false), Is (.slice A18 n19 c20), Is (.string (strOfNums (TR l0))), Is (.slice X0 l0.length d0), Is (.int .i64 (((takeP l0).2 : Nat) : Int)), Is (.slice (adr X0 d0 ((takeP l0).2)) ((l0.drop ((takeP l0).2)).length) (d0 - (takeP l0).2)), Is (.string (strOfNums (l0.drop (takeP l0).2)))]) 34 rfl (by decide +kernel) ?_
      refine t_is (.int .i64 (((takeP l0).2 : Nat) : Int)) rfl rfl rfl rfl (fun W_ hW_ F_ => rfl) ?_
      refine t_is (.bool ((((takeP l0).2 : Nat) : Int) == 0)) rfl rfl rfl rfl (fun W_ hW_ F_ => by simp [go_sem, sEv, sLook, nbeq, i64_w, -List.length_flatten]) ?_
      refine t_is (.bool ((((takeP l0).2 : Nat) : Int) == 0)) rfl rfl rfl rfl (fun W_ hW_ F_ => rfl) ?_
      refine t_off (c := ((((takeP l0).2 : Nat) : Int) == 0)) rfl rfl rfl (by first | (rw [cZ]; rfl) | simp [cZ]) rfl rfl ?_
      refine t_off (c := ((((takeP l0).2 : Nat) : Int) == 0)) rfl rfl rfl (by first | (rw [cZ]; rfl) | simp [cZ]) rfl rfl ?_
      refine t_off (c := ((((takeP l0).2 : Nat) : Int) == 0)) rfl rfl rfl (by first | (rw [cZ]; rfl) | simp [cZ]) rfl rfl ?_
      refine t_off (c := ((((takeP l0).2 : Nat) : Int) == 0)) rfl rfl rfl (by first | (rw [cZ]; rfl) | simp [cZ]) rfl rfl ?_
      refine t_offu rfl rfl rfl rfl rfl ?_
      refine t_offu rfl rfl rfl rfl rfl ?_
      refine t_off (c := ((((takeP l0).2 : Nat) : Int) == 0)) rfl rfl rfl (by first | (rw [cZ]; rfl) | simp [cZ]) rfl rfl ?_
      refine t_off (c := ((((takeP l0).2 : Nat) : Int) == 0)) rfl rfl rfl (by first | (rw [cZ]; rfl) | simp [cZ]) rfl rfl ?_
      refine t_offu rfl rfl rfl rfl rfl ?_
      refine t_offu rfl rfl rfl rfl rfl ?_
      refine t_offu rfl rfl rfl rfl rfl ?_
      refine t_off (c := ((((takeP l0).2 : Nat) : Int) == 0)) rfl rfl rfl (by first | (rw [cZ]; rfl) | simp [cZ]) rfl rfl ?_
      refine t_is (.bool false) rfl rfl rfl rfl (fun W_ hW_ F_ => by first | (simp [go_sem, sEv, sLook, nbeq, i64_w, -List.length_flatten, cZ]; done) | (simp [go_sem, sEv, sLook, nbeq, i64_w, -List.length_flatten] <;> omega) | (simp [go_sem, sEv, sLook, nbeq, i64_w, -List.length_flatten]; intro h_; exact absurd (by omega) h_) | (rw [cZ]; simp [go_sem, sEv, sLook, nbeq, i64_w, -List.length_flatten]; done)) ?_
      refine t_is (.bool false) rfl rfl rfl rfl (fun W_ hW_ F_ => rfl) ?_
      refine t_gis (c := false) (.int .i64 (((takeP l0).2 : Nat) : Int)) rfl rfl rfl rfl rfl rfl rfl (fun W_ hW_ F_ => rfl) ?_
      refine t_gis (c := false) (.bool true) rfl rfl rfl rfl rfl rfl rfl (fun W_ hW_ F_ => (by have cZ_ : ¬ (takeP l0).2 = 0 := (by simpa using cZ); simp [go_sem, sEv, sLook, nbeq, i64_w, -List.length_flatten]; omega)) ?_
      refine t_gis (c := false) (.bool true) rfl rfl rfl rfl rfl rfl rfl (fun W_ hW_ F_ => rfl) ?_
      refine t_gis (c := true) (errW none) rfl rfl rfl rfl rfl rfl rfl (fun W_ hW_ F_ => (by have cZ_ : ¬ (takeP l0).2 = 0 := (by simpa using cZ); have e_ : TE l0 = none := (by rw [TE, if_neg cZ_]); rw [← e_]; simp [go_sem, sEv, sLook, nbeq, i64_w, -List.length_flatten])) ?_
      refine t_gis (c := true) (.bool false) rfl rfl rfl rfl rfl rfl rfl (fun W_ hW_ F_ => (run_as (guard_errW_neq _ none _))) ?_
      refine t_gis (c := true) (.bool false) rfl rfl rfl rfl rfl rfl rfl (fun W_ hW_ F_ => rfl) ?_
      refine t_gis (c := false) (.int .i64 ((takeP l0).1)) rfl rfl rfl rfl rfl rfl rfl (fun W_ hW_ F_ => rfl) ?_
      refine t_gis (c := false) (.int .i64 ((takeP l0).1)) rfl rfl rfl rfl rfl rfl rfl (fun W_ hW_ F_ => rfl) ?_
      refine t_gis (c := false) (.bool false) rfl rfl rfl rfl rfl rfl rfl (fun W_ hW_ F_ => (by simp [go_sem, sEv, sLook, nbeq, i64_w, -List.length_flatten])) ?_
      refine t_gis (c := true) (.bool false) rfl rfl rfl rfl rfl rfl rfl (fun W_ hW_ F_ => by simp [go_sem, sEv, sLook, nbeq, i64_w, -List.length_flatten]) ?_
      refine t_gis (c := true) (.bool false) rfl rfl rfl rfl rfl rfl rfl (fun W_ hW_ F_ => rfl) ?_
      refine t_gis (c := false) (.slice A18 n19 c20) rfl rfl rfl rfl rfl rfl rfl (fun W_ hW_ F_ => rfl) ?_
      refine t_gis (c := false) (.string (strOfNums (TR l0))) rfl rfl rfl rfl rfl rfl rfl (fun W_ hW_ F_ => run_as (run_str_of (P := Try.prog) (e := 5) (by kernel_rfl) (by kernel_rfl) (by kernel_rfl) (show (Kd.int .u8).C W_ A18 n19 _ by rw [hL24.len]; exact (Kd.C_below (Own.C hL24) (chain hb26 (below_of_drew hW_)))))) ?_
      refine t_gis (c := false) (.slice X0 l0.length d0) rfl rfl rfl rfl rfl rfl rfl (fun W_ hW_ F_ => rfl) ?_
      refine t_gis (c := false) (.int .i64 (((takeP l0).2 : Nat) : Int)) rfl rfl rfl rfl rfl rfl rfl (fun W_ hW_ F_ => rfl) ?_
      have cZ_ : ¬ (takeP l0).2 = 0 := (by simpa using cZ)
      have ht_ := (take_back l0 hb0 cZ_).2.2.1
      have hP27 := (from_C h0 ((takeP l0).2) (by omega) (show l0.length ≤ d0 by have q_ := e0; have q2_ : l0.length = l0.length := rfl; omega))
      have hc28 : (l0.drop ((takeP l0).2)).length ≤ (d0 - (takeP l0).2) := by have q_ := e0; have q2_ : l0.length = l0.length := rfl; simp only [List.length_take, List.length_drop]; omega
      refine t_gis (c := false) (.slice (adr X0 d0 ((takeP l0).2)) ((l0.drop ((takeP l0).2)).length) (d0 - (takeP l0).2)) rfl rfl rfl rfl rfl rfl rfl (fun W_ hW_ F_ => (run_as (run_from (e := 5) (by kernel_rfl) (fun _ => by kernel_rfl) ((takeP l0).2) _ (by first | rfl | (simp; done) | omega) rfl (by omega) e0 _))) ?_
      refine t_gis (c := false) (.string (strOfNums (l0.drop (takeP l0).2))) rfl rfl rfl rfl rfl rfl rfl (fun W_ hW_ F_ => run_as (run_str_of (P := Try.prog) (e := 5) (by kernel_rfl) (by kernel_rfl) (by kernel_rfl) (Kd.C_below hP27 (chain (chain (chain (chain (chain (chain hb2 hb5) hb11) hB16) hB23) hb26) (below_of_drew hW_))))) ?_
      refine t_tail ?_
      intro w29 hb30_ F31
      have hb30 := below_of_drew hb30_
      have hs_w29 := hb30.size
      refine rw_on (c := false) rfl rfl rfl rfl ?_
      refine rw_val (v := .bool false) (w' := w29) rfl rfl rfl rfl (run_bool (run_as (run_str_neq 9 _ _ _)) (by rw [TR, if_neg cZ_]; simp)) ?_
      refine rw_on (c := true) rfl rfl rfl rfl ?_
      refine rw_val (v := .bool false) (w' := w29) rfl rfl rfl rfl (by simp [go_sem, sEv, sLook, nbeq, i64_w, -List.length_flatten]) ?_
      refine rw_on (c := false) rfl rfl rfl rfl ?_
      refine rw_val (v := .bool false) (w' := w29) rfl rfl rfl rfl (by simp [go_sem, sEv, sLook, nbeq, i64_w, -List.length_flatten]) ?_
      refine rw_val (v := .bool false) (w' := w29) rfl rfl rfl rfl (by simp [go_sem, sEv, sLook, nbeq, i64_w, -List.length_flatten]) ?_
      refine rw_end ?_
      refine w_weaken (G' := [(0, .slice X0 l0.length d0), (1, .int .i64 most), (4, .bool false), (5, .slice A12 l0.length c13), (7, .slice A18 n19 c20), (70, .bool false)]) ⟨rfl, rfl, rfl, rfl, rfl, rfl, trivial⟩ ?_
      refine w_cond_f rfl rfl rfl ?_
      refine w_skip ?_
      refine w_seq ?_
      refine w_region ?_
      refine rw_val (v := .slice A12 l0.length c13) (w' := w29) rfl rfl rfl rfl rfl ?_
      refine rw_val (v := .int .i64 most) (w' := w29) rfl rfl rfl rfl rfl ?_
      refine rw_call rfl rfl rfl rfl (f := 30) (args := #[.slice A12 l0.length c13, .int .i64 most]) (by simp [go_sem, sEv, sLook, nbeq, i64_w, -List.length_flatten]) (nums_back w29 _ _ l0 _ _ (own_head (hL17.on (chain (chain hB23 hb26) hb30))) hb0 (by omega) most) ?_
      rintro e_ w34 ⟨A32, c33, rfl, hle35, hC36, hB37⟩
      refine ⟨_, rfl, ?_⟩
      have hs_w34 := hB37.size
      refine rw_val (v := .tuple #[.slice A32 ((numsP (l0.length + 1) l0 most []).1.length) c33, errW (if (numsP (l0.length + 1) l0 most []).2 = true then none else some 3)]) (w' := w34) rfl rfl rfl rfl rfl ?_
      refine rw_val (v := .slice A32 ((numsP (l0.length + 1) l0 most []).1.length) c33) (w' := w34) rfl rfl rfl rfl (by simp [go_sem, sEv, sLook, nbeq, i64_w, -List.length_flatten]) ?_
      refine rw_val (v := errW (if (numsP (l0.length + 1) l0 most []).2 = true then none else some 3)) (w' := w34) rfl rfl rfl rfl (by simp [go_sem, sEv, sLook, nbeq, i64_w, -List.length_flatten]) ?_
      refine rw_val (v := .slice A32 ((numsP (l0.length + 1) l0 most []).1.length) c33) (w' := w34) rfl rfl rfl rfl rfl ?_
      refine rw_val (v := errW (if (numsP (l0.length + 1) l0 most []).2 = true then none else some 3)) (w' := w34) rfl rfl rfl rfl rfl ?_
      refine rw_end ?_
      refine w_weaken (G' := [(0, .slice X0 l0.length d0), (1, .int .i64 most), (4, .bool false), (5, .slice A12 l0.length c13), (7, .slice A18 n19 c20), (11, .slice A32 ((numsP (l0.length + 1) l0 most []).1.length) c33), (12, errW (if (numsP (l0.length + 1) l0 most []).2 = true then none else some 3))]) ⟨rfl, rfl, rfl, rfl, rfl, rfl, rfl, trivial⟩ ?_
      refine w_seq ?_
      refine w_region ?_
      refine rw_val (v := .slice X0 l0.length d0) (w' := w34) rfl rfl rfl rfl rfl ?_
      refine rw_val (v := .int .i64 most) (w' := w34) rfl rfl rfl rfl rfl ?_
      refine rw_call rfl rfl rfl rfl (f := 31) (args := #[.slice X0 l0.length d0, .int .i64 most]) (by simp [go_sem, sEv, sLook, nbeq, i64_w, -List.length_flatten]) (refnums_calls w34 _ _ l0 (Kd.C_below h0 (chain (chain (chain (chain (chain (chain (chain hb2 hb5) hb11) hB16) hB23) hb26) hb30) hB37)) e0 hb0 (by omega) most) ?_
      rintro e_ w41 ⟨A38, n39, c40, rfl, hO42, hB43⟩
      refine ⟨_, rfl, ?_⟩
      have hs_w41 := hB43.size
      obtain rfl := hO42.len
      have hL44 : Own .i64 3 w41 w.heap.size w34.heap.size A38 (numsP (l0.length + 1) l0 most []).1.length c40 (numsP (l0.length + 1) l0 most []).1 := Own.lower hO42 (by omega)
      refine rw_val (v := .tuple #[.slice A38 ((numsP (l0.length + 1) l0 most []).1.length) c40, .bool ((numsP (l0.length + 1) l0 most []).2)]) (w' := w41) rfl rfl rfl rfl rfl ?_
      refine rw_val (v := .slice A38 ((numsP (l0.length + 1) l0 most []).1.length) c40) (w' := w41) rfl rfl rfl rfl (by simp [go_sem, sEv, sLook, nbeq, i64_w, -List.length_flatten]) ?_
      refine rw_val (v := .bool ((numsP (l0.length + 1) l0 most []).2)) (w' := w41) rfl rfl rfl rfl (by simp [go_sem, sEv, sLook, nbeq, i64_w, -List.length_flatten]) ?_
      refine rw_val (v := .slice A38 ((numsP (l0.length + 1) l0 most []).1.length) c40) (w' := w41) rfl rfl rfl rfl rfl ?_
      refine rw_val (v := .bool ((numsP (l0.length + 1) l0 most []).2)) (w' := w41) rfl rfl rfl rfl rfl ?_
      refine rw_end ?_
      refine w_weaken (G' := [(0, .slice X0 l0.length d0), (4, .bool false), (5, .slice A12 l0.length c13), (7, .slice A18 n19 c20), (11, .slice A32 ((numsP (l0.length + 1) l0 most []).1.length) c33), (12, errW (if (numsP (l0.length + 1) l0 most []).2 = true then none else some 3)), (13, .slice A38 ((numsP (l0.length + 1) l0 most []).1.length) c40), (14, .bool ((numsP (l0.length + 1) l0 most []).2))]) ⟨rfl, rfl, rfl, rfl, rfl, rfl, rfl, rfl, trivial⟩ ?_
      refine w_seq ?_
      refine w_seq ?_
      refine w_region ?_
      refine rw_val (v := .slice A32 ((numsP (l0.length + 1) l0 most []).1.length) c33) (w' := w41) rfl rfl rfl rfl rfl ?_
      refine rw_val (v := .slice A38 ((numsP (l0.length + 1) l0 most []).1.length) c40) (w' := w41) rfl rfl rfl rfl rfl ?_
      have hnl_ := nums_len l0 hb0 (by omega) most
      refine rw_call rfl rfl rfl rfl (f := 17) (args := #[.slice A32 ((numsP (l0.length + 1) l0 most []).1.length) c33, .slice A38 ((numsP (l0.length + 1) l0 most []).1.length) c40]) (by simp [go_sem, sEv, sLook, nbeq, i64_w, -List.length_flatten]) (estuarynum_Ints.calls ((numsP (l0.length + 1) l0 most []).1.length + 1) _ _ (numsP (l0.length + 1) l0 most []).1 _ _ (numsP (l0.length + 1) l0 most []).1 _ w41 (Kd.C_below hC36 hB43) hle35 (Kd.C_below (Own.C hL44) (Below.refl _ _)) (hL44.cap) (ints_f (numsP (l0.length + 1) l0 most []).1 (by omega))) ?_
      rintro e_ w45 ⟨rfl, hb46_⟩
      refine ⟨_, rfl, ?_⟩
      have hb46 := hb46_.below
      have hs_w45 := hb46.size
      refine rw_val (v := .bool false) (w' := w45) rfl rfl rfl rfl (by simp [go_sem, sEv, sLook, nbeq, i64_w, -List.length_flatten]) ?_
      refine rw_val (v := .bool false) (w' := w45) rfl rfl rfl rfl rfl ?_
      refine rw_on (c := false) rfl rfl rfl rfl ?_
      refine rw_val (v := errW (if (numsP (l0.length + 1) l0 most []).2 = true then none else some 3)) (w' := w45) rfl rfl rfl rfl rfl ?_
      refine rw_on (c := false) rfl rfl rfl rfl ?_
      refine rw_val (v := .bool ((numsP (l0.length + 1) l0 most []).2)) (w' := w45) rfl rfl rfl rfl (run_bool (run_as (guard_errW_eq0 _ (if (numsP (l0.length + 1) l0 most []).2 = true then none else some 3) _)) (by cases (numsP (l0.length + 1) l0 most []).2 <;> rfl)) ?_
      refine rw_on (c := false) rfl rfl rfl rfl ?_
      refine rw_val (v := .bool ((numsP (l0.length + 1) l0 most []).2)) (w' := w45) rfl rfl rfl rfl rfl ?_
      refine rw_on (c := false) rfl rfl rfl rfl ?_
      refine rw_val (v := .bool false) (w' := w45) rfl rfl rfl rfl (by simp [go_sem, sEv, sLook, nbeq, i64_w, -List.length_flatten]) ?_
      refine rw_val (v := .bool false) (w' := w45) rfl rfl rfl rfl (by simp [go_sem, sEv, sLook, nbeq, i64_w, -List.length_flatten]) ?_
      refine rw_val (v := .bool false) (w' := w45) rfl rfl rfl rfl rfl ?_
      refine rw_on (c := false) rfl rfl rfl rfl ?_
      refine rw_val (v := .bool ((numsP (l0.length + 1) l0 most []).2)) (w' := w45) rfl rfl rfl rfl rfl ?_
      refine rw_on (c := false) rfl rfl rfl rfl ?_
      refine rw_val (v := .bool (!((numsP (l0.length + 1) l0 most []).2))) (w' := w45) rfl rfl rfl rfl (by simp [go_sem, sEv, sLook, nbeq, i64_w, -List.length_flatten]) ?_
      refine rw_on (c := false) rfl rfl rfl rfl ?_
      refine rw_val (v := .bool (!((numsP (l0.length + 1) l0 most []).2))) (w' := w45) rfl rfl rfl rfl rfl ?_
      rcases bcase (!((numsP (l0.length + 1) l0 most []).2)) with cK | cK
      · refine rw_off (c := !((numsP (l0.length + 1) l0 most []).2)) rfl rfl rfl (by first | (rw [cK]; rfl) | simp [cK]) rfl rfl ?_
        refine rw_off (c := !((numsP (l0.length + 1) l0 most []).2)) rfl rfl rfl (by first | (rw [cK]; rfl) | simp [cK]) rfl rfl ?_
        refine rw_off (c := !((numsP (l0.length + 1) l0 most []).2)) rfl rfl rfl (by first | (rw [cK]; rfl) | simp [cK]) rfl rfl ?_
        refine rw_on (c := false) rfl rfl rfl rfl ?_
        refine rw_val (v := .bool false) (w' := w45) rfl rfl rfl rfl (by first | (simp [go_sem, sEv, sLook, nbeq, i64_w, -List.length_flatten, cK]; done) | (simp [go_sem, sEv, sLook, nbeq, i64_w, -List.length_flatten] <;> omega) | (simp [go_sem, sEv, sLook, nbeq, i64_w, -List.length_flatten]; intro h_; exact absurd (by omega) h_) | (rw [cK]; simp [go_sem, sEv, sLook, nbeq, i64_w, -List.length_flatten]; done)) ?_
        refine rw_val (v := .bool false) (w' := w45) rfl rfl rfl rfl (by simp [go_sem, sEv, sLook, nbeq, i64_w, -List.length_flatten]) ?_
        refine rw_val (v := .bool false) (w' := w45) rfl rfl rfl rfl rfl ?_
        refine rw_on (c := false) rfl rfl rfl rfl ?_
        refine rw_val (v := .slice A12 l0.length c13) (w' := w45) rfl rfl rfl rfl rfl ?_
        refine rw_on (c := false) rfl rfl rfl rfl ?_
        refine rw_val (v := .slice X0 l0.length d0) (w' := w45) rfl rfl rfl rfl rfl ?_
        refine rw_on (c := false) rfl rfl rfl rfl ?_
        refine rw_call rfl rfl rfl rfl (f := 16) (args := #[.slice A12 l0.length c13, .slice X0 l0.length d0]) (by simp [go_sem, sEv, sLook, nbeq, i64_w, -List.length_flatten]) (kept_calls w45 _ _ _ _ l0 (Kd.C_below (show (Kd.int .u8).C _ _ (l0.length + 2) (l0 ++ [165, 90]) by have h_ := Own.C hL17; simpa using h_) (chain (chain (chain (chain (chain hB23 hb26) hb30) hB37) hB43) hb46)) (Kd.C_below (own_front hL17) (chain (chain (chain (chain (chain hB23 hb26) hb30) hB37) hB43) hb46)) (by omega) (by omega) (Kd.C_below h0 (chain (chain (chain (chain (chain (chain (chain (chain (chain hb2 hb5) hb11) hB16) hB23) hb26) hb30) hB37) hB43) hb46)) e0 (by omega)) ?_
        rintro e_ w47 ⟨rfl, hb48⟩
        refine ⟨_, rfl, ?_⟩
        have hs_w47 := hb48.size
        refine rw_on (c := false) rfl rfl rfl rfl ?_
        refine rw_val (v := .bool false) (w' := w47) rfl rfl rfl rfl (by simp [go_sem, sEv, sLook, nbeq, i64_w, -List.length_flatten]) ?_
        refine rw_val (v := .bool false) (w' := w47) rfl rfl rfl rfl (by simp [go_sem, sEv, sLook, nbeq, i64_w, -List.length_flatten]) ?_
        refine rw_end ?_
        refine w_weaken (G' := [(4, .bool false), (5, .slice A12 l0.length c13), (7, .slice A18 n19 c20), (107, .bool false)]) ⟨rfl, rfl, rfl, rfl, trivial⟩ ?_
        refine w_cond_f rfl rfl rfl ?_
        refine w_skip ?_
        refine w_seq ?_
        refine w_region ?_
        refine rw_val (v := .slice A18 n19 c20) (w' := w47) rfl rfl rfl rfl rfl ?_
        refine rw_val (v := .slice A12 l0.length c13) (w' := w47) rfl rfl rfl rfl rfl ?_
        refine rw_new (cs := #[.slice A18 n19 c20, .slice A12 l0.length c13]) (t := 22) (fun g => .slice (some ⟨g, 0, none⟩) 2 2) rfl rfl rfl rfl (by kernel_rfl) ?_
        intro g49 w50 hg54 hz53 hb51 hk52
        have hs_w50 := hb51.size
        have hrn_ := hL24.len
        have htl_ := TR_len l0
        refine rw_call rfl rfl rfl rfl (f := 18) (args := #[.slice (some ⟨g49, 0, none⟩) 2 2]) (by simp [go_sem, sEv, sLook, nbeq, i64_w, -List.length_flatten]) (apart_two (chain (chain (chain (chain (chain (chain (chain (chain (chain (chain (chain hb2 hb5) hb11) hB16) hB23) hb26) hb30) hB37) hB43) hb46) hb48) hb51) hk52 (hL24.on (chain (chain (chain (chain (chain (chain hb26 hb30) hB37) hB43) hb46) hb48) hb51)) (own_head (hL17.on (chain (chain (chain (chain (chain (chain (chain hB23 hb26) hb30) hB37) hB43) hb46) hb48) hb51))) (fun q hq e => by have q1_ := (Kd.R_bound (hL24.on (chain (chain (chain (chain (chain (chain hb26 hb30) hB37) hB43) hb46) hb48) hb51))).1 q hq; have q2_ := (Kd.R_bound (own_head (Own.on hL17 (Below.refl _ _)))).1 q e.symm |>.2.2.1; omega) (by omega) (by omega)) ?_
        rintro e_ w55 ⟨rfl, hB56⟩
        refine ⟨_, rfl, ?_⟩
        refine rw_val (v := .bool true) (w' := w55) rfl rfl rfl rfl rfl ?_
        refine rw_end ?_
        refine w_weaken (G' := [(4, .bool true)]) ⟨rfl, trivial⟩ ?_
        refine w_ret (post_ret1 rfl rfl ?_)
        exact ⟨rfl, hB56⟩
      · refine rw_on (c := !((numsP (l0.length + 1) l0 most []).2)) rfl rfl rfl (by first | (rw [cK]; rfl) | simp [cK]) ?_
        refine rw_val (v := errW (if (numsP (l0.length + 1) l0 most []).2 = true then none else some 3)) (w' := w45) rfl rfl rfl rfl rfl ?_
        refine rw_on (c := !((numsP (l0.length + 1) l0 most []).2)) rfl rfl rfl (by first | (rw [cK]; rfl) | simp [cK]) ?_
        refine rw_val (v := errW (some 3)) (w' := w45) rfl rfl rfl rfl (by simp [go_sem, sEv, sLook, nbeq, i64_w, -List.length_flatten, errW_some]) ?_
        refine rw_on (c := !((numsP (l0.length + 1) l0 most []).2)) rfl rfl rfl (by first | (rw [cK]; rfl) | simp [cK]) ?_
        refine rw_val (v := .bool false) (w' := w45) rfl rfl rfl rfl (run_bool (run_as (guard_errW_neqs _ _ (if (numsP (l0.length + 1) l0 most []).2 = true then none else some 3) 3 _)) (by have hk_ : (numsP (l0.length + 1) l0 most []).2 = false := (by simpa using cK); rw [hk_]; rfl)) ?_
        refine rw_on (c := false) rfl rfl rfl rfl ?_
        refine rw_val (v := .bool false) (w' := w45) rfl rfl rfl rfl (by first | (simp [go_sem, sEv, sLook, nbeq, i64_w, -List.length_flatten, cK]; done) | (simp [go_sem, sEv, sLook, nbeq, i64_w, -List.length_flatten] <;> omega) | (simp [go_sem, sEv, sLook, nbeq, i64_w, -List.length_flatten]; intro h_; exact absurd (by omega) h_) | (rw [cK]; simp [go_sem, sEv, sLook, nbeq, i64_w, -List.length_flatten]; done)) ?_
        refine rw_val (v := .bool false) (w' := w45) rfl rfl rfl rfl (by simp [go_sem, sEv, sLook, nbeq, i64_w, -List.length_flatten]) ?_
        refine rw_val (v := .bool false) (w' := w45) rfl rfl rfl rfl rfl ?_
        refine rw_on (c := false) rfl rfl rfl rfl ?_
        refine rw_val (v := .slice A12 l0.length c13) (w' := w45) rfl rfl rfl rfl rfl ?_
        refine rw_on (c := false) rfl rfl rfl rfl ?_
        refine rw_val (v := .slice X0 l0.length d0) (w' := w45) rfl rfl rfl rfl rfl ?_
        refine rw_on (c := false) rfl rfl rfl rfl ?_
        refine rw_call rfl rfl rfl rfl (f := 16) (args := #[.slice A12 l0.length c13, .slice X0 l0.length d0]) (by simp [go_sem, sEv, sLook, nbeq, i64_w, -List.length_flatten]) (kept_calls w45 _ _ _ _ l0 (Kd.C_below (show (Kd.int .u8).C _ _ (l0.length + 2) (l0 ++ [165, 90]) by have h_ := Own.C hL17; simpa using h_) (chain (chain (chain (chain (chain hB23 hb26) hb30) hB37) hB43) hb46)) (Kd.C_below (own_front hL17) (chain (chain (chain (chain (chain hB23 hb26) hb30) hB37) hB43) hb46)) (by omega) (by omega) (Kd.C_below h0 (chain (chain (chain (chain (chain (chain (chain (chain (chain hb2 hb5) hb11) hB16) hB23) hb26) hb30) hB37) hB43) hb46)) e0 (by omega)) ?_
        rintro e_ w57 ⟨rfl, hb58⟩
        refine ⟨_, rfl, ?_⟩
        have hs_w57 := hb58.size
        refine rw_on (c := false) rfl rfl rfl rfl ?_
        refine rw_val (v := .bool false) (w' := w57) rfl rfl rfl rfl (by simp [go_sem, sEv, sLook, nbeq, i64_w, -List.length_flatten]) ?_
        refine rw_val (v := .bool false) (w' := w57) rfl rfl rfl rfl (by simp [go_sem, sEv, sLook, nbeq, i64_w, -List.length_flatten]) ?_
        refine rw_end ?_
        refine w_weaken (G' := [(4, .bool false), (5, .slice A12 l0.length c13), (7, .slice A18 n19 c20), (107, .bool false)]) ⟨rfl, rfl, rfl, rfl, trivial⟩ ?_
        refine w_cond_f rfl rfl rfl ?_
        refine w_skip ?_
        refine w_seq ?_
        refine w_region ?_
        refine rw_val (v := .slice A18 n19 c20) (w' := w57) rfl rfl rfl rfl rfl ?_
        refine rw_val (v := .slice A12 l0.length c13) (w' := w57) rfl rfl rfl rfl rfl ?_
        refine rw_new (cs := #[.slice A18 n19 c20, .slice A12 l0.length c13]) (t := 22) (fun g => .slice (some ⟨g, 0, none⟩) 2 2) rfl rfl rfl rfl (by kernel_rfl) ?_
        intro g59 w60 hg64 hz63 hb61 hk62
        have hs_w60 := hb61.size
        have hrn_ := hL24.len
        have htl_ := TR_len l0
        refine rw_call rfl rfl rfl rfl (f := 18) (args := #[.slice (some ⟨g59, 0, none⟩) 2 2]) (by simp [go_sem, sEv, sLook, nbeq, i64_w, -List.length_flatten]) (apart_two (chain (chain (chain (chain (chain (chain (chain (chain (chain (chain (chain hb2 hb5) hb11) hB16) hB23) hb26) hb30) hB37) hB43) hb46) hb58) hb61) hk62 (hL24.on (chain (chain (chain (chain (chain (chain hb26 hb30) hB37) hB43) hb46) hb58) hb61)) (own_head (hL17.on (chain (chain (chain (chain (chain (chain (chain hB23 hb26) hb30) hB37) hB43) hb46) hb58) hb61))) (fun q hq e => by have q1_ := (Kd.R_bound (hL24.on (chain (chain (chain (chain (chain (chain hb26 hb30) hB37) hB43) hb46) hb58) hb61))).1 q hq; have q2_ := (Kd.R_bound (own_head (Own.on hL17 (Below.refl _ _)))).1 q e.symm |>.2.2.1; omega) (by omega) (by omega)) ?_
        rintro e_ w65 ⟨rfl, hB66⟩
        refine ⟨_, rfl, ?_⟩
        refine rw_val (v := .bool true) (w' := w65) rfl rfl rfl rfl rfl ?_
        refine rw_end ?_
        refine w_weaken (G' := [(4, .bool true)]) ⟨rfl, trivial⟩ ?_
        refine w_ret (post_ret1 rfl rfl ?_)
        exact ⟨rfl, hB66⟩
    · refine w_drawk (M := [0, 1, 3, 7, 7, 31, 63, 127, 255, 511, 1023, 2047, 4095, 8191, 16383, 32767, 65535, 131071, 262143, 524287, 1048575, 2097151, 4194303, 8388607, 8388607, 33554431, 67108863, 134217727, 268435455, 536870911, 268435455, 268435455, 3489660927, 7784628223, 17179869183, 34359738367, 68719476735, 137438953471]) (ss := [Is (.int .i64 (((takeP l0).2 : Nat) : Int)), Is (.bool ((((takeP l0).2 : Nat) : Int) == 0)), Is (.bool ((((takeP l0).2 : Nat) : Int) == 0)), Is (errW (some 3)), Is (errW (some 3)), Is (.bool false), Is (.bool false), Is (.int .i64 0), Is (.bool false), Is (.bool false), Is (.bool false), Is (.slice A18 n19 c20), Is (.int .i64 0), Is (.bool false), Is (.bool false), Is (.bool false), Is (.bool false), Is (.int .i64 (((takeP l0).2 : Nat) : Int)), Is (.bool false), Is (.bool false), Is undef, Is undef, Is undef, Is undef, Is undef, Is undef, Is undef, Is undef, Is undef, Is undef, Is undef, Is undef, Is undef, Is undef]) 34 rfl (by decide +kernel) ?_
      refine t_is (.int .i64 (((takeP l0).2 : Nat) : Int)) rfl rfl rfl rfl (fun W_ hW_ F_ => rfl) ?_
      refine t_is (.bool ((((takeP l0).2 : Nat) : Int) == 0)) rfl rfl rfl rfl (fun W_ hW_ F_ => by simp [go_sem, sEv, sLook, nbeq, i64_w, -List.length_flatten]) ?_
      refine t_is (.bool ((((takeP l0).2 : Nat) : Int) == 0)) rfl rfl rfl rfl (fun W_ hW_ F_ => rfl) ?_
      refine t_gis (c := ((((takeP l0).2 : Nat) : Int) == 0)) (errW (some 3)) rfl rfl rfl (by first | (rw [cZ]; rfl) | simp [cZ]) rfl rfl rfl (fun W_ hW_ F_ => (by have cZ_ : (takeP l0).2 = 0 := (by simpa using cZ); have e_ : TE l0 = some 3 := (by rw [TE, if_pos cZ_]); rw [← e_]; simp [go_sem, sEv, sLook, nbeq, i64_w, -List.length_flatten])) ?_
      refine t_gis (c := ((((takeP l0).2 : Nat) : Int) == 0)) (errW (some 3)) rfl rfl rfl (by first | (rw [cZ]; rfl) | simp [cZ]) rfl rfl rfl (fun W_ hW_ F_ => (by simp [go_sem, sEv, sLook, nbeq, i64_w, -List.length_flatten, errW_some])) ?_
      refine t_gis (c := ((((takeP l0).2 : Nat) : Int) == 0)) (.bool false) rfl rfl rfl (by first | (rw [cZ]; rfl) | simp [cZ]) rfl rfl rfl (fun W_ hW_ F_ => (run_bool (run_as (guard_errW_neqs _ _ (some 3) 3 _)) (by decide))) ?_
      refine t_gis (c := ((((takeP l0).2 : Nat) : Int) == 0)) (.bool false) rfl rfl rfl (by first | (rw [cZ]; rfl) | simp [cZ]) rfl rfl rfl (fun W_ hW_ F_ => rfl) ?_
      refine t_gis (c := false) (.int .i64 0) rfl rfl rfl rfl rfl rfl rfl (fun W_ hW_ F_ => (by have cZ_ : (takeP l0).2 = 0 := (by simpa using cZ); have e_ := takeP_zero l0 cZ_; simp [go_sem, sEv, sLook, nbeq, i64_w, -List.length_flatten, e_])) ?_
      refine t_gis (c := false) (.bool false) rfl rfl rfl rfl rfl rfl rfl (fun W_ hW_ F_ => by simp [go_sem, sEv, sLook, nbeq, i64_w, -List.length_flatten]) ?_
      refine t_gis (c := ((((takeP l0).2 : Nat) : Int) == 0)) (.bool false) rfl rfl rfl (by first | (rw [cZ]; rfl) | simp [cZ]) rfl rfl rfl (fun W_ hW_ F_ => by simp [go_sem, sEv, sLook, nbeq, i64_w, -List.length_flatten]) ?_
      refine t_gis (c := ((((takeP l0).2 : Nat) : Int) == 0)) (.bool false) rfl rfl rfl (by first | (rw [cZ]; rfl) | simp [cZ]) rfl rfl rfl (fun W_ hW_ F_ => rfl) ?_
      refine t_gis (c := false) (.slice A18 n19 c20) rfl rfl rfl rfl rfl rfl rfl (fun W_ hW_ F_ => rfl) ?_
      refine t_gis (c := false) (.int .i64 0) rfl rfl rfl rfl rfl rfl rfl (fun W_ hW_ F_ => (by have cZ_ : (takeP l0).2 = 0 := (by simpa using cZ); have e_ := hL24.len; rw [TR, if_pos cZ_] at e_; simp [go_sem, sEv, sLook, nbeq, i64_w, -List.length_flatten, e_])) ?_
      refine t_gis (c := false) (.bool false) rfl rfl rfl rfl rfl rfl rfl (fun W_ hW_ F_ => by simp [go_sem, sEv, sLook, nbeq, i64_w, -List.length_flatten]) ?_
      refine t_gis (c := ((((takeP l0).2 : Nat) : Int) == 0)) (.bool false) rfl rfl rfl (by first | (rw [cZ]; rfl) | simp [cZ]) rfl rfl rfl (fun W_ hW_ F_ => by simp [go_sem, sEv, sLook, nbeq, i64_w, -List.length_flatten]) ?_
      refine t_is (.bool false) rfl rfl rfl rfl (fun W_ hW_ F_ => by first | (simp [go_sem, sEv, sLook, nbeq, i64_w, -List.length_flatten, cZ]; done) | (simp [go_sem, sEv, sLook, nbeq, i64_w, -List.length_flatten] <;> omega) | (simp [go_sem, sEv, sLook, nbeq, i64_w, -List.length_flatten]; intro h_; exact absurd (by omega) h_) | (rw [cZ]; simp [go_sem, sEv, sLook, nbeq, i64_w, -List.length_flatten]; done)) ?_
      refine t_is (.bool false) rfl rfl rfl rfl (fun W_ hW_ F_ => rfl) ?_
      refine t_gis (c := false) (.int .i64 (((takeP l0).2 : Nat) : Int)) rfl rfl rfl rfl rfl rfl rfl (fun W_ hW_ F_ => rfl) ?_
      refine t_gis (c := false) (.bool false) rfl rfl rfl rfl rfl rfl rfl (fun W_ hW_ F_ => (by have cZ_ : (takeP l0).2 = 0 := (by simpa using cZ); simp [go_sem, sEv, sLook, nbeq, i64_w, -List.length_flatten, cZ_])) ?_
      refine t_gis (c := false) (.bool false) rfl rfl rfl rfl rfl rfl rfl (fun W_ hW_ F_ => rfl) ?_
      refine t_off (c := false) rfl rfl rfl rfl rfl rfl ?_
      refine t_off (c := false) rfl rfl rfl rfl rfl rfl ?_
      refine t_off (c := false) rfl rfl rfl rfl rfl rfl ?_
      refine t_offu rfl rfl rfl rfl rfl ?_
      refine t_offu rfl rfl rfl rfl rfl ?_
      refine t_offu rfl rfl rfl rfl rfl ?_
      refine t_off (c := false) rfl rfl rfl rfl rfl rfl ?_
      refine t_off (c := false) rfl rfl rfl rfl rfl rfl ?_
      refine t_offu rfl rfl rfl rfl rfl ?_
      refine t_offu rfl rfl rfl rfl rfl ?_
      refine t_offu rfl rfl rfl rfl rfl ?_
      refine t_offu rfl rfl rfl rfl rfl ?_
      refine t_offu rfl rfl rfl rfl rfl ?_
      refine t_offu rfl rfl rfl rfl rfl ?_
      refine t_tail ?_
      intro w67 hb68_ F69
      have hb68 := below_of_drew hb68_
      have hs_w67 := hb68.size
      refine rw_offu rfl rfl rfl rfl rfl ?_
      refine rw_off (c := false) rfl rfl rfl rfl rfl rfl ?_
      refine rw_on (c := false) rfl rfl rfl rfl ?_
      refine rw_val (v := .bool false) (w' := w67) rfl rfl rfl rfl (by simp [go_sem, sEv, sLook, nbeq, i64_w, -List.length_flatten]) ?_
      refine rw_val (v := .bool false) (w' := w67) rfl rfl rfl rfl (by simp [go_sem, sEv, sLook, nbeq, i64_w, -List.length_flatten]) ?_
      refine rw_end ?_
      refine w_weaken (G' := [(0, .slice X0 l0.length d0), (1, .int .i64 most), (4, .bool false), (5, .slice A12 l0.length c13), (7, .slice A18 n19 c20), (70, .bool false)]) ⟨rfl, rfl, rfl, rfl, rfl, rfl, trivial⟩ ?_
      refine w_cond_f rfl rfl rfl ?_
      refine w_skip ?_
      refine w_seq ?_
      refine w_region ?_
      refine rw_val (v := .slice A12 l0.length c13) (w' := w67) rfl rfl rfl rfl rfl ?_
      refine rw_val (v := .int .i64 most) (w' := w67) rfl rfl rfl rfl rfl ?_
      refine rw_call rfl rfl rfl rfl (f := 30) (args := #[.slice A12 l0.length c13, .int .i64 most]) (by simp [go_sem, sEv, sLook, nbeq, i64_w, -List.length_flatten]) (nums_back w67 _ _ l0 _ _ (own_head (hL17.on (chain (chain hB23 hb26) hb68))) hb0 (by omega) most) ?_
      rintro e_ w72 ⟨A70, c71, rfl, hle73, hC74, hB75⟩
      refine ⟨_, rfl, ?_⟩
      have hs_w72 := hB75.size
      refine rw_val (v := .tuple #[.slice A70 ((numsP (l0.length + 1) l0 most []).1.length) c71, errW (if (numsP (l0.length + 1) l0 most []).2 = true then none else some 3)]) (w' := w72) rfl rfl rfl rfl rfl ?_
      refine rw_val (v := .slice A70 ((numsP (l0.length + 1) l0 most []).1.length) c71) (w' := w72) rfl rfl rfl rfl (by simp [go_sem, sEv, sLook, nbeq, i64_w, -List.length_flatten]) ?_
      refine rw_val (v := errW (if (numsP (l0.length + 1) l0 most []).2 = true then none else some 3)) (w' := w72) rfl rfl rfl rfl (by simp [go_sem, sEv, sLook, nbeq, i64_w, -List.length_flatten]) ?_
      refine rw_val (v := .slice A70 ((numsP (l0.length + 1) l0 most []).1.length) c71) (w' := w72) rfl rfl rfl rfl rfl ?_
      refine rw_val (v := errW (if (numsP (l0.length + 1) l0 most []).2 = true then none else some 3)) (w' := w72) rfl rfl rfl rfl rfl ?_
      refine rw_end ?_
      refine w_weaken (G' := [(0, .slice X0 l0.length d0), (1, .int .i64 most), (4, .bool false), (5, .slice A12 l0.length c13), (7, .slice A18 n19 c20), (11, .slice A70 ((numsP (l0.length + 1) l0 most []).1.length) c71), (12, errW (if (numsP (l0.length + 1) l0 most []).2 = true then none else some 3))]) ⟨rfl, rfl, rfl, rfl, rfl, rfl, rfl, trivial⟩ ?_
      refine w_seq ?_
      refine w_region ?_
      refine rw_val (v := .slice X0 l0.length d0) (w' := w72) rfl rfl rfl rfl rfl ?_
      refine rw_val (v := .int .i64 most) (w' := w72) rfl rfl rfl rfl rfl ?_
      refine rw_call rfl rfl rfl rfl (f := 31) (args := #[.slice X0 l0.length d0, .int .i64 most]) (by simp [go_sem, sEv, sLook, nbeq, i64_w, -List.length_flatten]) (refnums_calls w72 _ _ l0 (Kd.C_below h0 (chain (chain (chain (chain (chain (chain (chain hb2 hb5) hb11) hB16) hB23) hb26) hb68) hB75)) e0 hb0 (by omega) most) ?_
      rintro e_ w79 ⟨A76, n77, c78, rfl, hO80, hB81⟩
      refine ⟨_, rfl, ?_⟩
      have hs_w79 := hB81.size
      obtain rfl := hO80.len
      have hL82 : Own .i64 3 w79 w.heap.size w72.heap.size A76 (numsP (l0.length + 1) l0 most []).1.length c78 (numsP (l0.length + 1) l0 most []).1 := Own.lower hO80 (by omega)
      refine rw_val (v := .tuple #[.slice A76 ((numsP (l0.length + 1) l0 most []).1.length) c78, .bool ((numsP (l0.length + 1) l0 most []).2)]) (w' := w79) rfl rfl rfl rfl rfl ?_
      refine rw_val (v := .slice A76 ((numsP (l0.length + 1) l0 most []).1.length) c78) (w' := w79) rfl rfl rfl rfl (by simp [go_sem, sEv, sLook, nbeq, i64_w, -List.length_flatten]) ?_
      refine rw_val (v := .bool ((numsP (l0.length + 1) l0 most []).2)) (w' := w79) rfl rfl rfl rfl (by simp [go_sem, sEv, sLook, nbeq, i64_w, -List.length_flatten]) ?_
      refine rw_val (v := .slice A76 ((numsP (l0.length + 1) l0 most []).1.length) c78) (w' := w79) rfl rfl rfl rfl rfl ?_
      refine rw_val (v := .bool ((numsP (l0.length + 1) l0 most []).2)) (w' := w79) rfl rfl rfl rfl rfl ?_
      refine rw_end ?_
      refine w_weaken (G' := [(0, .slice X0 l0.length d0), (4, .bool false), (5, .slice A12 l0.length c13), (7, .slice A18 n19 c20), (11, .slice A70 ((numsP (l0.length + 1) l0 most []).1.length) c71), (12, errW (if (numsP (l0.length + 1) l0 most []).2 = true then none else some 3)), (13, .slice A76 ((numsP (l0.length + 1) l0 most []).1.length) c78), (14, .bool ((numsP (l0.length + 1) l0 most []).2))]) ⟨rfl, rfl, rfl, rfl, rfl, rfl, rfl, rfl, trivial⟩ ?_
      refine w_seq ?_
      refine w_seq ?_
      refine w_region ?_
      refine rw_val (v := .slice A70 ((numsP (l0.length + 1) l0 most []).1.length) c71) (w' := w79) rfl rfl rfl rfl rfl ?_
      refine rw_val (v := .slice A76 ((numsP (l0.length + 1) l0 most []).1.length) c78) (w' := w79) rfl rfl rfl rfl rfl ?_
      have hnl_ := nums_len l0 hb0 (by omega) most
      refine rw_call rfl rfl rfl rfl (f := 17) (args := #[.slice A70 ((numsP (l0.length + 1) l0 most []).1.length) c71, .slice A76 ((numsP (l0.length + 1) l0 most []).1.length) c78]) (by simp [go_sem, sEv, sLook, nbeq, i64_w, -List.length_flatten]) (estuarynum_Ints.calls ((numsP (l0.length + 1) l0 most []).1.length + 1) _ _ (numsP (l0.length + 1) l0 most []).1 _ _ (numsP (l0.length + 1) l0 most []).1 _ w79 (Kd.C_below hC74 hB81) hle73 (Kd.C_below (Own.C hL82) (Below.refl _ _)) (hL82.cap) (ints_f (numsP (l0.length + 1) l0 most []).1 (by omega))) ?_
      rintro e_ w83 ⟨rfl, hb84_⟩
      refine ⟨_, rfl, ?_⟩
      have hb84 := hb84_.below
      have hs_w83 := hb84.size
      refine rw_val (v := .bool false) (w' := w83) rfl rfl rfl rfl (by simp [go_sem, sEv, sLook, nbeq, i64_w, -List.length_flatten]) ?_
      refine rw_val (v := .bool false) (w' := w83) rfl rfl rfl rfl rfl ?_
      refine rw_on (c := false) rfl rfl rfl rfl ?_
      refine rw_val (v := errW (if (numsP (l0.length + 1) l0 most []).2 = true then none else some 3)) (w' := w83) rfl rfl rfl rfl rfl ?_
      refine rw_on (c := false) rfl rfl rfl rfl ?_
      refine rw_val (v := .bool ((numsP (l0.length + 1) l0 most []).2)) (w' := w83) rfl rfl rfl rfl (run_bool (run_as (guard_errW_eq0 _ (if (numsP (l0.length + 1) l0 most []).2 = true then none else some 3) _)) (by cases (numsP (l0.length + 1) l0 most []).2 <;> rfl)) ?_
      refine rw_on (c := false) rfl rfl rfl rfl ?_
      refine rw_val (v := .bool ((numsP (l0.length + 1) l0 most []).2)) (w' := w83) rfl rfl rfl rfl rfl ?_
      refine rw_on (c := false) rfl rfl rfl rfl ?_
      refine rw_val (v := .bool false) (w' := w83) rfl rfl rfl rfl (by simp [go_sem, sEv, sLook, nbeq, i64_w, -List.length_flatten]) ?_
      refine rw_val (v := .bool false) (w' := w83) rfl rfl rfl rfl (by simp [go_sem, sEv, sLook, nbeq, i64_w, -List.length_flatten]) ?_
      refine rw_val (v := .bool false) (w' := w83) rfl rfl rfl rfl rfl ?_
      refine rw_on (c := false) rfl rfl rfl rfl ?_
      refine rw_val (v := .bool ((numsP (l0.length + 1) l0 most []).2)) (w' := w83) rfl rfl rfl rfl rfl ?_
      refine rw_on (c := false) rfl rfl rfl rfl ?_
      refine rw_val (v := .bool (!((numsP (l0.length + 1) l0 most []).2))) (w' := w83) rfl rfl rfl rfl (by simp [go_sem, sEv, sLook, nbeq, i64_w, -List.length_flatten]) ?_
      refine rw_on (c := false) rfl rfl rfl rfl ?_
      refine rw_val (v := .bool (!((numsP (l0.length + 1) l0 most []).2))) (w' := w83) rfl rfl rfl rfl rfl ?_
      rcases bcase (!((numsP (l0.length + 1) l0 most []).2)) with cK | cK
      · refine rw_off (c := !((numsP (l0.length + 1) l0 most []).2)) rfl rfl rfl (by first | (rw [cK]; rfl) | simp [cK]) rfl rfl ?_
        refine rw_off (c := !((numsP (l0.length + 1) l0 most []).2)) rfl rfl rfl (by first | (rw [cK]; rfl) | simp [cK]) rfl rfl ?_
        refine rw_off (c := !((numsP (l0.length + 1) l0 most []).2)) rfl rfl rfl (by first | (rw [cK]; rfl) | simp [cK]) rfl rfl ?_
        refine rw_on (c := false) rfl rfl rfl rfl ?_
        refine rw_val (v := .bool false) (w' := w83) rfl rfl rfl rfl (by first | (simp [go_sem, sEv, sLook, nbeq, i64_w, -List.length_flatten, cK]; done) | (simp [go_sem, sEv, sLook, nbeq, i64_w, -List.length_flatten] <;> omega) | (simp [go_sem, sEv, sLook, nbeq, i64_w, -List.length_flatten]; intro h_; exact absurd (by omega) h_) | (rw [cK]; simp [go_sem, sEv, sLook, nbeq, i64_w, -List.length_flatten]; done)) ?_
        refine rw_val (v := .bool false) (w' := w83) rfl rfl rfl rfl (by simp [go_sem, sEv, sLook, nbeq, i64_w, -List.length_flatten]) ?_
        refine rw_val (v := .bool false) (w' := w83) rfl rfl rfl rfl rfl ?_
        refine rw_on (c := false) rfl rfl rfl rfl ?_
        refine rw_val (v := .slice A12 l0.length c13) (w' := w83) rfl rfl rfl rfl rfl ?_
        refine rw_on (c := false) rfl rfl rfl rfl ?_
        refine rw_val (v := .slice X0 l0.length d0) (w' := w83) rfl rfl rfl rfl rfl ?_
        refine rw_on (c := false) rfl rfl rfl rfl ?_
        refine rw_call rfl rfl rfl rfl (f := 16) (args := #[.slice A12 l0.length c13, .slice X0 l0.length d0]) (by simp [go_sem, sEv, sLook, nbeq, i64_w, -List.length_flatten]) (kept_calls w83 _ _ _ _ l0 (Kd.C_below (show (Kd.int .u8).C _ _ (l0.length + 2) (l0 ++ [165, 90]) by have h_ := Own.C hL17; simpa using h_) (chain (chain (chain (chain (chain hB23 hb26) hb68) hB75) hB81) hb84)) (Kd.C_below (own_front hL17) (chain (chain (chain (chain (chain hB23 hb26) hb68) hB75) hB81) hb84)) (by omega) (by omega) (Kd.C_below h0 (chain (chain (chain (chain (chain (chain (chain (chain (chain hb2 hb5) hb11) hB16) hB23) hb26) hb68) hB75) hB81) hb84)) e0 (by omega)) ?_
        rintro e_ w85 ⟨rfl, hb86⟩
        refine ⟨_, rfl, ?_⟩
        have hs_w85 := hb86.size
        refine rw_on (c := false) rfl rfl rfl rfl ?_
        refine rw_val (v := .bool false) (w' := w85) rfl rfl rfl rfl (by simp [go_sem, sEv, sLook, nbeq, i64_w, -List.length_flatten]) ?_
        refine rw_val (v := .bool false) (w' := w85) rfl rfl rfl rfl (by simp [go_sem, sEv, sLook, nbeq, i64_w, -List.length_flatten]) ?_
        refine rw_end ?_
        refine w_weaken (G' := [(4, .bool false), (5, .slice A12 l0.length c13), (7, .slice A18 n19 c20), (107, .bool false)]) ⟨rfl, rfl, rfl, rfl, trivial⟩ ?_
        refine w_cond_f rfl rfl rfl ?_
        refine w_skip ?_
        refine w_seq ?_
        refine w_region ?_
        refine rw_val (v := .slice A18 n19 c20) (w' := w85) rfl rfl rfl rfl rfl ?_
        refine rw_val (v := .slice A12 l0.length c13) (w' := w85) rfl rfl rfl rfl rfl ?_
        refine rw_new (cs := #[.slice A18 n19 c20, .slice A12 l0.length c13]) (t := 22) (fun g => .slice (some ⟨g, 0, none⟩) 2 2) rfl rfl rfl rfl (by kernel_rfl) ?_
        intro g87 w88 hg92 hz91 hb89 hk90
        have hs_w88 := hb89.size
        have hrn_ := hL24.len
        have htl_ := TR_len l0
        refine rw_call rfl rfl rfl rfl (f := 18) (args := #[.slice (some ⟨g87, 0, none⟩) 2 2]) (by simp [go_sem, sEv, sLook, nbeq, i64_w, -List.length_flatten]) (apart_two (chain (chain (chain (chain (chain (chain (chain (chain (chain (chain (chain hb2 hb5) hb11) hB16) hB23) hb26) hb68) hB75) hB81) hb84) hb86) hb89) hk90 (hL24.on (chain (chain (chain (chain (chain (chain hb26 hb68) hB75) hB81) hb84) hb86) hb89)) (own_head (hL17.on (chain (chain (chain (chain (chain (chain (chain hB23 hb26) hb68) hB75) hB81) hb84) hb86) hb89))) (fun q hq e => by have q1_ := (Kd.R_bound (hL24.on (chain (chain (chain (chain (chain (chain hb26 hb68) hB75) hB81) hb84) hb86) hb89))).1 q hq; have q2_ := (Kd.R_bound (own_head (Own.on hL17 (Below.refl _ _)))).1 q e.symm |>.2.2.1; omega) (by omega) (by omega)) ?_
        rintro e_ w93 ⟨rfl, hB94⟩
        refine ⟨_, rfl, ?_⟩
        refine rw_val (v := .bool true) (w' := w93) rfl rfl rfl rfl rfl ?_
        refine rw_end ?_
        refine w_weaken (G' := [(4, .bool true)]) ⟨rfl, trivial⟩ ?_
        refine w_ret (post_ret1 rfl rfl ?_)
        exact ⟨rfl, hB94⟩
      · refine rw_on (c := !((numsP (l0.length + 1) l0 most []).2)) rfl rfl rfl (by first | (rw [cK]; rfl) | simp [cK]) ?_
        refine rw_val (v := errW (if (numsP (l0.length + 1) l0 most []).2 = true then none else some 3)) (w' := w83) rfl rfl rfl rfl rfl ?_
        refine rw_on (c := !((numsP (l0.length + 1) l0 most []).2)) rfl rfl rfl (by first | (rw [cK]; rfl) | simp [cK]) ?_
        refine rw_val (v := errW (some 3)) (w' := w83) rfl rfl rfl rfl (by simp [go_sem, sEv, sLook, nbeq, i64_w, -List.length_flatten, errW_some]) ?_
        refine rw_on (c := !((numsP (l0.length + 1) l0 most []).2)) rfl rfl rfl (by first | (rw [cK]; rfl) | simp [cK]) ?_
        refine rw_val (v := .bool false) (w' := w83) rfl rfl rfl rfl (run_bool (run_as (guard_errW_neqs _ _ (if (numsP (l0.length + 1) l0 most []).2 = true then none else some 3) 3 _)) (by have hk_ : (numsP (l0.length + 1) l0 most []).2 = false := (by simpa using cK); rw [hk_]; rfl)) ?_
        refine rw_on (c := false) rfl rfl rfl rfl ?_
        refine rw_val (v := .bool false) (w' := w83) rfl rfl rfl rfl (by first | (simp [go_sem, sEv, sLook, nbeq, i64_w, -List.length_flatten, cK]; done) | (simp [go_sem, sEv, sLook, nbeq, i64_w, -List.length_flatten] <;> omega) | (simp [go_sem, sEv, sLook, nbeq, i64_w, -List.length_flatten]; intro h_; exact absurd (by omega) h_) | (rw [cK]; simp [go_sem, sEv, sLook, nbeq, i64_w, -List.length_flatten]; done)) ?_
        refine rw_val (v := .bool false) (w' := w83) rfl rfl rfl rfl (by simp [go_sem, sEv, sLook, nbeq, i64_w, -List.length_flatten]) ?_
        refine rw_val (v := .bool false) (w' := w83) rfl rfl rfl rfl rfl ?_
        refine rw_on (c := false) rfl rfl rfl rfl ?_
        refine rw_val (v := .slice A12 l0.length c13) (w' := w83) rfl rfl rfl rfl rfl ?_
        refine rw_on (c := false) rfl rfl rfl rfl ?_
        refine rw_val (v := .slice X0 l0.length d0) (w' := w83) rfl rfl rfl rfl rfl ?_
        refine rw_on (c := false) rfl rfl rfl rfl ?_
        refine rw_call rfl rfl rfl rfl (f := 16) (args := #[.slice A12 l0.length c13, .slice X0 l0.length d0]) (by simp [go_sem, sEv, sLook, nbeq, i64_w, -List.length_flatten]) (kept_calls w83 _ _ _ _ l0 (Kd.C_below (show (Kd.int .u8).C _ _ (l0.length + 2) (l0 ++ [165, 90]) by have h_ := Own.C hL17; simpa using h_) (chain (chain (chain (chain (chain hB23 hb26) hb68) hB75) hB81) hb84)) (Kd.C_below (own_front hL17) (chain (chain (chain (chain (chain hB23 hb26) hb68) hB75) hB81) hb84)) (by omega) (by omega) (Kd.C_below h0 (chain (chain (chain (chain (chain (chain (chain (chain (chain hb2 hb5) hb11) hB16) hB23) hb26) hb68) hB75) hB81) hb84)) e0 (by omega)) ?_
        rintro e_ w95 ⟨rfl, hb96⟩
        refine ⟨_, rfl, ?_⟩
        have hs_w95 := hb96.size
        refine rw_on (c := false) rfl rfl rfl rfl ?_
        refine rw_val (v := .bool false) (w' := w95) rfl rfl rfl rfl (by simp [go_sem, sEv, sLook, nbeq, i64_w, -List.length_flatten]) ?_
        refine rw_val (v := .bool false) (w' := w95) rfl rfl rfl rfl (by simp [go_sem, sEv, sLook, nbeq, i64_w, -List.length_flatten]) ?_
        refine rw_end ?_
        refine w_weaken (G' := [(4, .bool false), (5, .slice A12 l0.length c13), (7, .slice A18 n19 c20), (107, .bool false)]) ⟨rfl, rfl, rfl, rfl, trivial⟩ ?_
        refine w_cond_f rfl rfl rfl ?_
        refine w_skip ?_
        refine w_seq ?_
        refine w_region ?_
        refine rw_val (v := .slice A18 n19 c20) (w' := w95) rfl rfl rfl rfl rfl ?_
        refine rw_val (v := .slice A12 l0.length c13) (w' := w95) rfl rfl rfl rfl rfl ?_
        refine rw_new (cs := #[.slice A18 n19 c20, .slice A12 l0.length c13]) (t := 22) (fun g => .slice (some ⟨g, 0, none⟩) 2 2) rfl rfl rfl rfl (by kernel_rfl) ?_
        intro g97 w98 hg102 hz101 hb99 hk100
        have hs_w98 := hb99.size
        have hrn_ := hL24.len
        have htl_ := TR_len l0
        refine rw_call rfl rfl rfl rfl (f := 18) (args := #[.slice (some ⟨g97, 0, none⟩) 2 2]) (by simp [go_sem, sEv, sLook, nbeq, i64_w, -List.length_flatten]) (apart_two (chain (chain (chain (chain (chain (chain (chain (chain (chain (chain (chain hb2 hb5) hb11) hB16) hB23) hb26) hb68) hB75) hB81) hb84) hb96) hb99) hk100 (hL24.on (chain (chain (chain (chain (chain (chain hb26 hb68) hB75) hB81) hb84) hb96) hb99)) (own_head (hL17.on (chain (chain (chain (chain (chain (chain (chain hB23 hb26) hb68) hB75) hB81) hb84) hb96) hb99))) (fun q hq e => by have q1_ := (Kd.R_bound (hL24.on (chain (chain (chain (chain (chain (chain hb26 hb68) hB75) hB81) hb84) hb96) hb99))).1 q hq; have q2_ := (Kd.R_bound (own_head (Own.on hL17 (Below.refl _ _)))).1 q e.symm |>.2.2.1; omega) (by omega) (by omega)) ?_
        rintro e_ w103 ⟨rfl, hB104⟩
        refine ⟨_, rfl, ?_⟩
        refine rw_val (v := .bool true) (w' := w103) rfl rfl rfl rfl rfl ?_
        refine rw_end ?_
        refine w_weaken (G' := [(4, .bool true)]) ⟨rfl, trivial⟩ ?_
        refine w_ret (post_ret1 rfl rfl ?_)
        exact ⟨rfl, hB104⟩
end Go.Proofs.Ytjndoihnpnmbjaa.PFrameSums
