/- What bytes numbers have: the walk. -/
import Derived.Test.YtjndoihnpnmbjaaFrPlain6
namespace Go.Proofs.Ytjndoihnpnmbjaa.PFrameSums
open Go.RowKit Go.Proofs.YtjndoihnpnmbjaaW.PrintWords Go.Proofs.YtjndoihnpnmbjaaW.PrintLast Go.Proofs.YtjndoihnpnmbjaaW.PrintMore
open Go.Proofs.Ytjndoihnpnmbjaa.Flow
set_option linter.unusedVariables false
set_option linter.unusedSimpArgs false


theorem makei_run (w : World) (l : Int) (n : Nat) (hl : l = (n : Int)) (hn : n ≤ 16777216) : (Instr.makeSlice 23 (.int .i64 0) (.int .i64 l)).run Try.prog w = .ok (.slice (some ⟨w.heap.size, 0, none⟩) 0 n) (w.alloc (.cells (madeCells #[Value.int .i64 0] n) 3)) := by
  subst hl
  obtain ⟨i3, hi3, hz3⟩ := Option.map_eq_some_iff.1 info3
  simp only [Prod.mk.injEq] at hz3
  have h := run_makeSlice (P := Try.prog) w 23 3 i3 (.int .i64 0) (by kernel_rfl) hi3 hz3.1 .i64 .i64 0 (n : Int) (by omega) (by omega) (by rw [hz3.2.1]; omega) (by rw [hz3.2.2]; omega) (by omega)
  simp only [Int.toNat_natCast, hz3.2.1, Nat.mul_one] at h
  exact h
theorem madei_size (n : Nat) : (madeCells #[Value.int .i64 0] n).size = n := by
  rw [← Array.length_toList, toList_madeCells_one]
  simp
theorem rd_last (ys : List Int) (x : Int) : rd (ys ++ [x]) ((ys.length : Nat) : Int) = x := by
  rw [rd_at _ ys.length (by simp)]
  simp
theorem put_behind (w : World) (A : Option Addr) (n c : Nat) (l0 : List Int) (hC : (Kd.int .u8).C w A n l0) (hl0 : l0.length ≤ 1000000) (hn : n = l0.length) (DA : Option Addr) (dc : Nat) (ys : List Int) (hC1 : (Kd.int .i64).C w DA ys.length ys) (hc1 : ys.length ≤ dc) (hy : ∀ y ∈ ys, I64 y) (hl : ys.length ≤ 1000000) : Calls Try.prog 14 #[.slice A n c, .slice DA ys.length dc] w fun e w' => ∃ A' n' c', e = .returned (.slice A' n' c') ∧ Own .u8 5 w' w.heap.size w.heap.size A' n' c' (l0 ++ PB ys) ∧ Below w.heap.size w w' :=
  put_calls w (ys.length + 12) A n c l0 hC (by omega) DA dc ys (l0 ++ PB ys) hC1 hc1 (put_f2 l0 ys hy hl hl0)
theorem refput_calls (w : World) (A0 : Option Addr) (c0 : Nat) (l0 : List Int) (A1 : Option Addr) (c1 : Nat) (ys : List Int) (h0 : (Kd.int .u8).C w A0 l0.length l0) (hc0 : l0.length ≤ c0) (h1 : (Kd.int .i64).C w A1 ys.length ys) (hc1 : ys.length ≤ c1) (hy : ∀ y ∈ ys, I64 y) (hl : ys.length ≤ 1000000) (hl0 : l0.length ≤ 1000000) : Calls Try.prog 15 #[.slice A0 l0.length c0, .slice A1 ys.length c1] w fun e w' => ∃ A' n' c', e = .returned (.slice A' n' c') ∧ Own .u8 5 w' w.heap.size w.heap.size A' n' c' (l0 ++ PB ys) ∧ Below w.heap.size w w' := by
  refine (estuaryref04_Put.calls (ys.length + 14) A0 c0 l0 A1 c1 ys _ w h0 hc0 h1 hc1 (refput_f l0 ys hy hl hl0)).mono ?_
  rintro e w' ⟨v0, rfl, hR, hB⟩
  obtain ⟨A', c', rfl, hle, hR2⟩ := R_shape hR
  exact ⟨A', _, c', rfl, Own.born hR2 (Nat.le_refl _), hB⟩
set_option maxHeartbeats 4000000 in
theorem walkPuts (w : World) (X0 Y0 : Option Addr) (d0 dy : Nat) (l0 ys : List Int) (h0 : (Kd.int .u8).C w X0 l0.length l0) (e0 : l0.length ≤ d0) (hy0 : (Kd.int .i64).C w Y0 ys.length ys) (ey : ys.length ≤ dy) (hyr : ∀ y ∈ ys, I64 y) :
    Calls Try.prog 3 #[.slice X0 l0.length d0, .slice Y0 ys.length dy] w fun e w' => e = .returned (.bool true) ∧ Below w.heap.size w w' := by
  refine calls_flow Try.func3 rfl 69 rfl (Nat.le_of_ble_eq_true rfl) [(0, .slice X0 l0.length d0), (1, .slice Y0 ys.length dy)] ?_ ?_
  · intro t v h; exact args_look rfl t v h
  refine w_seq ?_
  refine w_region ?_
  refine rw_val (v := .bool false) (w' := w) rfl rfl rfl rfl rfl ?_
  refine rw_end ?_
  refine w_seq ?_
  refine w_seq ?_
  refine w_region ?_
  refine rw_call rfl rfl rfl rfl (f := 11) (args := #[]) (by simp [go_sem, sEv, sLook, nbeq, i64_w, -List.length_flatten]) (alive_calls w) ?_
  rintro e_ w1 ⟨rfl, hb2⟩
  refine ⟨_, rfl, ?_⟩
  have hs_w1 := hb2.size
  refine rw_val (v := .bool false) (w' := w1) rfl rfl rfl rfl (by simp [go_sem, sEv, sLook, nbeq, i64_w, -List.length_flatten]) ?_
  refine rw_end ?_
  refine w_cond_f rfl rfl rfl ?_
  refine w_skip ?_
  refine w_seq ?_
  refine w_seq ?_
  refine w_region ?_
  refine rw_val (v := .slice X0 l0.length d0) (w' := w1) rfl rfl rfl rfl rfl ?_
  refine rw_new (cs := #[.slice X0 l0.length d0]) (t := 22) (fun g => .slice (some ⟨g, 0, none⟩) 1 1) rfl rfl rfl rfl (by kernel_rfl) ?_
  intro g3 w4 hg8 hz7 hb5 hk6
  have hs_w4 := hb5.size
  have hP9 : (Kd.slice 5 (Kd.int .u8)).C w4 (some ⟨g3, 0, none⟩) [l0].length [l0] := rows1 hk6 e0 (Kd.C_below h0 (chain hb2 hb5))
  refine rw_call rfl rfl rfl rfl (f := 12) (args := #[.slice (some ⟨g3, 0, none⟩) 1 1]) (by simp [go_sem, sEv, sLook, nbeq, i64_w, -List.length_flatten]) (estuarylaw04_large.calls 10 _ 1 [l0] _ w4 (Kd.C_below hP9 (Below.refl _ _)) (by simp) (large_f _ (by simp) _ (by simp))) ?_
  rintro e_ w10 ⟨rfl, hb11_⟩
  refine ⟨_, rfl, ?_⟩
  have hb11 := hb11_.below
  have hs_w10 := hb11.size
  refine rw_val (v := .bool (lg [l0])) (w' := w10) rfl rfl rfl rfl rfl ?_
  rcases bcase (lg [l0]) with cG | cG
  · refine rw_on (c := lg [l0]) rfl rfl rfl (by first | (rw [cG]; rfl) | simp [cG]) ?_
    refine rw_val (v := .slice Y0 ys.length dy) (w' := w10) rfl rfl rfl rfl rfl ?_
    refine rw_on (c := lg [l0]) rfl rfl rfl (by first | (rw [cG]; rfl) | simp [cG]) ?_
    refine rw_val (v := .int .i64 (ys.length : Int)) (w' := w10) rfl rfl rfl rfl (by simp [go_sem, sEv, sLook, nbeq, i64_w, -List.length_flatten]) ?_
    refine rw_on (c := lg [l0]) rfl rfl rfl (by first | (rw [cG]; rfl) | simp [cG]) ?_
    refine rw_val (v := .bool (decide (4000 < (ys.length : Int)))) (w' := w10) rfl rfl rfl rfl (by simp [go_sem, sEv, sLook, nbeq, i64_w, -List.length_flatten]) ?_
    refine rw_val (v := .bool (decide (4000 < (ys.length : Int)))) (w' := w10) rfl rfl rfl rfl (by first | (simp [go_sem, sEv, sLook, nbeq, i64_w, -List.length_flatten, cG]; done) | (simp [go_sem, sEv, sLook, nbeq, i64_w, -List.length_flatten] <;> omega) | (simp [go_sem, sEv, sLook, nbeq, i64_w, -List.length_flatten]; intro h_; exact absurd (by omega) h_) | (rw [cG]; simp [go_sem, sEv, sLook, nbeq, i64_w, -List.length_flatten]; done)) ?_
    refine rw_end ?_
    refine w_weaken (G' := [(0, .slice X0 l0.length d0), (1, .slice Y0 ys.length dy), (4, .bool false), (17, .bool (decide (4000 < (ys.length : Int))))]) ⟨rfl, rfl, rfl, rfl, trivial⟩ ?_
    refine w_cond rfl rfl (fun cY => ?_) (fun cY => ?_)
    · refine w_seq ?_
      refine w_region ?_
      refine rw_val (v := .bool true) (w' := w10) rfl rfl rfl rfl rfl ?_
      refine rw_end ?_
      refine w_ret (post_ret1 rfl rfl ?_)
      exact ⟨rfl, (chain (chain hb2 hb5) hb11)⟩
    · refine w_skip ?_
      refine w_seq ?_
      refine w_region ?_
      refine rw_val (v := .slice X0 l0.length d0) (w' := w10) rfl rfl rfl rfl rfl ?_
      obtain ⟨_, hlg2_, _⟩ := lg_no cG
      have hl0_ : l0.length ≤ 65536 := by simpa using hlg2_
      have hys_ := of_decide_eq_false cY
      refine rw_call rfl rfl rfl rfl (f := 13) (args := #[.slice X0 l0.length d0]) (by simp [go_sem, sEv, sLook, nbeq, i64_w, -List.length_flatten]) (copy_calls w10 X0 d0 l0 (Kd.C_below h0 (chain (chain hb2 hb5) hb11)) e0 (by omega)) ?_
      rintro e_ w14 ⟨A12, c13, rfl, hO15, hB16⟩
      refine ⟨_, rfl, ?_⟩
      have hs_w14 := hB16.size
      have hL17 : Own .u8 5 w14 w.heap.size w.heap.size A12 (l0.length + 2) c13 (l0 ++ [165, 90]) := (Own.lower hO15 (by omega)).mono (by omega)
      have hocap_ := hL17.cap
      refine rw_val (v := .slice A12 l0.length c13) (w' := w14) rfl rfl rfl rfl rfl ?_
      refine rw_end ?_
      refine w_seq ?_
      refine w_region ?_
      refine rw_val (v := .slice Y0 ys.length dy) (w' := w14) rfl rfl rfl rfl rfl ?_
      refine rw_val (v := .int .i64 (ys.length : Int)) (w' := w14) rfl rfl rfl rfl (by simp [go_sem, sEv, sLook, nbeq, i64_w, -List.length_flatten]) ?_
      refine rw_val (v := .int .i64 ((ys.length + 1 : Nat) : Int)) (w' := w14) rfl rfl rfl rfl (by simp [go_sem, sEv, sLook, nbeq, i64_w, -List.length_flatten]; exact wrap_id (by omega) (by omega)) ?_
      refine rw_new (cs := madeCells #[Value.int .i64 0] (ys.length + 1)) (t := 3) (fun g => .slice (some ⟨g, 0, none⟩) 0 (ys.length + 1)) rfl rfl rfl rfl (run_as (makei_run _ _ (ys.length + 1) (by omega) (by omega))) ?_
      intro g18 w19 hg23 hz22 hb20 hk21
      have hs_w19 := hb20.size
      have hO24 : Own .i64 3 w19 w.heap.size w.heap.size (some ⟨g18, 0, none⟩) 0 (ys.length + 1) [] := Own.mono (own_blk (xs := []) w.heap.size hk21 (by omega) (madei_size _) (by simp) (by omega) (Nums.nil _ _)) (by omega)
      refine rw_val (v := .slice Y0 ys.length dy) (w' := w19) rfl rfl rfl rfl rfl ?_
      have ho33 := (hO24.on (Below.refl _ _))
      have hx34 := (hL17.on hb20)
      refine rw_append_row .i64 w.heap.size rfl rfl rfl (.tmp 23) (.tmp 24) rfl rfl 23 3 8 rfl (by kernel_rfl) info3 (by decide) (b := w.heap.size) rfl rfl (by omega) ho33 (Kd.C_below hy0 (chain (chain (chain (chain hb2 hb5) hb11) hB16) hb20)) (chain (chain (chain (chain hb2 hb5) hb11) hB16) hb20) (by omega) (by simp; omega) ?_
      intro A25 n26 c27 w28 hn29 hO30 hB31 hG32
      have hs_w28 := hB31.size
      have hgs_w28 := hG32.size
      have hO35 := Own.grown hx34 ho33 (by decide) hG32
      refine rw_new (cs := #[.int .i64 (-77)]) (t := 3) (fun g => .slice (some ⟨g, 0, none⟩) 1 1) rfl rfl rfl rfl (by kernel_rfl) ?_
      intro g36 w37 hg41 hz40 hb38 hk39
      have hs_w37 := hb38.size
      have hO42 : Own .i64 3 w37 w.heap.size g36 (some ⟨g36, 0, none⟩) 1 1 [-77] := own_blk (xs := [-77]) w.heap.size hk39 (by omega) rfl (by simp) (by omega) (fun j hj => by
        match j, hj with
        | 0, _ => rfl
        | j + 1, hj => simp at hj)
      have ho51 := (hO30.on hb38)
      have hx52 := (hO35.on hb38)
      refine rw_append_row .i64 w.heap.size rfl rfl rfl (.tmp 25) (.tmp 26) rfl rfl 23 3 8 rfl (by kernel_rfl) info3 (by decide) (b := w.heap.size) rfl rfl (by omega) ho51 (show (Kd.int .i64).C _ _ 1 [-77] by rw [hO42.len]; exact (Kd.C_below (Own.C hO42) (Below.refl _ _))) (chain hB31 hb38) (by omega) (by simp; omega) ?_
      intro A43 n44 c45 w46 hn47 hO48 hB49 hG50
      have hs_w46 := hB49.size
      have hgs_w46 := hG50.size
      have hO53 := Own.grown hx52 ho51 (by decide) hG50
      refine rw_val (v := .slice Y0 ys.length dy) (w' := w46) rfl rfl rfl rfl rfl ?_
      refine rw_val (v := .int .i64 (ys.length : Int)) (w' := w46) rfl rfl rfl rfl (by simp [go_sem, sEv, sLook, nbeq, i64_w, -List.length_flatten]) ?_
      have hn_ := hO48.len
      have hcp_ := hO48.cap
      simp only [List.nil_append, List.length_append, List.length_cons, List.length_nil] at hn_
      have hN54 : Own .i64 3 w46 w.heap.size w.heap.size A43 n44 c45 (ys ++ [-77]) := by simpa using (hO48.on (Below.refl _ _))
      refine rw_val (v := .slice A43 ys.length c45) (w' := w46) rfl rfl rfl rfl (by have h_ := upto_run (P := Try.prog) (t := 23) (e := 3) (sz := 1) (by kernel_rfl) (fun _ => by kernel_rfl) (A := A43) (n := n44) (c := c45) (x := (ys.length : Int)) (by omega) (by omega) w46; rw [Int.toNat_natCast] at h_; exact run_as h_) ?_
      refine rw_val (v := .slice A43 ys.length c45) (w' := w46) rfl rfl rfl rfl rfl ?_
      refine rw_end ?_
      refine w_weaken (G' := [(0, .slice X0 l0.length d0), (1, .slice Y0 ys.length dy), (4, .bool false), (5, .slice A12 l0.length c13), (6, .slice A43 ys.length c45)]) ⟨rfl, rfl, rfl, rfl, rfl, trivial⟩ ?_
      refine w_seq ?_
      refine w_region ?_
      refine rw_val (v := .slice A12 l0.length c13) (w' := w46) rfl rfl rfl rfl rfl ?_
      refine rw_val (v := .slice A43 ys.length c45) (w' := w46) rfl rfl rfl rfl rfl ?_
      have hoT_ := own_head (hO53.on (Below.refl _ _))
      refine rw_call rfl rfl rfl rfl (f := 14) (args := #[.slice A12 l0.length c13, .slice A43 ys.length c45]) (by simp [go_sem, sEv, sLook, nbeq, i64_w, -List.length_flatten]) (put_behind w46 _ _ _ l0 (Kd.C_below (own_front hO53) (Below.refl _ _)) (by omega) rfl _ _ ys (Kd.C_below (own_front hN54) (Below.refl _ _)) (by omega) hyr (by omega)) ?_
      rintro e_ w58 ⟨A55, n56, c57, rfl, hO59, hB60⟩
      refine ⟨_, rfl, ?_⟩
      have hs_w58 := hB60.size
      have hL61 : Own .u8 5 w58 w.heap.size w46.heap.size A55 n56 c57 (l0 ++ PB ys) := Own.lower hO59 (by omega)
      obtain ⟨adn, hAn_, hcn_⟩ := Kd.at_int (Own.C hN54) ((ys.length : Nat) : Int) (by omega) (by simp; omega)
      rw [rd_last, Int.toNat_natCast] at hcn_
      refine rw_val (v := .slice A55 n56 c57) (w' := w58) rfl rfl rfl rfl rfl ?_
      refine rw_end ?_
      refine w_weaken (G' := [(0, .slice X0 l0.length d0), (1, .slice Y0 ys.length dy), (4, .bool false), (5, .slice A12 l0.length c13), (6, .slice A43 ys.length c45), (7, .slice A55 n56 c57)]) ⟨rfl, rfl, rfl, rfl, rfl, rfl, trivial⟩ ?_
      refine w_seq ?_
      refine w_drawk (M := [0, 1, 0, 0, 12, 28, 63, 127, 255, 255, 1023, 2047, 4095, 8191, 8191, 32767, 65535, 131071, 262143, 262143, 786431, 1835007, 4194303, 262143, 8650751, 33554431, 67108863, 134217727, 268435455, 536870911, 1073741823, 1073741823, 4294967295, 8589934591, 17179869183, 34359738367]) (ss := [Is (.slice A55 n56 c57), Is (.string (strOfNums (l0 ++ PB ys))), Is (.slice X0 l0.length d0), Is (.slice Y0 ys.length dy), OwnSpec w.heap.size w58.heap.size (l0 ++ PB ys), Is (.string (strOfNums (l0 ++ PB ys))), Is (.bool true), Is (.bool true), Is (.slice A12 l0.length c13), Is (.slice X0 l0.length d0), (Is (.bool true)), Is (.bool true), Is (.bool true), Is (.slice A43 ys.length c45), Is (.slice Y0 ys.length dy), (Is (.bool true)), Is (.bool true), Is (.bool true), Is (.slice A43 ys.length c45), Is (.slice A43 ys.length c45), Is (.int .i64 (ys.length : Int)), Is (.int .i64 ((ys.length + 1 : Nat) : Int)), Is (.slice A43 (ys.length + 1) c45), Is (.slice A43 ys.length c45), Is (.int .i64 (ys.length : Int)), Is (.pointer (some (adn.add ys.length))), Is (.int .i64 (-77)), Is (.bool true), Is (.bool true), Is (.bool true), Is (.slice A55 n56 c57), Is (.slice A12 l0.length c13)]) 32 rfl (by decide +kernel) ?_
      refine t_is (.slice A55 n56 c57) rfl rfl rfl rfl (fun W_ hW_ F_ => rfl) ?_
      refine t_is (.string (strOfNums (l0 ++ PB ys))) rfl rfl rfl rfl (fun W_ hW_ F_ => run_as (run_str_of (P := Try.prog) (e := 5) (by kernel_rfl) (by kernel_rfl) (by kernel_rfl) (show (Kd.int .u8).C W_ A55 n56 _ by rw [hL61.len]; exact (Kd.C_below (Own.C hL61) (chain (Below.refl _ _) (below_of_drew hW_)))))) ?_
      refine t_is (.slice X0 l0.length d0) rfl rfl rfl rfl (fun W_ hW_ F_ => rfl) ?_
      refine t_is (.slice Y0 ys.length dy) rfl rfl rfl rfl (fun W_ hW_ F_ => rfl) ?_
      refine t_call (f := 15) (args := #[.slice X0 l0.length d0, .slice Y0 ys.length dy]) (OwnSpec w.heap.size w58.heap.size (l0 ++ PB ys)) rfl rfl rfl rfl (fun W_ => by simp [go_sem, sEv, sLook, nbeq, i64_w, -List.length_flatten]) (fun W_ hW_ F_ => ?_) ?_
      · have hs_ := (below_of_drew hW_).size
        refine (refput_calls W_ _ _ l0 _ _ ys (Kd.C_below h0 (chain (chain hB49 hB60) (below_of_drew hW_))) e0 (Kd.C_below hy0 (chain (chain hB49 hB60) (below_of_drew hW_))) ey hyr (by omega) (by omega)).mono ?_
        rintro e_ w_ ⟨A_, n_, c_, rfl, hO_, hb_⟩
        exact ⟨_, rfl, ⟨A_, n_, c_, rfl, hO_.lower (by omega) |>.mono hs_⟩, hb_⟩
      rintro _ ⟨A62, n63, c64, rfl⟩
      refine t_is (.string (strOfNums (l0 ++ PB ys))) rfl rfl rfl rfl (fun W_ hW_ F_ => by have hO_ := ownspec_fact (F_ 4 _ _ rfl rfl); exact run_as (run_str_of (P := Try.prog) (e := 5) (by kernel_rfl) (by kernel_rfl) (by kernel_rfl) (show (Kd.int .u8).C W_ A62 n63 _ by rw [hO_.len]; exact hO_.C))) ?_
      refine t_is (.bool true) rfl rfl rfl rfl (fun W_ hW_ F_ => (run_bool (run_as (run_str_eql 9 _ _ _)) (by simp))) ?_
      refine t_is (.bool true) rfl rfl rfl rfl (fun W_ hW_ F_ => rfl) ?_
      refine t_gis (c := true) (.slice A12 l0.length c13) rfl rfl rfl rfl rfl rfl rfl (fun W_ hW_ F_ => rfl) ?_
      refine t_gis (c := true) (.slice X0 l0.length d0) rfl rfl rfl rfl rfl rfl rfl (fun W_ hW_ F_ => rfl) ?_
      refine t_gcall (c := true) (f := 16) (args := #[.slice A12 l0.length c13, .slice X0 l0.length d0]) (Is (.bool true)) rfl rfl rfl rfl rfl rfl rfl (fun W_ => by simp [go_sem, sEv, sLook, nbeq, i64_w, -List.length_flatten]) (fun W_ hW_ F_ => ?_) ?_
      · refine (kept_calls W_ _ _ _ _ l0 (Kd.C_below (show (Kd.int .u8).C _ _ (l0.length + 2) (l0 ++ [165, 90]) by have h_ := Own.C hO53; simpa using h_) (chain hB60 (below_of_drew hW_))) (Kd.C_below (own_front hO53) (chain hB60 (below_of_drew hW_))) (by omega) (by omega) (Kd.C_below h0 (chain (chain hB49 hB60) (below_of_drew hW_))) e0 (by omega)).mono ?_
        rintro e_ w_ ⟨rfl, hd_⟩
        exact ⟨_, rfl, rfl, hd_⟩
      rintro _ rfl
      refine t_is (.bool true) rfl rfl rfl rfl (fun W_ hW_ F_ => by simp [go_sem, sEv, sLook, nbeq, i64_w, -List.length_flatten]) ?_
      refine t_is (.bool true) rfl rfl rfl rfl (fun W_ hW_ F_ => rfl) ?_
      refine t_gis (c := true) (.slice A43 ys.length c45) rfl rfl rfl rfl rfl rfl rfl (fun W_ hW_ F_ => rfl) ?_
      refine t_gis (c := true) (.slice Y0 ys.length dy) rfl rfl rfl rfl rfl rfl rfl (fun W_ hW_ F_ => rfl) ?_
      refine t_gcall (c := true) (f := 17) (args := #[.slice A43 ys.length c45, .slice Y0 ys.length dy]) (Is (.bool true)) rfl rfl rfl rfl rfl rfl rfl (fun W_ => by simp [go_sem, sEv, sLook, nbeq, i64_w, -List.length_flatten]) (fun W_ hW_ F_ => ?_) ?_
      · refine (estuarynum_Ints.calls (ys.length + 1) _ _ ys _ _ ys _ W_ (Kd.C_below (own_front hN54) (chain hB60 (below_of_drew hW_))) (by omega) (Kd.C_below hy0 (chain (chain hB49 hB60) (below_of_drew hW_))) ey (ints_f ys (by omega))).mono ?_
        rintro e_ w_ ⟨rfl, hd_⟩
        exact ⟨_, rfl, rfl, hd_.below⟩
      rintro _ rfl
      refine t_is (.bool true) rfl rfl rfl rfl (fun W_ hW_ F_ => by simp [go_sem, sEv, sLook, nbeq, i64_w, -List.length_flatten]) ?_
      refine t_is (.bool true) rfl rfl rfl rfl (fun W_ hW_ F_ => rfl) ?_
      refine t_gis (c := true) (.slice A43 ys.length c45) rfl rfl rfl rfl rfl rfl rfl (fun W_ hW_ F_ => rfl) ?_
      refine t_gis (c := true) (.slice A43 ys.length c45) rfl rfl rfl rfl rfl rfl rfl (fun W_ hW_ F_ => rfl) ?_
      refine t_gis (c := true) (.int .i64 (ys.length : Int)) rfl rfl rfl rfl rfl rfl rfl (fun W_ hW_ F_ => by simp [go_sem, sEv, sLook, nbeq, i64_w, -List.length_flatten]) ?_
      refine t_gis (c := true) (.int .i64 ((ys.length + 1 : Nat) : Int)) rfl rfl rfl rfl rfl rfl rfl (fun W_ hW_ F_ => by simp [go_sem, sEv, sLook, nbeq, i64_w, -List.length_flatten]; exact wrap_id (by omega) (by omega)) ?_
      refine t_gis (c := true) (.slice A43 (ys.length + 1) c45) rfl rfl rfl rfl rfl rfl rfl (fun W_ hW_ F_ => (by have h_ := upto_run (P := Try.prog) (t := 23) (e := 3) (sz := 1) (by kernel_rfl) (fun _ => by kernel_rfl) (A := A43) (n := ys.length) (c := c45) (x := ((ys.length + 1 : Nat) : Int)) (by omega) (by omega) W_; rw [Int.toNat_natCast] at h_; exact run_as h_)) ?_
      refine t_gis (c := true) (.slice A43 ys.length c45) rfl rfl rfl rfl rfl rfl rfl (fun W_ hW_ F_ => rfl) ?_
      refine t_gis (c := true) (.int .i64 (ys.length : Int)) rfl rfl rfl rfl rfl rfl rfl (fun W_ hW_ F_ => by simp [go_sem, sEv, sLook, nbeq, i64_w, -List.length_flatten]) ?_
      refine t_gis (c := true) (.pointer (some (adn.add ys.length))) rfl rfl rfl rfl rfl rfl rfl (fun W_ hW_ F_ => by simp [go_sem, sEv, sLook, nbeq, i64_w, -List.length_flatten, Try.underlying23, hAn_]; try omega) ?_
      refine t_gis (c := true) (.int .i64 (-77)) rfl rfl rfl rfl rfl rfl rfl (fun W_ hW_ F_ => by have e_ := cellOn hcn_ (chain hB60 (below_of_drew hW_)); simp [go_sem, sEv, sLook, nbeq, i64_w, -List.length_flatten, e_]) ?_
      refine t_gis (c := true) (.bool true) rfl rfl rfl rfl rfl rfl rfl (fun W_ hW_ F_ => by simp [go_sem, sEv, sLook, nbeq, i64_w, -List.length_flatten]) ?_
      refine t_is (.bool true) rfl rfl rfl rfl (fun W_ hW_ F_ => by simp [go_sem, sEv, sLook, nbeq, i64_w, -List.length_flatten]) ?_
      refine t_is (.bool true) rfl rfl rfl rfl (fun W_ hW_ F_ => rfl) ?_
      refine t_gis (c := true) (.slice A55 n56 c57) rfl rfl rfl rfl rfl rfl rfl (fun W_ hW_ F_ => rfl) ?_
      refine t_gis (c := true) (.slice A12 l0.length c13) rfl rfl rfl rfl rfl rfl rfl (fun W_ hW_ F_ => rfl) ?_
      refine t_tail ?_
      intro w65 hb66_ F67
      have hb66 := below_of_drew hb66_
      have hs_w65 := hb66.size
      refine rw_on (c := true) rfl rfl rfl rfl ?_
      refine rw_new (cs := #[.slice A55 n56 c57, .slice A12 l0.length c13]) (t := 22) (fun g => .slice (some ⟨g, 0, none⟩) 2 2) rfl rfl rfl rfl (by kernel_rfl) ?_
      intro g68 w69 hg73 hz72 hb70 hk71
      have hs_w69 := hb70.size
      refine rw_on (c := true) rfl rfl rfl rfl ?_
      have hbn_ := hL61.len
      have hbl_ := PB_len ys hyr
      rw [List.length_append] at hbn_
      refine rw_call rfl rfl rfl rfl (f := 18) (args := #[.slice (some ⟨g68, 0, none⟩) 2 2]) (by simp [go_sem, sEv, sLook, nbeq, i64_w, -List.length_flatten]) (apart_two (chain (chain (chain hB49 hB60) hb66) hb70) hk71 (Own.lower (hL61.on (chain hb66 hb70)) (by omega)) (Own.on hoT_ (chain (chain hB60 hb66) hb70)) (fun q hq e => by have q1_ := ((hL61.on (chain hb66 hb70))).1 q hq; have q2_ := (Kd.R_bound hoT_).1 q e.symm |>.2.2.1; omega) (by omega) (by omega)) ?_
      rintro e_ w74 ⟨rfl, hB75⟩
      refine ⟨_, rfl, ?_⟩
      refine rw_val (v := .bool true) (w' := w74) rfl rfl rfl rfl (by simp [go_sem, sEv, sLook, nbeq, i64_w, -List.length_flatten]) ?_
      refine rw_val (v := .bool true) (w' := w74) rfl rfl rfl rfl rfl ?_
      refine rw_end ?_
      refine w_weaken (G' := [(4, .bool true)]) ⟨rfl, trivial⟩ ?_
      refine w_ret (post_ret1 rfl rfl ?_)
      exact ⟨rfl, hB75⟩
  · refine rw_off (c := lg [l0]) rfl rfl rfl (by first | (rw [cG]; rfl) | simp [cG]) rfl rfl ?_
    refine rw_off (c := lg [l0]) rfl rfl rfl (by first | (rw [cG]; rfl) | simp [cG]) rfl rfl ?_
    refine rw_off (c := lg [l0]) rfl rfl rfl (by first | (rw [cG]; rfl) | simp [cG]) rfl rfl ?_
    refine rw_val (v := .bool true) (w' := w10) rfl rfl rfl rfl (by first | (simp [go_sem, sEv, sLook, nbeq, i64_w, -List.length_flatten, cG]; done) | (simp [go_sem, sEv, sLook, nbeq, i64_w, -List.length_flatten] <;> omega) | (simp [go_sem, sEv, sLook, nbeq, i64_w, -List.length_flatten]; intro h_; exact absurd (by omega) h_) | (rw [cG]; simp [go_sem, sEv, sLook, nbeq, i64_w, -List.length_flatten]; done)) ?_
    refine rw_end ?_
    refine w_weaken (G' := [(0, .slice X0 l0.length d0), (1, .slice Y0 ys.length dy), (4, .bool false), (17, .bool true)]) ⟨rfl, rfl, rfl, rfl, trivial⟩ ?_
    refine w_cond_t rfl rfl rfl ?_
    refine w_seq ?_
    refine w_region ?_
    refine rw_val (v := .bool true) (w' := w10) rfl rfl rfl rfl rfl ?_
    refine rw_end ?_
    refine w_ret (post_ret1 rfl rfl ?_)
    exact ⟨rfl, (chain (chain hb2 hb5) hb11)⟩
end Go.Proofs.Ytjndoihnpnmbjaa.PFrameSums
