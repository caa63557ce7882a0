/- A crash behind a crash changes nothing: the walk. -/
import Derived.Test.YtpbpeklbmmbigaaTpSure
import Derived.Test.YtpbpeklbmmbigaaFlowJ
namespace Go.Proofs.Ytpbpeklbmmbigaa.Tp
open Go.RowKit Go.Proofs.YtpbpeklbmmbigaaW.PrintWords Go.Proofs.YtpbpeklbmmbigaaW.PrintLast Go.Proofs.YtpbpeklbmmbigaaW.PrintMore
open Go.Proofs.Ytpbpeklbmmbigaa.Flow
set_option linter.unusedVariables false
set_option linter.unusedSimpArgs false


theorem cut_pl (w0 w : World) (g m : Nat) (xs : List Int) (sure steps : Int) (hT : TapeAt w0 w g m (pl xs sure steps)) (h1 : 0 ≤ steps ∧ steps ≤ 1000000000) (h2 : 0 ≤ sure ∧ sure ≤ xs.length) (h3 : xs.length ≤ 1048576) (ys : List Int) (hy : xs.take sure.toNat = ys) :
    Calls Try.prog 17 #[.pointer (some ⟨g, 0, none⟩)] w fun e w' => e = .returned (.tuple #[]) ∧ TapeAt w0 w' g w'.heap.size (pl ys sure steps) ∧ w.heap.size ≤ w'.heap.size := by
  subst hy
  exact cut_T w0 w g m _ hT (pl_ok h1 h2 h3)
set_option maxHeartbeats 4000000 in
theorem walkAgain (w : World) (X0 X1 : Option Addr) (d0 d1 : Nat) (l0 l1 : List Int) (h0 : (Kd.int .u8).C w X0 l0.length l0) (h1 : (Kd.int .u8).C w X1 l1.length l1) (e0 : l0.length ≤ d0) (e1 : l1.length ≤ d1) (keep : Int) :
    Calls Try.prog 4 #[.slice X0 l0.length d0, .slice X1 l1.length d1, .int .i64 keep] w fun e w' => e = .returned (.bool true) ∧ Below w.heap.size w w' := by
  refine calls_flow Try.func4 rfl 74 rfl (Nat.le_of_ble_eq_true rfl) [(0, .slice X0 l0.length d0), (1, .slice X1 l1.length d1), (2, .int .i64 keep)] ?_ ?_
  · intro t v h; exact args_look rfl t v h
  refine w_seq ?_
  refine w_region ?_
  refine rw_val (v := .bool false) (w' := w) rfl rfl rfl rfl rfl ?_
  refine rw_end ?_
  refine w_seq ?_
  refine w_seq ?_
  refine w_region ?_
  refine rw_call rfl rfl rfl rfl (f := 10) (args := #[]) (by simp [go_sem, sEv, sLook, nbeq, i64_w]) (alive_calls w) ?_
  rintro e_ w1 ⟨rfl, hb2⟩
  refine ⟨_, rfl, ?_⟩
  have hs_w1 := hb2.size
  refine rw_val (v := .bool false) (w' := w1) rfl rfl rfl rfl (by simp [go_sem, sEv, sLook, nbeq, i64_w]) ?_
  refine rw_end ?_
  refine w_cond_f rfl rfl rfl ?_
  refine w_skip ?_
  refine w_seq ?_
  refine w_seq ?_
  refine w_region ?_
  refine rw_val (v := .slice X0 l0.length d0) (w' := w1) rfl rfl rfl rfl rfl ?_
  refine rw_val (v := .int .i64 (l0.length : Int)) (w' := w1) rfl rfl rfl rfl (by simp [go_sem, sEv, sLook, nbeq, i64_w]) ?_
  refine rw_val (v := .bool (decide (5000 < (l0.length : Int)))) (w' := w1) rfl rfl rfl rfl (by simp [go_sem, sEv, sLook, nbeq, i64_w]) ?_
  refine rw_val (v := .bool (decide (5000 < (l0.length : Int)))) (w' := w1) rfl rfl rfl rfl rfl ?_
  rcases bcase (decide (5000 < (l0.length : Int))) with cB0 | cB0
  · refine rw_on (c := decide (5000 < (l0.length : Int))) rfl rfl rfl (by first | (rw [cB0]; rfl) | simp [cB0]) ?_
    refine rw_val (v := .slice X1 l1.length d1) (w' := w1) rfl rfl rfl rfl rfl ?_
    refine rw_on (c := decide (5000 < (l0.length : Int))) rfl rfl rfl (by first | (rw [cB0]; rfl) | simp [cB0]) ?_
    refine rw_val (v := .int .i64 (l1.length : Int)) (w' := w1) rfl rfl rfl rfl (by simp [go_sem, sEv, sLook, nbeq, i64_w]) ?_
    refine rw_on (c := decide (5000 < (l0.length : Int))) rfl rfl rfl (by first | (rw [cB0]; rfl) | simp [cB0]) ?_
    refine rw_val (v := .bool (decide (5000 < (l1.length : Int)))) (w' := w1) rfl rfl rfl rfl (by simp [go_sem, sEv, sLook, nbeq, i64_w]) ?_
    refine rw_val (v := .bool (decide (5000 < (l1.length : Int)))) (w' := w1) rfl rfl rfl rfl (by first | (simp [go_sem, sEv, sLook, nbeq, i64_w, cB0]; done) | (simp [go_sem, sEv, sLook, nbeq, i64_w] <;> omega) | (simp [go_sem, sEv, sLook, nbeq, i64_w]; intro h_; exact absurd (by omega) h_) | (rw [cB0])) ?_
    refine rw_end ?_
    refine w_weaken (G' := [(0, .slice X0 l0.length d0), (1, .slice X1 l1.length d1), (2, .int .i64 keep), (6, .bool false), (18, .bool (decide (5000 < (l1.length : Int))))]) ⟨rfl, rfl, rfl, rfl, rfl, trivial⟩ ?_
    refine w_cond rfl rfl (fun cB1 => ?_) (fun cB1 => ?_)
    · refine w_seq ?_
      refine w_region ?_
      refine rw_val (v := .bool true) (w' := w1) rfl rfl rfl rfl rfl ?_
      refine rw_end ?_
      refine w_ret (post_ret1 rfl rfl ?_)
      exact ⟨rfl, hb2⟩
    · refine w_skip ?_
      refine w_seq ?_
      refine w_region ?_
      refine rw_call rfl rfl rfl rfl (f := 11) (args := #[]) (by simp [go_sem, sEv, sLook, nbeq, i64_w]) (new_T w1) ?_
      rintro e_ w4 ⟨g3, rfl, hT5_, hs6⟩
      refine ⟨_, rfl, ?_⟩
      have hT5 : TapeAt w w4 g3 w4.heap.size (pl [] 0 0) := new_on hb2 hT5_
      have hs_w4 := hT5.1.size
      refine rw_val (v := .pointer (some ⟨g3, 0, none⟩)) (w' := w4) rfl rfl rfl rfl rfl ?_
      refine rw_end ?_
      refine w_seq ?_
      refine w_seq ?_
      refine w_region ?_
      refine rw_val (v := .pointer (some ⟨g3, 0, none⟩)) (w' := w4) rfl rfl rfl rfl rfl ?_
      refine rw_val (v := .slice X0 l0.length d0) (w' := w4) rfl rfl rfl rfl rfl ?_
      refine rw_new (cs := #[.slice X0 l0.length d0]) (t := 27) (fun g => .slice (some ⟨g, 0, none⟩) 1 1) rfl rfl rfl rfl (by kernel_rfl) ?_
      intro g7 w8 hg12 hz11 hb9 hk10
      have hs_w8 := hb9.size
      have hgB_ := ((TapeAt.on hT5 hb9)).2.1
      refine rw_call rfl rfl rfl rfl (f := 12) (args := #[.pointer (some ⟨g3, 0, none⟩), .slice (some ⟨g7, 0, none⟩) 1 1]) (by simp [go_sem, sEv, sLook, nbeq, i64_w]) (append_pl w w8 g3 w4.heap.size [] 0 0 (TapeAt.on hT5 hb9) (by have hl0_ := of_decide_eq_false cB0; have hl1_ := of_decide_eq_false cB1; first | omega | (simp; done) | (simp; omega)) (by have hl0_ := of_decide_eq_false cB0; have hl1_ := of_decide_eq_false cB1; first | omega | (simp; done) | (simp; omega)) (by have hl0_ := of_decide_eq_false cB0; have hl1_ := of_decide_eq_false cB1; first | omega | (simp; done) | (simp; omega)) _ [l0] 1 (rowsK1 (hk10) (fun hq => by omega) e0 (Kd.C_kept_came (Kd.heap_int _) h0 (chain hT5.1 hb9) (fun k hk => by omega))) (by simp) (by have hl0_ := of_decide_eq_false cB0; have hl1_ := of_decide_eq_false cB1; first | omega | (simp; done) | (simp; omega)) (by have hl0_ := of_decide_eq_false cB0; have hl1_ := of_decide_eq_false cB1; first | omega | (simp; done) | (simp; omega))) ?_
      rintro e_ w13 ⟨rfl, hT14, hs15⟩
      refine ⟨_, rfl, ?_⟩
      have hs_w13 := hT14.1.size
      have hT14_ : TapeAt w w13 g3 w13.heap.size (pl l0 0 1) := by have h_ := hT14; simpa using h_
      refine rw_val (v := .bool ((none : Option Int).isSome)) (w' := w13) rfl rfl rfl rfl (run_as (guard_err_neq _ (none : Option Int) _)) ?_
      refine rw_val (v := .bool ((none : Option Int).isSome)) (w' := w13) rfl rfl rfl rfl rfl ?_
      have hq16 : ((none : Option Int).isSome) = false := by rfl
      refine rw_on (c := (none : Option Int).isSome) rfl rfl rfl (by first | (rw [hq16]; rfl) | simp [hq16]) ?_
      refine rw_val (v := .pointer (some ⟨g3, 0, none⟩)) (w' := w13) rfl rfl rfl rfl rfl ?_
      refine rw_on (c := (none : Option Int).isSome) rfl rfl rfl (by first | (rw [hq16]; rfl) | simp [hq16]) ?_
      refine rw_call rfl rfl rfl rfl (f := 13) (args := #[.pointer (some ⟨g3, 0, none⟩)]) (by simp [go_sem, sEv, sLook, nbeq, i64_w]) (sync_pl w w13 g3 w13.heap.size l0 0 1 hT14_ (by have hl0_ := of_decide_eq_false cB0; have hl1_ := of_decide_eq_false cB1; first | omega | (simp; done) | (simp; omega)) (by have hl0_ := of_decide_eq_false cB0; have hl1_ := of_decide_eq_false cB1; first | omega | (simp; done) | (simp; omega)) (by have hl0_ := of_decide_eq_false cB0; have hl1_ := of_decide_eq_false cB1; first | omega | (simp; done) | (simp; omega))) ?_
      rintro e_ w17 ⟨rfl, hT18, hs19⟩
      refine ⟨_, rfl, ?_⟩
      have hs_w17 := hT18.1.size
      have hT18_ : TapeAt w w17 g3 w17.heap.size (pl l0 ((l0).length : Int) 2) := by have h_ := hT18; simpa using h_
      refine rw_on (c := (none : Option Int).isSome) rfl rfl rfl (by first | (rw [hq16]; rfl) | simp [hq16]) ?_
      refine rw_val (v := .bool ((none : Option Int).isSome)) (w' := w17) rfl rfl rfl rfl (run_as (guard_err_neq _ (none : Option Int) _)) ?_
      refine rw_val (v := .bool ((none : Option Int).isSome)) (w' := w17) rfl rfl rfl rfl (by first | (simp [go_sem, sEv, sLook, nbeq, i64_w, hq16]; done) | (simp [go_sem, sEv, sLook, nbeq, i64_w] <;> omega) | (simp [go_sem, sEv, sLook, nbeq, i64_w]; intro h_; exact absurd (by omega) h_) | (rw [hq16])) ?_
      refine rw_val (v := .bool ((none : Option Int).isSome)) (w' := w17) rfl rfl rfl rfl rfl ?_
      refine rw_on (c := (none : Option Int).isSome) rfl rfl rfl (by first | (rw [hq16]; rfl) | simp [hq16]) ?_
      refine rw_val (v := .pointer (some ⟨g3, 0, none⟩)) (w' := w17) rfl rfl rfl rfl rfl ?_
      refine rw_on (c := (none : Option Int).isSome) rfl rfl rfl (by first | (rw [hq16]; rfl) | simp [hq16]) ?_
      refine rw_val (v := .slice X1 l1.length d1) (w' := w17) rfl rfl rfl rfl rfl ?_
      refine rw_on (c := (none : Option Int).isSome) rfl rfl rfl (by first | (rw [hq16]; rfl) | simp [hq16]) ?_
      refine rw_new (cs := #[.slice X1 l1.length d1]) (t := 27) (fun g => .slice (some ⟨g, 0, none⟩) 1 1) rfl rfl rfl rfl (by kernel_rfl) ?_
      intro g20 w21 hg25 hz24 hb22 hk23
      have hs_w21 := hb22.size
      refine rw_on (c := (none : Option Int).isSome) rfl rfl rfl (by first | (rw [hq16]; rfl) | simp [hq16]) ?_
      have hgB_ := ((TapeAt.on hT18_ hb22)).2.1
      refine rw_call rfl rfl rfl rfl (f := 12) (args := #[.pointer (some ⟨g3, 0, none⟩), .slice (some ⟨g20, 0, none⟩) 1 1]) (by simp [go_sem, sEv, sLook, nbeq, i64_w]) (append_pl w w21 g3 w17.heap.size l0 ((l0).length : Int) 2 (TapeAt.on hT18_ hb22) (by have hl0_ := of_decide_eq_false cB0; have hl1_ := of_decide_eq_false cB1; first | omega | (simp; done) | (simp; omega)) (by have hl0_ := of_decide_eq_false cB0; have hl1_ := of_decide_eq_false cB1; first | omega | (simp; done) | (simp; omega)) (by have hl0_ := of_decide_eq_false cB0; have hl1_ := of_decide_eq_false cB1; first | omega | (simp; done) | (simp; omega)) _ [l1] 1 (rowsK1 (hk23) (fun hq => by omega) e1 (Kd.C_kept_came (Kd.heap_int _) h1 (chain hT18_.1 hb22) (fun k hk => by omega))) (by simp) (by have hl0_ := of_decide_eq_false cB0; have hl1_ := of_decide_eq_false cB1; first | omega | (simp; done) | (simp; omega)) (by have hl0_ := of_decide_eq_false cB0; have hl1_ := of_decide_eq_false cB1; first | omega | (simp; done) | (simp; omega))) ?_
      rintro e_ w26 ⟨rfl, hT27, hs28⟩
      refine ⟨_, rfl, ?_⟩
      have hs_w26 := hT27.1.size
      have hT27_ : TapeAt w w26 g3 w26.heap.size (pl (l0 ++ l1) ((l0).length : Int) 3) := by have h_ := hT27; simpa using h_
      refine rw_on (c := (none : Option Int).isSome) rfl rfl rfl (by first | (rw [hq16]; rfl) | simp [hq16]) ?_
      refine rw_val (v := .bool ((none : Option Int).isSome)) (w' := w26) rfl rfl rfl rfl (run_as (guard_err_neq _ (none : Option Int) _)) ?_
      refine rw_val (v := .bool ((none : Option Int).isSome)) (w' := w26) rfl rfl rfl rfl (by first | (simp [go_sem, sEv, sLook, nbeq, i64_w, hq16]; done) | (simp [go_sem, sEv, sLook, nbeq, i64_w] <;> omega) | (simp [go_sem, sEv, sLook, nbeq, i64_w]; intro h_; exact absurd (by omega) h_) | (rw [hq16])) ?_
      refine rw_end ?_
      refine w_weaken (G' := [(0, .slice X0 l0.length d0), (1, .slice X1 l1.length d1), (2, .int .i64 keep), (6, .bool false), (7, .pointer (some ⟨g3, 0, none⟩)), (36, .bool ((none : Option Int).isSome))]) ⟨rfl, rfl, rfl, rfl, rfl, rfl, trivial⟩ ?_
      refine w_cond_f rfl rfl hq16 ?_
      refine w_skip ?_
      refine w_seq ?_
      refine w_region ?_
      refine rw_val (v := .pointer (some ⟨g3, 0, none⟩)) (w' := w26) rfl rfl rfl rfl rfl ?_
      refine rw_call rfl rfl rfl rfl (f := 17) (args := #[.pointer (some ⟨g3, 0, none⟩)]) (by simp [go_sem, sEv, sLook, nbeq, i64_w]) (cut_pl w w26 g3 w26.heap.size (l0 ++ l1) ((l0).length : Int) 3 hT27_ (by have hl0_ := of_decide_eq_false cB0; have hl1_ := of_decide_eq_false cB1; first | omega | (simp; done) | (simp; omega)) (by have hl0_ := of_decide_eq_false cB0; have hl1_ := of_decide_eq_false cB1; first | omega | (simp; done) | (simp; omega)) (by have hl0_ := of_decide_eq_false cB0; have hl1_ := of_decide_eq_false cB1; first | omega | (simp; done) | (simp; omega)) l0 (by simp)) ?_
      rintro e_ w29 ⟨rfl, hT30, hs31⟩
      refine ⟨.tuple #[], rfl, ?_⟩
      have hs_w29 := hT30.1.size
      refine rw_end ?_
      refine w_seq ?_
      refine w_seq ?_
      refine w_drawk (M := [0, 1, 3, 0, 8, 31, 63, 127, 127, 383, 1023, 2047, 4095]) (ss := [Is (.pointer (some ⟨g3, 0, none⟩)), OwnSpec w.heap.size w29.heap.size l0, Is (.string (strOfNums l0)), Is (.slice X0 l0.length d0), Is (.string (strOfNums l0)), Is (.bool false), Is (.bool false), Is (.pointer (some ⟨g3, 0, none⟩)), Is (.slice X1 l1.length d1), SlcSpec w29.heap.size 27 #[.slice X1 l1.length d1] 1]) 10 rfl (by decide +kernel) ?_
      refine t_is (.pointer (some ⟨g3, 0, none⟩)) rfl rfl rfl rfl (fun W_ hW_ F_ => rfl) ?_
      refine t_call (f := 15) (args := #[.pointer (some ⟨g3, 0, none⟩)]) (OwnSpec w.heap.size w29.heap.size l0) rfl rfl rfl rfl (fun W_ => by simp [go_sem, sEv, sLook, nbeq, i64_w]) (fun W_ hW_ F_ => ?_) ?_
      · have hs_ := (below_of_drew hW_).size
        have h_ := read_pl w W_ g3 w29.heap.size l0 ((l0).length : Int) 3 (TapeAt.on hT30 (below_of_drew hW_)) (by have hl0_ := of_decide_eq_false cB0; have hl1_ := of_decide_eq_false cB1; first | omega | (simp; done) | (simp; omega)) (by have hl0_ := of_decide_eq_false cB0; have hl1_ := of_decide_eq_false cB1; first | omega | (simp; done) | (simp; omega)) (by have hl0_ := of_decide_eq_false cB0; have hl1_ := of_decide_eq_false cB1; first | omega | (simp; done) | (simp; omega))
        refine h_.mono ?_
        rintro e_ w_ ⟨A_, n_, c_, rfl, hO_, hb_⟩
        exact ⟨_, rfl, ⟨A_, n_, c_, rfl, hO_.lower (by omega) |>.mono hs_⟩, hb_⟩
      rintro _ ⟨A32, n33, c34, rfl⟩
      refine t_is (.string (strOfNums l0)) rfl rfl rfl rfl (fun W_ hW_ F_ => by have hO_ := ownspec_fact (F_ 1 _ _ rfl rfl); exact run_as (run_str_of (P := Try.prog) (e := 5) (by kernel_rfl) (by kernel_rfl) (by kernel_rfl) (show (Kd.int .u8).C W_ A32 n33 l0 by rw [hO_.len]; exact hO_.C))) ?_
      refine t_is (.slice X0 l0.length d0) rfl rfl rfl rfl (fun W_ hW_ F_ => rfl) ?_
      refine t_is (.string (strOfNums l0)) rfl rfl rfl rfl (fun W_ hW_ F_ => run_as (run_str_of (P := Try.prog) (e := 5) (by kernel_rfl) (by kernel_rfl) (by kernel_rfl) (Kd.C_below h0 (chain hT30.1 (below_of_drew hW_))))) ?_
      refine t_is (.bool false) rfl rfl rfl rfl (fun W_ hW_ F_ => (run_bool (run_as (run_str_neq 9 _ _ _)) (by simp))) ?_
      refine t_is (.bool false) rfl rfl rfl rfl (fun W_ hW_ F_ => rfl) ?_
      refine t_gis (c := false) (.pointer (some ⟨g3, 0, none⟩)) rfl rfl rfl rfl rfl rfl rfl (fun W_ hW_ F_ => rfl) ?_
      refine t_gis (c := false) (.slice X1 l1.length d1) rfl rfl rfl rfl rfl rfl rfl (fun W_ hW_ F_ => rfl) ?_
      refine t_gval (c := false) (SlcSpec w29.heap.size 27 #[.slice X1 l1.length d1] 1) rfl rfl rfl rfl rfl rfl rfl (fun W_ hW_ F_ => slc_gives _ _ _ _ (below_of_drew hW_).size (by kernel_rfl)) ?_
      rintro _ ⟨g35, rfl⟩
      refine t_tail ?_
      intro w38 hb39_ F40
      have hb39 := below_of_drew hb39_
      have hs_w38 := hb39.size
      obtain ⟨hge37, hk36⟩ := slc_fact (F40 9 _ _ rfl)
      have hlt_g35 := hk36.lt
      refine rw_on (c := false) rfl rfl rfl rfl ?_
      have hgB_ := ((TapeAt.on hT30 hb39)).2.1
      refine rw_call rfl rfl rfl rfl (f := 12) (args := #[.pointer (some ⟨g3, 0, none⟩), .slice (some ⟨g35, 0, none⟩) 1 1]) (by simp [go_sem, sEv, sLook, nbeq, i64_w]) (append_pl w w38 g3 w29.heap.size l0 ((l0).length : Int) 3 (TapeAt.on hT30 hb39) (by have hl0_ := of_decide_eq_false cB0; have hl1_ := of_decide_eq_false cB1; first | omega | (simp; done) | (simp; omega)) (by have hl0_ := of_decide_eq_false cB0; have hl1_ := of_decide_eq_false cB1; first | omega | (simp; done) | (simp; omega)) (by have hl0_ := of_decide_eq_false cB0; have hl1_ := of_decide_eq_false cB1; first | omega | (simp; done) | (simp; omega)) _ [l1] 1 (rowsK1 (hk36) (fun hq => by omega) e1 (Kd.C_kept_came (Kd.heap_int _) h1 (chain hT30.1 hb39) (fun k hk => by omega))) (by simp) (by have hl0_ := of_decide_eq_false cB0; have hl1_ := of_decide_eq_false cB1; first | omega | (simp; done) | (simp; omega)) (by have hl0_ := of_decide_eq_false cB0; have hl1_ := of_decide_eq_false cB1; first | omega | (simp; done) | (simp; omega))) ?_
      rintro e_ w41 ⟨rfl, hT42, hs43⟩
      refine ⟨_, rfl, ?_⟩
      have hs_w41 := hT42.1.size
      have hT42_ : TapeAt w w41 g3 w41.heap.size (pl (l0 ++ l1) ((l0).length : Int) 4) := by have h_ := hT42; simpa using h_
      refine rw_on (c := false) rfl rfl rfl rfl ?_
      refine rw_val (v := .bool ((none : Option Int).isSome)) (w' := w41) rfl rfl rfl rfl (run_as (guard_err_neq _ (none : Option Int) _)) ?_
      refine rw_val (v := .bool ((none : Option Int).isSome)) (w' := w41) rfl rfl rfl rfl (by simp [go_sem, sEv, sLook, nbeq, i64_w]) ?_
      refine rw_end ?_
      refine w_weaken (G' := [(2, .int .i64 keep), (6, .bool false), (7, .pointer (some ⟨g3, 0, none⟩)), (51, .bool ((none : Option Int).isSome))]) ⟨rfl, rfl, rfl, rfl, trivial⟩ ?_
      refine w_cond_f rfl rfl hq16 ?_
      refine w_skip ?_
      refine w_seq ?_
      refine w_region ?_
      refine rw_val (v := .pointer (some ⟨g3, 0, none⟩)) (w' := w41) rfl rfl rfl rfl rfl ?_
      refine rw_val (v := .int .i64 keep) (w' := w41) rfl rfl rfl rfl rfl ?_
      refine rw_call rfl rfl rfl rfl (f := 14) (args := #[.pointer (some ⟨g3, 0, none⟩), .int .i64 keep]) (by simp [go_sem, sEv, sLook, nbeq, i64_w]) (crash_pl w w41 g3 w41.heap.size (l0 ++ l1) ((l0).length : Int) 4 hT42_ (by have hl0_ := of_decide_eq_false cB0; have hl1_ := of_decide_eq_false cB1; first | omega | (simp; done) | (simp; omega)) (by have hl0_ := of_decide_eq_false cB0; have hl1_ := of_decide_eq_false cB1; first | omega | (simp; done) | (simp; omega)) (by have hl0_ := of_decide_eq_false cB0; have hl1_ := of_decide_eq_false cB1; first | omega | (simp; done) | (simp; omega)) keep ((l0 ++ l1).take ((l0.length : Int) + min (max keep 0) (((l0 ++ l1).length : Int) - (l0.length : Int))).toNat) rfl) ?_
      rintro e_ w44 ⟨rfl, hT45, hs46⟩
      refine ⟨.tuple #[], rfl, ?_⟩
      have hs_w44 := hT45.1.size
      have hl0_ := of_decide_eq_false cB0
      have hl1_ := of_decide_eq_false cB1
      have hla_ : (l0 ++ l1).length = l0.length + l1.length := List.length_append
      have hY_ : ((l0 ++ l1).take ((l0.length : Int) + min (max keep 0) (((l0 ++ l1).length : Int) - (l0.length : Int))).toNat).length = ((l0.length : Int) + min (max keep 0) (((l0 ++ l1).length : Int) - (l0.length : Int))).toNat := by rw [List.length_take]; omega
      refine rw_end ?_
      refine w_seq ?_
      refine w_region ?_
      refine rw_val (v := .pointer (some ⟨g3, 0, none⟩)) (w' := w44) rfl rfl rfl rfl rfl ?_
      refine rw_call rfl rfl rfl rfl (f := 15) (args := #[.pointer (some ⟨g3, 0, none⟩)]) (by simp [go_sem, sEv, sLook, nbeq, i64_w]) (read_pl w w44 g3 w44.heap.size ((l0 ++ l1).take ((l0.length : Int) + min (max keep 0) (((l0 ++ l1).length : Int) - (l0.length : Int))).toNat) (((l0 ++ l1).take ((l0.length : Int) + min (max keep 0) (((l0 ++ l1).length : Int) - (l0.length : Int))).toNat).length : Int) 4 hT45 (by have hl0_ := of_decide_eq_false cB0; have hl1_ := of_decide_eq_false cB1; first | omega | (simp; done) | (simp; omega)) (by have hl0_ := of_decide_eq_false cB0; have hl1_ := of_decide_eq_false cB1; first | omega | (simp; done) | (simp; omega)) (by have hl0_ := of_decide_eq_false cB0; have hl1_ := of_decide_eq_false cB1; first | omega | (simp; done) | (simp; omega))) ?_
      rintro e_ w50 ⟨A47, n48, c49, rfl, hO51, hB52⟩
      refine ⟨_, rfl, ?_⟩
      have hs_w50 := hB52.size
      have hL53 : Own .u8 5 w50 w.heap.size w44.heap.size A47 n48 c49 ((l0 ++ l1).take ((l0.length : Int) + min (max keep 0) (((l0 ++ l1).length : Int) - (l0.length : Int))).toNat) := Own.lower hO51 (by omega)
      refine rw_val (v := .string (strOfNums ((l0 ++ l1).take ((l0.length : Int) + min (max keep 0) (((l0 ++ l1).length : Int) - (l0.length : Int))).toNat))) (w' := w50) rfl rfl rfl rfl (run_as (run_str_of (P := Try.prog) (e := 5) (by kernel_rfl) (by kernel_rfl) (by kernel_rfl) (show (Kd.int .u8).C _ _ n48 ((l0 ++ l1).take ((l0.length : Int) + min (max keep 0) (((l0 ++ l1).length : Int) - (l0.length : Int))).toNat) by rw [hL53.len]; exact (Own.C (hL53.on (Below.refl _ _)))))) ?_
      refine rw_val (v := .string (strOfNums ((l0 ++ l1).take ((l0.length : Int) + min (max keep 0) (((l0 ++ l1).length : Int) - (l0.length : Int))).toNat))) (w' := w50) rfl rfl rfl rfl rfl ?_
      refine rw_end ?_
      refine w_weaken (G' := [(6, .bool false), (7, .pointer (some ⟨g3, 0, none⟩)), (8, .string (strOfNums ((l0 ++ l1).take ((l0.length : Int) + min (max keep 0) (((l0 ++ l1).length : Int) - (l0.length : Int))).toNat)))]) ⟨rfl, rfl, rfl, trivial⟩ ?_
      refine w_seq ?_
      refine w_region ?_
      refine rw_val (v := .pointer (some ⟨g3, 0, none⟩)) (w' := w50) rfl rfl rfl rfl rfl ?_
      refine rw_call rfl rfl rfl rfl (f := 17) (args := #[.pointer (some ⟨g3, 0, none⟩)]) (by simp [go_sem, sEv, sLook, nbeq, i64_w]) (cut_pl w w50 g3 w44.heap.size ((l0 ++ l1).take ((l0.length : Int) + min (max keep 0) (((l0 ++ l1).length : Int) - (l0.length : Int))).toNat) (((l0 ++ l1).take ((l0.length : Int) + min (max keep 0) (((l0 ++ l1).length : Int) - (l0.length : Int))).toNat).length : Int) 4 (TapeAt.on hT45 hB52) (by have hl0_ := of_decide_eq_false cB0; have hl1_ := of_decide_eq_false cB1; first | omega | (simp; done) | (simp; omega)) (by have hl0_ := of_decide_eq_false cB0; have hl1_ := of_decide_eq_false cB1; first | omega | (simp; done) | (simp; omega)) (by have hl0_ := of_decide_eq_false cB0; have hl1_ := of_decide_eq_false cB1; first | omega | (simp; done) | (simp; omega)) ((l0 ++ l1).take ((l0.length : Int) + min (max keep 0) (((l0 ++ l1).length : Int) - (l0.length : Int))).toNat) (by rw [Int.toNat_natCast]; exact List.take_length)) ?_
      rintro e_ w54 ⟨rfl, hT55, hs56⟩
      refine ⟨.tuple #[], rfl, ?_⟩
      have hs_w54 := hT55.1.size
      refine rw_end ?_
      refine w_seq ?_
      refine w_region ?_
      refine rw_val (v := .pointer (some ⟨g3, 0, none⟩)) (w' := w54) rfl rfl rfl rfl rfl ?_
      refine rw_call rfl rfl rfl rfl (f := 14) (args := #[.pointer (some ⟨g3, 0, none⟩), .int .i64 1073741824]) (by simp [go_sem, sEv, sLook, nbeq, i64_w]) (crash_pl w w54 g3 w54.heap.size ((l0 ++ l1).take ((l0.length : Int) + min (max keep 0) (((l0 ++ l1).length : Int) - (l0.length : Int))).toNat) (((l0 ++ l1).take ((l0.length : Int) + min (max keep 0) (((l0 ++ l1).length : Int) - (l0.length : Int))).toNat).length : Int) 4 hT55 (by have hl0_ := of_decide_eq_false cB0; have hl1_ := of_decide_eq_false cB1; first | omega | (simp; done) | (simp; omega)) (by have hl0_ := of_decide_eq_false cB0; have hl1_ := of_decide_eq_false cB1; first | omega | (simp; done) | (simp; omega)) (by have hl0_ := of_decide_eq_false cB0; have hl1_ := of_decide_eq_false cB1; first | omega | (simp; done) | (simp; omega)) 1073741824 ((l0 ++ l1).take ((l0.length : Int) + min (max keep 0) (((l0 ++ l1).length : Int) - (l0.length : Int))).toNat) (by rw [show ((((l0 ++ l1).take ((l0.length : Int) + min (max keep 0) (((l0 ++ l1).length : Int) - (l0.length : Int))).toNat).length : Int) + min (max 1073741824 0) ((((l0 ++ l1).take ((l0.length : Int) + min (max keep 0) (((l0 ++ l1).length : Int) - (l0.length : Int))).toNat).length : Int) - (((l0 ++ l1).take ((l0.length : Int) + min (max keep 0) (((l0 ++ l1).length : Int) - (l0.length : Int))).toNat).length : Int))).toNat = ((l0 ++ l1).take ((l0.length : Int) + min (max keep 0) (((l0 ++ l1).length : Int) - (l0.length : Int))).toNat).length by omega]; exact List.take_length)) ?_
      rintro e_ w57 ⟨rfl, hT58, hs59⟩
      refine ⟨.tuple #[], rfl, ?_⟩
      have hs_w57 := hT58.1.size
      have hl0_ := of_decide_eq_false cB0
      have hl1_ := of_decide_eq_false cB1
      have hla_ : (l0 ++ l1).length = l0.length + l1.length := List.length_append
      have hY_ : ((l0 ++ l1).take ((l0.length : Int) + min (max keep 0) (((l0 ++ l1).length : Int) - (l0.length : Int))).toNat).length = ((l0.length : Int) + min (max keep 0) (((l0 ++ l1).length : Int) - (l0.length : Int))).toNat := by rw [List.length_take]; omega
      refine rw_end ?_
      refine w_seq ?_
      refine w_region ?_
      refine rw_val (v := .pointer (some ⟨g3, 0, none⟩)) (w' := w57) rfl rfl rfl rfl rfl ?_
      refine rw_call rfl rfl rfl rfl (f := 15) (args := #[.pointer (some ⟨g3, 0, none⟩)]) (by simp [go_sem, sEv, sLook, nbeq, i64_w]) (read_pl w w57 g3 w57.heap.size ((l0 ++ l1).take ((l0.length : Int) + min (max keep 0) (((l0 ++ l1).length : Int) - (l0.length : Int))).toNat) (((l0 ++ l1).take ((l0.length : Int) + min (max keep 0) (((l0 ++ l1).length : Int) - (l0.length : Int))).toNat).length : Int) 4 hT58 (by have hl0_ := of_decide_eq_false cB0; have hl1_ := of_decide_eq_false cB1; first | omega | (simp; done) | (simp; omega)) (by have hl0_ := of_decide_eq_false cB0; have hl1_ := of_decide_eq_false cB1; first | omega | (simp; done) | (simp; omega)) (by have hl0_ := of_decide_eq_false cB0; have hl1_ := of_decide_eq_false cB1; first | omega | (simp; done) | (simp; omega))) ?_
      rintro e_ w63 ⟨A60, n61, c62, rfl, hO64, hB65⟩
      refine ⟨_, rfl, ?_⟩
      have hs_w63 := hB65.size
      have hL66 : Own .u8 5 w63 w.heap.size w57.heap.size A60 n61 c62 ((l0 ++ l1).take ((l0.length : Int) + min (max keep 0) (((l0 ++ l1).length : Int) - (l0.length : Int))).toNat) := Own.lower hO64 (by omega)
      refine rw_val (v := .string (strOfNums ((l0 ++ l1).take ((l0.length : Int) + min (max keep 0) (((l0 ++ l1).length : Int) - (l0.length : Int))).toNat))) (w' := w63) rfl rfl rfl rfl (run_as (run_str_of (P := Try.prog) (e := 5) (by kernel_rfl) (by kernel_rfl) (by kernel_rfl) (show (Kd.int .u8).C _ _ n61 ((l0 ++ l1).take ((l0.length : Int) + min (max keep 0) (((l0 ++ l1).length : Int) - (l0.length : Int))).toNat) by rw [hL66.len]; exact (Own.C (hL66.on (Below.refl _ _)))))) ?_
      refine rw_val (v := .string (strOfNums ((l0 ++ l1).take ((l0.length : Int) + min (max keep 0) (((l0 ++ l1).length : Int) - (l0.length : Int))).toNat))) (w' := w63) rfl rfl rfl rfl rfl ?_
      refine rw_val (v := .bool true) (w' := w63) rfl rfl rfl rfl (run_bool (run_as (run_str_eql 9 _ _ _)) (by simp)) ?_
      refine rw_val (v := .bool true) (w' := w63) rfl rfl rfl rfl rfl ?_
      refine rw_on (c := true) rfl rfl rfl rfl ?_
      refine rw_val (v := .pointer (some ⟨g3, 0, none⟩)) (w' := w63) rfl rfl rfl rfl rfl ?_
      refine rw_on (c := true) rfl rfl rfl rfl ?_
      refine rw_call rfl rfl rfl rfl (f := 16) (args := #[.pointer (some ⟨g3, 0, none⟩)]) (by simp [go_sem, sEv, sLook, nbeq, i64_w]) (sure_pl w w63 g3 w57.heap.size ((l0 ++ l1).take ((l0.length : Int) + min (max keep 0) (((l0 ++ l1).length : Int) - (l0.length : Int))).toNat) (((l0 ++ l1).take ((l0.length : Int) + min (max keep 0) (((l0 ++ l1).length : Int) - (l0.length : Int))).toNat).length : Int) 4 (TapeAt.on hT58 hB65) (by have hl0_ := of_decide_eq_false cB0; have hl1_ := of_decide_eq_false cB1; first | omega | (simp; done) | (simp; omega)) (by have hl0_ := of_decide_eq_false cB0; have hl1_ := of_decide_eq_false cB1; first | omega | (simp; done) | (simp; omega)) (by have hl0_ := of_decide_eq_false cB0; have hl1_ := of_decide_eq_false cB1; first | omega | (simp; done) | (simp; omega))) ?_
      rintro e_ w67 ⟨rfl, rfl⟩
      refine ⟨_, rfl, ?_⟩
      refine rw_on (c := true) rfl rfl rfl rfl ?_
      refine rw_val (v := .string (strOfNums ((l0 ++ l1).take ((l0.length : Int) + min (max keep 0) (((l0 ++ l1).length : Int) - (l0.length : Int))).toNat))) (w' := w63) rfl rfl rfl rfl rfl ?_
      refine rw_on (c := true) rfl rfl rfl rfl ?_
      refine rw_val (v := .int .i64 (((l0 ++ l1).take ((l0.length : Int) + min (max keep 0) (((l0 ++ l1).length : Int) - (l0.length : Int))).toNat).length : Int)) (w' := w63) rfl rfl rfl rfl (by simp [go_sem, sEv, sLook, nbeq, i64_w, strOfNums_size]) ?_
      refine rw_on (c := true) rfl rfl rfl rfl ?_
      refine rw_val (v := .bool true) (w' := w63) rfl rfl rfl rfl (by simp [go_sem, sEv, sLook, nbeq, i64_w]) ?_
      refine rw_val (v := .bool true) (w' := w63) rfl rfl rfl rfl (by simp [go_sem, sEv, sLook, nbeq, i64_w]) ?_
      refine rw_val (v := .bool true) (w' := w63) rfl rfl rfl rfl rfl ?_
      refine rw_end ?_
      refine w_weaken (G' := [(6, .bool true)]) ⟨rfl, trivial⟩ ?_
      refine w_ret (post_ret1 rfl rfl ?_)
      exact ⟨rfl, (chain hT58.1 hB65)⟩
  · refine rw_off (c := decide (5000 < (l0.length : Int))) rfl rfl rfl (by first | (rw [cB0]; rfl) | simp [cB0]) rfl rfl ?_
    refine rw_off (c := decide (5000 < (l0.length : Int))) rfl rfl rfl (by first | (rw [cB0]; rfl) | simp [cB0]) rfl rfl ?_
    refine rw_off (c := decide (5000 < (l0.length : Int))) rfl rfl rfl (by first | (rw [cB0]; rfl) | simp [cB0]) rfl rfl ?_
    refine rw_val (v := .bool true) (w' := w1) rfl rfl rfl rfl (by first | (simp [go_sem, sEv, sLook, nbeq, i64_w, cB0]; done) | (simp [go_sem, sEv, sLook, nbeq, i64_w] <;> omega) | (simp [go_sem, sEv, sLook, nbeq, i64_w]; intro h_; exact absurd (by omega) h_) | (rw [cB0])) ?_
    refine rw_end ?_
    refine w_weaken (G' := [(0, .slice X0 l0.length d0), (1, .slice X1 l1.length d1), (2, .int .i64 keep), (6, .bool false), (18, .bool true)]) ⟨rfl, rfl, rfl, rfl, rfl, trivial⟩ ?_
    refine w_cond_t rfl rfl rfl ?_
    refine w_seq ?_
    refine w_region ?_
    refine rw_val (v := .bool true) (w' := w1) rfl rfl rfl rfl rfl ?_
    refine rw_end ?_
    refine w_ret (post_ret1 rfl rfl ?_)
    exact ⟨rfl, hb2⟩
end Go.Proofs.Ytpbpeklbmmbigaa.Tp
