/- A Replace is whole or nothing, and sure: the walks. -/
import Derived.Test.YtpbpeklbmmbigaaTpReplaces
namespace Go.Proofs.Ytpbpeklbmmbigaa.Tp
open Go.RowKit Go.Proofs.YtpbpeklbmmbigaaW.PrintWords Go.Proofs.YtpbpeklbmmbigaaW.PrintLast Go.Proofs.YtpbpeklbmmbigaaW.PrintMore
open Go.Proofs.Ytpbpeklbmmbigaa.Flow
set_option linter.unusedVariables false
set_option linter.unusedSimpArgs false

set_option maxHeartbeats 4000000 in
theorem replaces_calls (w : World) (X0 X1 : Option Addr) (d0 d1 : Nat) (l0 l1 : List Int) (h0 : (Kd.int .u8).C w X0 l0.length l0) (h1 : (Kd.int .u8).C w X1 l1.length l1) (e0 : l0.length ≤ d0) (e1 : l1.length ≤ d1) (arm fail : Int) (bA : -9223372036854775808 ≤ arm ∧ arm ≤ 9223372036854775807) (bF : -9223372036854775808 ≤ fail ∧ fail ≤ 9223372036854775807) :
    Calls Try.prog 24 #[.slice X0 l0.length d0, .slice X1 l1.length d1, .int .i64 arm, .int .i64 fail] w fun e w' => e = .returned (.bool true) ∧ Below w.heap.size w w' := by
  refine calls_flow Try.func24 rfl 99 rfl (Nat.le_of_ble_eq_true rfl) [(0, .slice X0 l0.length d0), (1, .slice X1 l1.length d1), (2, .int .i64 arm), (3, .int .i64 fail)] ?_ ?_
  · intro t v h; exact args_look rfl t v h
  refine w_seq ?_
  refine w_region ?_
  refine rw_val (v := .bool false) (w' := w) rfl rfl rfl rfl rfl ?_
  refine rw_end ?_
  refine w_seq ?_
  refine w_seq ?_
  refine w_region ?_
  refine rw_call rfl rfl rfl rfl (f := 10) (args := #[]) (by simp [go_sem, sEv, sLook, nbeq, i64_w]) (alive_calls w) ?_
  rintro e_ w1 ⟨rfl, hb2⟩
  refine ⟨_, rfl, ?_⟩
  have hs_w1 := hb2.size
  refine rw_val (v := .bool false) (w' := w1) rfl rfl rfl rfl (by simp [go_sem, sEv, sLook, nbeq, i64_w]) ?_
  refine rw_end ?_
  refine w_cond_f rfl rfl rfl ?_
  refine w_skip ?_
  refine w_seq ?_
  refine w_seq ?_
  refine w_region ?_
  refine rw_val (v := .slice X0 l0.length d0) (w' := w1) rfl rfl rfl rfl rfl ?_
  refine rw_val (v := .int .i64 (l0.length : Int)) (w' := w1) rfl rfl rfl rfl (by simp [go_sem, sEv, sLook, nbeq, i64_w]) ?_
  refine rw_val (v := .bool (decide (5000 < (l0.length : Int)))) (w' := w1) rfl rfl rfl rfl (by simp [go_sem, sEv, sLook, nbeq, i64_w]) ?_
  refine rw_val (v := .bool (decide (5000 < (l0.length : Int)))) (w' := w1) rfl rfl rfl rfl rfl ?_
  rcases bcase (decide (5000 < (l0.length : Int))) with cB0 | cB0
  · refine rw_on (c := decide (5000 < (l0.length : Int))) rfl rfl rfl (by first | (rw [cB0]; rfl) | simp [cB0]) ?_
    refine rw_val (v := .slice X1 l1.length d1) (w' := w1) rfl rfl rfl rfl rfl ?_
    refine rw_on (c := decide (5000 < (l0.length : Int))) rfl rfl rfl (by first | (rw [cB0]; rfl) | simp [cB0]) ?_
    refine rw_val (v := .int .i64 (l1.length : Int)) (w' := w1) rfl rfl rfl rfl (by simp [go_sem, sEv, sLook, nbeq, i64_w]) ?_
    refine rw_on (c := decide (5000 < (l0.length : Int))) rfl rfl rfl (by first | (rw [cB0]; rfl) | simp [cB0]) ?_
    refine rw_val (v := .bool (decide (5000 < (l1.length : Int)))) (w' := w1) rfl rfl rfl rfl (by simp [go_sem, sEv, sLook, nbeq, i64_w]) ?_
    refine rw_val (v := .bool (decide (5000 < (l1.length : Int)))) (w' := w1) rfl rfl rfl rfl (by first | (simp [go_sem, sEv, sLook, nbeq, i64_w, cB0]; done) | (simp [go_sem, sEv, sLook, nbeq, i64_w] <;> omega) | (simp [go_sem, sEv, sLook, nbeq, i64_w]; intro h_; exact absurd (by omega) h_) | (rw [cB0])) ?_
    refine rw_end ?_
    refine w_weaken (G' := [(0, .slice X0 l0.length d0), (1, .slice X1 l1.length d1), (2, .int .i64 arm), (3, .int .i64 fail), (8, .bool false), (21, .bool (decide (5000 < (l1.length : Int))))]) ⟨rfl, rfl, rfl, rfl, rfl, rfl, trivial⟩ ?_
    refine w_cond rfl rfl (fun cB1 => ?_) (fun cB1 => ?_)
    · refine w_seq ?_
      refine w_region ?_
      refine rw_val (v := .bool true) (w' := w1) rfl rfl rfl rfl rfl ?_
      refine rw_end ?_
      refine w_ret (post_ret1 rfl rfl ?_)
      exact ⟨rfl, hb2⟩
    · refine w_skip ?_
      refine w_seq ?_
      refine w_region ?_
      refine rw_call rfl rfl rfl rfl (f := 11) (args := #[]) (by simp [go_sem, sEv, sLook, nbeq, i64_w]) (new_T w1) ?_
      rintro e_ w4 ⟨g3, rfl, hT5_, hs6⟩
      refine ⟨_, rfl, ?_⟩
      have hT5 : TapeAt w w4 g3 w4.heap.size (pl [] 0 0) := new_on hb2 hT5_
      have hs_w4 := hT5.1.size
      refine rw_val (v := .pointer (some ⟨g3, 0, none⟩)) (w' := w4) rfl rfl rfl rfl rfl ?_
      refine rw_end ?_
      refine w_seq ?_
      refine w_seq ?_
      refine w_region ?_
      refine rw_val (v := .pointer (some ⟨g3, 0, none⟩)) (w' := w4) rfl rfl rfl rfl rfl ?_
      refine rw_val (v := .slice X0 l0.length d0) (w' := w4) rfl rfl rfl rfl rfl ?_
      refine rw_new (cs := #[.slice X0 l0.length d0]) (t := 27) (fun g => .slice (some ⟨g, 0, none⟩) 1 1) rfl rfl rfl rfl (by kernel_rfl) ?_
      intro g7 w8 hg12 hz11 hb9 hk10
      have hs_w8 := hb9.size
      have hgB_ := ((TapeAt.on hT5 hb9)).2.1
      refine rw_call rfl rfl rfl rfl (f := 12) (args := #[.pointer (some ⟨g3, 0, none⟩), .slice (some ⟨g7, 0, none⟩) 1 1]) (by simp [go_sem, sEv, sLook, nbeq, i64_w]) (append_pl w w8 g3 w4.heap.size [] 0 0 (TapeAt.on hT5 hb9) (by have hl0_ := of_decide_eq_false cB0; have hl1_ := of_decide_eq_false cB1; first | omega | (simp; done) | (simp; omega)) (by have hl0_ := of_decide_eq_false cB0; have hl1_ := of_decide_eq_false cB1; first | omega | (simp; done) | (simp; omega)) (by have hl0_ := of_decide_eq_false cB0; have hl1_ := of_decide_eq_false cB1; first | omega | (simp; done) | (simp; omega)) _ [l0] 1 (rowsK1 (hk10) (fun hq => by omega) e0 (Kd.C_kept_came (Kd.heap_int _) h0 (chain hT5.1 hb9) (fun k hk => by omega))) (by simp) (by have hl0_ := of_decide_eq_false cB0; have hl1_ := of_decide_eq_false cB1; first | omega | (simp; done) | (simp; omega)) (by have hl0_ := of_decide_eq_false cB0; have hl1_ := of_decide_eq_false cB1; first | omega | (simp; done) | (simp; omega))) ?_
      rintro e_ w13 ⟨rfl, hT14, hs15⟩
      refine ⟨_, rfl, ?_⟩
      have hs_w13 := hT14.1.size
      have hT14_ : TapeAt w w13 g3 w13.heap.size (pl l0 0 1) := by have h_ := hT14; simpa using h_
      refine rw_val (v := .bool ((none : Option Int).isSome)) (w' := w13) rfl rfl rfl rfl (run_as (guard_err_neq _ (none : Option Int) _)) ?_
      refine rw_val (v := .bool ((none : Option Int).isSome)) (w' := w13) rfl rfl rfl rfl rfl ?_
      have hq16 : ((none : Option Int).isSome) = false := by rfl
      refine rw_on (c := (none : Option Int).isSome) rfl rfl rfl (by first | (rw [hq16]; rfl) | simp [hq16]) ?_
      refine rw_val (v := .pointer (some ⟨g3, 0, none⟩)) (w' := w13) rfl rfl rfl rfl rfl ?_
      refine rw_on (c := (none : Option Int).isSome) rfl rfl rfl (by first | (rw [hq16]; rfl) | simp [hq16]) ?_
      refine rw_call rfl rfl rfl rfl (f := 13) (args := #[.pointer (some ⟨g3, 0, none⟩)]) (by simp [go_sem, sEv, sLook, nbeq, i64_w]) (sync_pl w w13 g3 w13.heap.size l0 0 1 hT14_ (by have hl0_ := of_decide_eq_false cB0; have hl1_ := of_decide_eq_false cB1; first | omega | (simp; done) | (simp; omega)) (by have hl0_ := of_decide_eq_false cB0; have hl1_ := of_decide_eq_false cB1; first | omega | (simp; done) | (simp; omega)) (by have hl0_ := of_decide_eq_false cB0; have hl1_ := of_decide_eq_false cB1; first | omega | (simp; done) | (simp; omega))) ?_
      rintro e_ w17 ⟨rfl, hT18, hs19⟩
      refine ⟨_, rfl, ?_⟩
      have hs_w17 := hT18.1.size
      have hT18_ : TapeAt w w17 g3 w17.heap.size (pl l0 ((l0).length : Int) 2) := by have h_ := hT18; simpa using h_
      refine rw_on (c := (none : Option Int).isSome) rfl rfl rfl (by first | (rw [hq16]; rfl) | simp [hq16]) ?_
      refine rw_val (v := .bool ((none : Option Int).isSome)) (w' := w17) rfl rfl rfl rfl (run_as (guard_err_neq _ (none : Option Int) _)) ?_
      refine rw_val (v := .bool ((none : Option Int).isSome)) (w' := w17) rfl rfl rfl rfl (by first | (simp [go_sem, sEv, sLook, nbeq, i64_w, hq16]; done) | (simp [go_sem, sEv, sLook, nbeq, i64_w] <;> omega) | (simp [go_sem, sEv, sLook, nbeq, i64_w]; intro h_; exact absurd (by omega) h_) | (rw [hq16])) ?_
      refine rw_val (v := .bool ((none : Option Int).isSome)) (w' := w17) rfl rfl rfl rfl rfl ?_
      refine rw_on (c := (none : Option Int).isSome) rfl rfl rfl (by first | (rw [hq16]; rfl) | simp [hq16]) ?_
      refine rw_val (v := .pointer (some ⟨g3, 0, none⟩)) (w' := w17) rfl rfl rfl rfl rfl ?_
      refine rw_on (c := (none : Option Int).isSome) rfl rfl rfl (by first | (rw [hq16]; rfl) | simp [hq16]) ?_
      refine rw_new (cs := #[.int .u8 109, .int .u8 111, .int .u8 114, .int .u8 101]) (t := 5) (fun g => .slice (some ⟨g, 0, none⟩) 4 4) rfl rfl rfl rfl (by kernel_rfl) ?_
      intro g20 w21 hg25 hz24 hb22 hk23
      have hs_w21 := hb22.size
      have hO26 : Nums .u8 #[.int .u8 109, .int .u8 111, .int .u8 114, .int .u8 101] [109, 111, 114, 101] := (fun j hj => by
        match j, hj with
        | 0, _ => rfl
        | 1, _ => rfl
        | 2, _ => rfl
        | 3, _ => rfl
        | j + 4, hj => simp only [List.length_cons, List.length_nil] at hj; omega)
      refine rw_on (c := (none : Option Int).isSome) rfl rfl rfl (by first | (rw [hq16]; rfl) | simp [hq16]) ?_
      obtain ⟨w27, hr28, hk29, hf30⟩ := conv_same (hk23) 4 4
      refine rw_val (v := .slice (some ⟨g20, 0, none⟩) 4 4) (w' := w27) rfl rfl rfl rfl (run_as hr28) ?_
      have hs_w27 := hk29.size
      refine rw_on (c := (none : Option Int).isSome) rfl rfl rfl (by first | (rw [hq16]; rfl) | simp [hq16]) ?_
      refine rw_new (cs := #[.slice (some ⟨g20, 0, none⟩) 4 4]) (t := 27) (fun g => .slice (some ⟨g, 0, none⟩) 1 1) rfl rfl rfl rfl (by kernel_rfl) ?_
      intro g31 w32 hg36 hz35 hb33 hk34
      have hs_w32 := hb33.size
      refine rw_on (c := (none : Option Int).isSome) rfl rfl rfl (by first | (rw [hq16]; rfl) | simp [hq16]) ?_
      have hgB_ := ((TapeAt.on hT18_ (chain (hk29.below (by omega) hb22) hb33))).2.1
      refine rw_call rfl rfl rfl rfl (f := 12) (args := #[.pointer (some ⟨g3, 0, none⟩), .slice (some ⟨g31, 0, none⟩) 1 1]) (by simp [go_sem, sEv, sLook, nbeq, i64_w]) (append_pl w w32 g3 w17.heap.size l0 ((l0).length : Int) 2 (TapeAt.on hT18_ (chain (hk29.below (by omega) hb22) hb33)) (by have hl0_ := of_decide_eq_false cB0; have hl1_ := of_decide_eq_false cB1; first | omega | (simp; done) | (simp; omega)) (by have hl0_ := of_decide_eq_false cB0; have hl1_ := of_decide_eq_false cB1; first | omega | (simp; done) | (simp; omega)) (by have hl0_ := of_decide_eq_false cB0; have hl1_ := of_decide_eq_false cB1; first | omega | (simp; done) | (simp; omega)) _ [[109, 111, 114, 101]] 1 (rowsK1 (hk34) (fun hq => by omega) (by simp) (FB.K (FB.on hf30 hb33) hO26 (by first | omega | simp) (fun hq => by (try simp only at hq); omega))) (by simp) (by have hl0_ := of_decide_eq_false cB0; have hl1_ := of_decide_eq_false cB1; first | omega | (simp; done) | (simp; omega)) (by have hl0_ := of_decide_eq_false cB0; have hl1_ := of_decide_eq_false cB1; first | omega | (simp; done) | (simp; omega))) ?_
      rintro e_ w37 ⟨rfl, hT38, hs39⟩
      refine ⟨_, rfl, ?_⟩
      have hs_w37 := hT38.1.size
      have hT38_ : TapeAt w w37 g3 w37.heap.size (pl (l0 ++ [109, 111, 114, 101]) ((l0).length : Int) 3) := by have h_ := hT38; simpa using h_
      refine rw_on (c := (none : Option Int).isSome) rfl rfl rfl (by first | (rw [hq16]; rfl) | simp [hq16]) ?_
      refine rw_val (v := .bool ((none : Option Int).isSome)) (w' := w37) rfl rfl rfl rfl (run_as (guard_err_neq _ (none : Option Int) _)) ?_
      refine rw_val (v := .bool ((none : Option Int).isSome)) (w' := w37) rfl rfl rfl rfl (by first | (simp [go_sem, sEv, sLook, nbeq, i64_w, hq16]; done) | (simp [go_sem, sEv, sLook, nbeq, i64_w] <;> omega) | (simp [go_sem, sEv, sLook, nbeq, i64_w]; intro h_; exact absurd (by omega) h_) | (rw [hq16])) ?_
      refine rw_end ?_
      refine w_weaken (G' := [(0, .slice X0 l0.length d0), (1, .slice X1 l1.length d1), (2, .int .i64 arm), (3, .int .i64 fail), (8, .bool false), (9, .pointer (some ⟨g3, 0, none⟩)), (40, .bool ((none : Option Int).isSome))]) ⟨rfl, rfl, rfl, rfl, rfl, rfl, rfl, trivial⟩ ?_
      refine w_cond_f rfl rfl hq16 ?_
      refine w_skip ?_
      refine w_seq ?_
      refine w_seq ?_
      refine w_region ?_
      refine rw_val (v := .int .i64 arm) (w' := w37) rfl rfl rfl rfl rfl ?_
      refine rw_val (v := .bool (decide (0 ≤ arm))) (w' := w37) rfl rfl rfl rfl (by simp [go_sem, sEv, sLook, nbeq, i64_w]) ?_
      refine rw_end ?_
      refine w_cond rfl rfl (fun cArm => ?_) (fun cArm => ?_)
      · refine w_region ?_
        refine rw_val (v := .pointer (some ⟨g3, 0, none⟩)) (w' := w37) rfl rfl rfl rfl rfl ?_
        refine rw_val (v := .int .i64 arm) (w' := w37) rfl rfl rfl rfl rfl ?_
        have qarm_ := of_decide_eq_true cArm
        refine rw_call rfl rfl rfl rfl (f := 20) (args := #[.pointer (some ⟨g3, 0, none⟩), .int .i64 arm]) (by simp [go_sem, sEv, sLook, nbeq, i64_w]) (arm_T w w37 g3 w37.heap.size _ hT38_ (pl_ok (by have hl0_ := of_decide_eq_false cB0; have hl1_ := of_decide_eq_false cB1; first | (simp; done) | (simp; omega)) (by have hl0_ := of_decide_eq_false cB0; have hl1_ := of_decide_eq_false cB1; first | (simp; done) | (simp; omega)) (by have hl0_ := of_decide_eq_false cB0; have hl1_ := of_decide_eq_false cB1; first | (simp; done) | (simp; omega))) arm (by simp; omega)) ?_
        rintro e_ w40 ⟨rfl, hT41, hs42⟩
        refine ⟨.nilIface, rfl, ?_⟩
        have hs_w40 := hT41.1.size
        refine rw_end ?_
        refine w_seq ?_
        refine w_seq ?_
        refine w_region ?_
        refine rw_val (v := .int .i64 fail) (w' := w40) rfl rfl rfl rfl rfl ?_
        refine rw_val (v := .bool (decide (0 ≤ fail))) (w' := w40) rfl rfl rfl rfl (by simp [go_sem, sEv, sLook, nbeq, i64_w]) ?_
        refine rw_end ?_
        refine w_cond rfl rfl (fun cFail => ?_) (fun cFail => ?_)
        · refine w_region ?_
          refine rw_val (v := .pointer (some ⟨g3, 0, none⟩)) (w' := w40) rfl rfl rfl rfl rfl ?_
          refine rw_val (v := .int .i64 fail) (w' := w40) rfl rfl rfl rfl rfl ?_
          have qfail_ := of_decide_eq_true cFail
          refine rw_call rfl rfl rfl rfl (f := 21) (args := #[.pointer (some ⟨g3, 0, none⟩), .int .i64 fail]) (by simp [go_sem, sEv, sLook, nbeq, i64_w]) (fail_T w w40 g3 w40.heap.size _ hT41 ⟨(by have hl0_ := of_decide_eq_false cB0; have hl1_ := of_decide_eq_false cB1; first | (simp [pl]; done) | (simp [pl]; omega)), (by have hl0_ := of_decide_eq_false cB0; have hl1_ := of_decide_eq_false cB1; first | (simp [pl]; done) | (simp [pl]; omega)), (by have hl0_ := of_decide_eq_false cB0; have hl1_ := of_decide_eq_false cB1; first | (simp [pl]; done) | (simp [pl]; omega)), (by have hl0_ := of_decide_eq_false cB0; have hl1_ := of_decide_eq_false cB1; first | (simp [pl]; done) | (simp [pl]; omega)), (by have hl0_ := of_decide_eq_false cB0; have hl1_ := of_decide_eq_false cB1; first | (simp [pl]; done) | (simp [pl]; omega))⟩ fail (by simp; omega)) ?_
          rintro e_ w43 ⟨rfl, hT44, hs45⟩
          refine ⟨.nilIface, rfl, ?_⟩
          have hs_w43 := hT44.1.size
          refine rw_end ?_
          refine w_seq ?_
          refine w_region ?_
          refine rw_val (v := .pointer (some ⟨g3, 0, none⟩)) (w' := w43) rfl rfl rfl rfl rfl ?_
          refine rw_val (v := .slice X1 l1.length d1) (w' := w43) rfl rfl rfl rfl rfl ?_
          have hgm_ := hT44.2.2.1
          have hA53 : TapeAt w w43 g3 w43.heap.size (AF arm fail (l0 ++ [109, 111, 114, 101]) (l0.length : Int) 3) := by have h_ := hT44; simpa [AF, pl, cArm, cFail] using h_
          have hl0_ := of_decide_eq_false cB0
          have hl1_ := of_decide_eq_false cB1
          refine rw_call rfl rfl rfl rfl (f := 18) (args := #[.pointer (some ⟨g3, 0, none⟩), .slice X1 l1.length d1]) (by simp [go_sem, sEv, sLook, nbeq, i64_w]) (replace_af w w43 g3 w43.heap.size arm fail _ _ _ hA53 bA bF (by omega) (by simp; try omega) (by simp; omega) _ l1 d1 (Kd.C_kept_came (Kd.heap_int _) h1 hT44.1 (fun k hk => by omega)) (by omega)) ?_
          rintro e_ w46 ⟨rfl, ⟨s47, hT48, hk49, hX50, hU51⟩, hs52⟩
          refine ⟨_, rfl, ?_⟩
          have hs_w46 := hT48.1.size
          refine rw_val (v := errT (afE arm fail)) (w' := w46) rfl rfl rfl rfl rfl ?_
          refine rw_end ?_
          refine w_weaken (G' := [(0, .slice X0 l0.length d0), (1, .slice X1 l1.length d1), (2, .int .i64 arm), (3, .int .i64 fail), (8, .bool false), (9, .pointer (some ⟨g3, 0, none⟩)), (10, errT (afE arm fail))]) ⟨rfl, rfl, rfl, rfl, rfl, rfl, rfl, trivial⟩ ?_
          refine w_seq ?_
          refine w_region ?_
          refine rw_val (v := .slice X1 l1.length d1) (w' := w46) rfl rfl rfl rfl rfl ?_
          refine rw_val (v := .string (strOfNums l1)) (w' := w46) rfl rfl rfl rfl (run_as (run_str_of (P := Try.prog) (e := 5) (by kernel_rfl) (by kernel_rfl) (by kernel_rfl) (Kd.C_below h1 hT48.1))) ?_
          refine rw_val (v := .string (strOfNums l1)) (w' := w46) rfl rfl rfl rfl rfl ?_
          refine rw_end ?_
          refine w_seq ?_
          refine w_seq ?_
          refine w_region ?_
          refine rw_val (v := errT (afE arm fail)) (w' := w46) rfl rfl rfl rfl rfl ?_
          refine rw_val (v := .bool ((afE arm fail).isSome)) (w' := w46) rfl rfl rfl rfl (run_as (guard_err_neq _ (afE arm fail) _)) ?_
          refine rw_end ?_
          refine w_cond rfl rfl (fun cE => ?_) (fun cE => ?_)
          · refine w_seq ?_
            refine w_region ?_
            refine rw_val (v := .slice X0 l0.length d0) (w' := w46) rfl rfl rfl rfl rfl ?_
            refine rw_val (v := .string (strOfNums l0)) (w' := w46) rfl rfl rfl rfl (run_as (run_str_of (P := Try.prog) (e := 5) (by kernel_rfl) (by kernel_rfl) (by kernel_rfl) (Kd.C_below h0 hT48.1))) ?_
            refine rw_val (v := .string (strOfNums l0)) (w' := w46) rfl rfl rfl rfl rfl ?_
            refine rw_end ?_
            refine w_seq ?_
            rcases bcase (decide ((afE arm fail) = some 6)) with cD | cD
            · refine w_draw (M := [0, 0, 3, 7, 15, 31, 63, 15, 143, 399, 1023, 2047]) (ss := [Is (errT (afE arm fail)), Is (errT (some 6)), Is (.bool (decide ((afE arm fail) = some 6))), Is (.bool (decide ((afE arm fail) = some 6))), Is undef, Is undef, Is undef, Is undef, Is undef, Is undef, Is undef, Is (.bool false)]) rfl (by decide +kernel) ?_
              refine t_is (errT (afE arm fail)) rfl rfl rfl rfl (fun W_ hW_ F_ => rfl) ?_
              refine t_is (errT (some 6)) rfl rfl rfl rfl (fun W_ hW_ F_ => (by simp [go_sem, sEv, sLook, nbeq, i64_w, errT])) ?_
              refine t_is (.bool (decide ((afE arm fail) = some 6))) rfl rfl rfl rfl (fun W_ hW_ F_ => (run_as (guard_err_eql _ _ (afE arm fail) 6 _))) ?_
              refine t_is (.bool (decide ((afE arm fail) = some 6))) rfl rfl rfl rfl (fun W_ hW_ F_ => rfl) ?_
              refine t_off (c := decide ((afE arm fail) = some 6)) rfl rfl rfl (by first | (rw [cD]; rfl) | simp [cD]) rfl rfl ?_
              refine t_off (c := decide ((afE arm fail) = some 6)) rfl rfl rfl (by first | (rw [cD]; rfl) | simp [cD]) rfl rfl ?_
              refine t_off (c := decide ((afE arm fail) = some 6)) rfl rfl rfl (by first | (rw [cD]; rfl) | simp [cD]) rfl rfl ?_
              refine t_off (c := decide ((afE arm fail) = some 6)) rfl rfl rfl (by first | (rw [cD]; rfl) | simp [cD]) rfl rfl ?_
              refine t_off (c := decide ((afE arm fail) = some 6)) rfl rfl rfl (by first | (rw [cD]; rfl) | simp [cD]) rfl rfl ?_
              refine t_off (c := decide ((afE arm fail) = some 6)) rfl rfl rfl (by first | (rw [cD]; rfl) | simp [cD]) rfl rfl ?_
              refine t_off (c := decide ((afE arm fail) = some 6)) rfl rfl rfl (by first | (rw [cD]; rfl) | simp [cD]) rfl rfl ?_
              refine t_is (.bool false) rfl rfl rfl rfl (fun W_ hW_ F_ => by first | (simp [go_sem, sEv, sLook, nbeq, i64_w, cD]; done) | (simp [go_sem, sEv, sLook, nbeq, i64_w] <;> omega) | (simp [go_sem, sEv, sLook, nbeq, i64_w]; intro h_; exact absurd (by omega) h_) | (rw [cD])) ?_
              refine t_end ?_
              intro w54 hb55_ F56
              have hb55 := below_of_drew hb55_
              have hs_w54 := hb55.size
              refine w_weaken (G' := [(2, .int .i64 arm), (3, .int .i64 fail), (8, .bool false), (9, .pointer (some ⟨g3, 0, none⟩)), (10, errT (afE arm fail)), (11, .string (strOfNums l0)), (71, .bool false)]) ⟨rfl, rfl, rfl, rfl, rfl, rfl, rfl, trivial⟩ ?_
              refine w_cond_f rfl rfl rfl ?_
              refine w_skip ?_
              refine w_seq ?_
              refine w_region ?_
              refine rw_val (v := .pointer (some ⟨g3, 0, none⟩)) (w' := w54) rfl rfl rfl rfl rfl ?_
              refine rw_call rfl rfl rfl rfl (f := 14) (args := #[.pointer (some ⟨g3, 0, none⟩), .int .i64 0]) (by simp [go_sem, sEv, sLook, nbeq, i64_w]) (crash_af w w54 g3 w46.heap.size _ (TapeAt.on hT48 hb55) hk49 (l0 ++ [109, 111, 114, 101]) l0 (by rw [hX50, if_pos cE]) (by rw [hU51, if_pos cE]) (by simp)) ?_
              rintro e_ w57 ⟨rfl, hT58, hs59⟩
              refine ⟨.tuple #[], rfl, ?_⟩
              have hs_w57 := hT58.1.size
              refine rw_end ?_
              refine w_seq ?_
              refine w_region ?_
              refine rw_val (v := .pointer (some ⟨g3, 0, none⟩)) (w' := w57) rfl rfl rfl rfl rfl ?_
              refine rw_call rfl rfl rfl rfl (f := 15) (args := #[.pointer (some ⟨g3, 0, none⟩)]) (by simp [go_sem, sEv, sLook, nbeq, i64_w]) (read_T w w57 g3 w57.heap.size _ hT58 (pl_ok hk49.steps (by simp) (by have hl0_ := of_decide_eq_false cB0; have hl1_ := of_decide_eq_false cB1; omega))) ?_
              rintro e_ w63 ⟨A60, n61, c62, rfl, hO64, hB65⟩
              refine ⟨_, rfl, ?_⟩
              have hs_w63 := hB65.size
              have hL66 : Own .u8 5 w63 w.heap.size w57.heap.size A60 n61 c62 l0 := Own.lower hO64 (by omega)
              refine rw_val (v := .string (strOfNums l0)) (w' := w63) rfl rfl rfl rfl (run_as (run_str_of (P := Try.prog) (e := 5) (by kernel_rfl) (by kernel_rfl) (by kernel_rfl) (show (Kd.int .u8).C _ _ n61 l0 by rw [hL66.len]; exact (Own.C (hL66.on (Below.refl _ _)))))) ?_
              refine rw_val (v := .string (strOfNums l0)) (w' := w63) rfl rfl rfl rfl rfl ?_
              refine rw_val (v := .bool true) (w' := w63) rfl rfl rfl rfl (run_bool (run_as (run_str_eql 9 _ _ _)) (by simp)) ?_
              refine rw_val (v := .bool true) (w' := w63) rfl rfl rfl rfl rfl ?_
              refine rw_on (c := true) rfl rfl rfl rfl ?_
              refine rw_val (v := errT (afE arm fail)) (w' := w63) rfl rfl rfl rfl rfl ?_
              refine rw_on (c := true) rfl rfl rfl rfl ?_
              refine rw_val (v := errT (some 5)) (w' := w63) rfl rfl rfl rfl (by simp [go_sem, sEv, sLook, nbeq, i64_w, errT]) ?_
              refine rw_on (c := true) rfl rfl rfl rfl ?_
              refine rw_val (v := .bool (decide ((afE arm fail) = some 5))) (w' := w63) rfl rfl rfl rfl (run_as (guard_err_eql _ _ (afE arm fail) 5 _)) ?_
              refine rw_on (c := true) rfl rfl rfl rfl ?_
              refine rw_val (v := .int .i64 arm) (w' := w63) rfl rfl rfl rfl rfl ?_
              refine rw_on (c := true) rfl rfl rfl rfl ?_
              refine rw_val (v := .bool (arm == 0)) (w' := w63) rfl rfl rfl rfl (by simp [go_sem, sEv, sLook, nbeq, i64_w]) ?_
              refine rw_on (c := true) rfl rfl rfl rfl ?_
              refine rw_val (v := .bool ((decide ((afE arm fail) = some 5)) == (arm == 0))) (w' := w63) rfl rfl rfl rfl (by first | (simp [go_sem, sEv, sLook, nbeq, i64_w]; done) | (simp [go_sem, sEv, sLook, nbeq, i64_w] <;> cases h0_ : decide ((afE arm fail) = some 5) <;> cases h1_ : (arm == 0) <;> rfl)) ?_
              refine rw_val (v := .bool ((decide ((afE arm fail) = some 5)) == (arm == 0))) (w' := w63) rfl rfl rfl rfl (by simp [go_sem, sEv, sLook, nbeq, i64_w]) ?_
              refine rw_val (v := .bool ((decide ((afE arm fail) = some 5)) == (arm == 0))) (w' := w63) rfl rfl rfl rfl rfl ?_
              have hq67 : ((decide ((afE arm fail) = some 5)) == (arm == 0)) = true := by exact af_eq5 arm fail
              refine rw_on (c := ((decide ((afE arm fail) = some 5)) == (arm == 0))) rfl rfl rfl (by first | (rw [hq67]; rfl) | simp [hq67]) ?_
              refine rw_val (v := errT (afE arm fail)) (w' := w63) rfl rfl rfl rfl rfl ?_
              refine rw_on (c := ((decide ((afE arm fail) = some 5)) == (arm == 0))) rfl rfl rfl (by first | (rw [hq67]; rfl) | simp [hq67]) ?_
              refine rw_val (v := errT (some 6)) (w' := w63) rfl rfl rfl rfl (by simp [go_sem, sEv, sLook, nbeq, i64_w, errT]) ?_
              refine rw_on (c := ((decide ((afE arm fail) = some 5)) == (arm == 0))) rfl rfl rfl (by first | (rw [hq67]; rfl) | simp [hq67]) ?_
              refine rw_val (v := .bool (decide ((afE arm fail) = some 6))) (w' := w63) rfl rfl rfl rfl (run_as (guard_err_eql _ _ (afE arm fail) 6 _)) ?_
              refine rw_on (c := ((decide ((afE arm fail) = some 5)) == (arm == 0))) rfl rfl rfl (by first | (rw [hq67]; rfl) | simp [hq67]) ?_
              refine rw_val (v := .int .i64 arm) (w' := w63) rfl rfl rfl rfl rfl ?_
              refine rw_on (c := ((decide ((afE arm fail) = some 5)) == (arm == 0))) rfl rfl rfl (by first | (rw [hq67]; rfl) | simp [hq67]) ?_
              refine rw_val (v := .bool (arm != 0)) (w' := w63) rfl rfl rfl rfl (by simp [go_sem, sEv, sLook, nbeq, i64_w]) ?_
              refine rw_on (c := ((decide ((afE arm fail) = some 5)) == (arm == 0))) rfl rfl rfl (by first | (rw [hq67]; rfl) | simp [hq67]) ?_
              refine rw_val (v := .bool (arm != 0)) (w' := w63) rfl rfl rfl rfl rfl ?_
              rcases bcase (arm != 0) with cA0 | cA0
              · refine rw_off (c := (arm != 0)) rfl rfl rfl (by first | (rw [cA0]; rfl) | simp [cA0]) rfl rfl ?_
                refine rw_off (c := (arm != 0)) rfl rfl rfl (by first | (rw [cA0]; rfl) | simp [cA0]) rfl rfl ?_
                refine rw_on (c := ((decide ((afE arm fail) = some 5)) == (arm == 0))) rfl rfl rfl (by first | (rw [hq67]; rfl) | simp [hq67]) ?_
                refine rw_val (v := .bool false) (w' := w63) rfl rfl rfl rfl (by first | (simp [go_sem, sEv, sLook, nbeq, i64_w, cA0]; done) | (simp [go_sem, sEv, sLook, nbeq, i64_w] <;> omega) | (simp [go_sem, sEv, sLook, nbeq, i64_w]; intro h_; exact absurd (by omega) h_) | (rw [cA0])) ?_
                refine rw_on (c := ((decide ((afE arm fail) = some 5)) == (arm == 0))) rfl rfl rfl (by first | (rw [hq67]; rfl) | simp [hq67]) ?_
                refine rw_val (v := .bool ((decide ((afE arm fail) = some 6)) == false)) (w' := w63) rfl rfl rfl rfl (by first | (simp [go_sem, sEv, sLook, nbeq, i64_w]; done) | (simp [go_sem, sEv, sLook, nbeq, i64_w] <;> cases h0_ : decide ((afE arm fail) = some 6) <;> rfl)) ?_
                refine rw_val (v := .bool ((decide ((afE arm fail) = some 6)) == false)) (w' := w63) rfl rfl rfl rfl (by first | (simp [go_sem, sEv, sLook, nbeq, i64_w, hq67]; done) | (simp [go_sem, sEv, sLook, nbeq, i64_w] <;> omega) | (simp [go_sem, sEv, sLook, nbeq, i64_w]; intro h_; exact absurd (by omega) h_) | (rw [hq67])) ?_
                refine rw_val (v := .bool ((decide ((afE arm fail) = some 6)) == false)) (w' := w63) rfl rfl rfl rfl rfl ?_
                refine rw_end ?_
                refine w_weaken (G' := [(8, .bool ((decide ((afE arm fail) = some 6)) == false))]) ⟨rfl, trivial⟩ ?_
                have hq68 : ((decide ((afE arm fail) = some 6)) == false) = true := by exact af_eq6' cA0
                refine w_ret (post_ret1 rfl rfl ?_)
                exact ⟨by simp only [hq68], (chain hT58.1 hB65)⟩
              · refine rw_on (c := (arm != 0)) rfl rfl rfl (by first | (rw [cA0]; rfl) | simp [cA0]) ?_
                refine rw_val (v := .int .i64 fail) (w' := w63) rfl rfl rfl rfl rfl ?_
                refine rw_on (c := (arm != 0)) rfl rfl rfl (by first | (rw [cA0]; rfl) | simp [cA0]) ?_
                refine rw_val (v := .bool (fail == 0)) (w' := w63) rfl rfl rfl rfl (by simp [go_sem, sEv, sLook, nbeq, i64_w]) ?_
                refine rw_on (c := ((decide ((afE arm fail) = some 5)) == (arm == 0))) rfl rfl rfl (by first | (rw [hq67]; rfl) | simp [hq67]) ?_
                refine rw_val (v := .bool (fail == 0)) (w' := w63) rfl rfl rfl rfl (by first | (simp [go_sem, sEv, sLook, nbeq, i64_w, cA0]; done) | (simp [go_sem, sEv, sLook, nbeq, i64_w] <;> omega) | (simp [go_sem, sEv, sLook, nbeq, i64_w]; intro h_; exact absurd (by omega) h_) | (rw [cA0])) ?_
                refine rw_on (c := ((decide ((afE arm fail) = some 5)) == (arm == 0))) rfl rfl rfl (by first | (rw [hq67]; rfl) | simp [hq67]) ?_
                refine rw_val (v := .bool ((decide ((afE arm fail) = some 6)) == (fail == 0))) (w' := w63) rfl rfl rfl rfl (by first | (simp [go_sem, sEv, sLook, nbeq, i64_w]; done) | (simp [go_sem, sEv, sLook, nbeq, i64_w] <;> cases h0_ : decide ((afE arm fail) = some 6) <;> cases h1_ : (fail == 0) <;> rfl)) ?_
                refine rw_val (v := .bool ((decide ((afE arm fail) = some 6)) == (fail == 0))) (w' := w63) rfl rfl rfl rfl (by first | (simp [go_sem, sEv, sLook, nbeq, i64_w, hq67]; done) | (simp [go_sem, sEv, sLook, nbeq, i64_w] <;> omega) | (simp [go_sem, sEv, sLook, nbeq, i64_w]; intro h_; exact absurd (by omega) h_) | (rw [hq67])) ?_
                refine rw_val (v := .bool ((decide ((afE arm fail) = some 6)) == (fail == 0))) (w' := w63) rfl rfl rfl rfl rfl ?_
                refine rw_end ?_
                refine w_weaken (G' := [(8, .bool ((decide ((afE arm fail) = some 6)) == (fail == 0)))]) ⟨rfl, trivial⟩ ?_
                have hq69 : ((decide ((afE arm fail) = some 6)) == (fail == 0)) = true := by exact af_eq6 cA0
                refine w_ret (post_ret1 rfl rfl ?_)
                exact ⟨by simp only [hq69], (chain hT58.1 hB65)⟩
            · refine w_draw (M := [0, 0, 3, 7, 15, 31, 63, 15, 143, 399, 1023, 2047]) (ss := [Is (errT (afE arm fail)), Is (errT (some 6)), Is (.bool (decide ((afE arm fail) = some 6))), Is (.bool (decide ((afE arm fail) = some 6))), Is (.pointer (some ⟨g3, 0, none⟩)), OwnSpec w.heap.size w46.heap.size (l0 ++ [109, 111, 114, 101]), Is (.string (strOfNums (l0 ++ [109, 111, 114, 101]))), Is (.slice X0 l0.length d0), Is (.string (strOfNums l0)), Is (.string (strOfNums l0 ++ (⟨#[109, 111, 114, 101]⟩ : ByteArray))), Is (.bool false), Is (.bool false)]) rfl (by decide +kernel) ?_
              refine t_is (errT (afE arm fail)) rfl rfl rfl rfl (fun W_ hW_ F_ => rfl) ?_
              refine t_is (errT (some 6)) rfl rfl rfl rfl (fun W_ hW_ F_ => (by simp [go_sem, sEv, sLook, nbeq, i64_w, errT])) ?_
              refine t_is (.bool (decide ((afE arm fail) = some 6))) rfl rfl rfl rfl (fun W_ hW_ F_ => (run_as (guard_err_eql _ _ (afE arm fail) 6 _))) ?_
              refine t_is (.bool (decide ((afE arm fail) = some 6))) rfl rfl rfl rfl (fun W_ hW_ F_ => rfl) ?_
              refine t_gis (c := decide ((afE arm fail) = some 6)) (.pointer (some ⟨g3, 0, none⟩)) rfl rfl rfl (by first | (rw [cD]; rfl) | simp [cD]) rfl rfl rfl (fun W_ hW_ F_ => rfl) ?_
              refine t_gcall (c := decide ((afE arm fail) = some 6)) (f := 15) (args := #[.pointer (some ⟨g3, 0, none⟩)]) (OwnSpec w.heap.size w46.heap.size (l0 ++ [109, 111, 114, 101])) rfl rfl rfl (by first | (rw [cD]; rfl) | simp [cD]) rfl rfl rfl (fun W_ => by simp [go_sem, sEv, sLook, nbeq, i64_w]) (fun W_ hW_ F_ => ?_) ?_
              · have hs_ := (below_of_drew hW_).size
                have hX_ : s47.xs = (l0 ++ [109, 111, 114, 101]) := by rw [hX50, if_pos cE]
                have h_ := read_T w W_ g3 w46.heap.size _ (TapeAt.on hT48 (below_of_drew hW_)) hk49
                rw [hX_] at h_
                refine h_.mono ?_
                rintro e_ w_ ⟨A_, n_, c_, rfl, hO_, hb_⟩
                exact ⟨_, rfl, ⟨A_, n_, c_, rfl, hO_.lower (by omega) |>.mono hs_⟩, hb_⟩
              rintro _ ⟨A70, n71, c72, rfl⟩
              refine t_gis (c := decide ((afE arm fail) = some 6)) (.string (strOfNums (l0 ++ [109, 111, 114, 101]))) rfl rfl rfl (by first | (rw [cD]; rfl) | simp [cD]) rfl rfl rfl (fun W_ hW_ F_ => by have hO_ := ownspec_fact (F_ 5 _ _ rfl rfl); exact run_as (run_str_of (P := Try.prog) (e := 5) (by kernel_rfl) (by kernel_rfl) (by kernel_rfl) (show (Kd.int .u8).C W_ A70 n71 (l0 ++ [109, 111, 114, 101]) by rw [hO_.len]; exact hO_.C))) ?_
              refine t_gis (c := decide ((afE arm fail) = some 6)) (.slice X0 l0.length d0) rfl rfl rfl (by first | (rw [cD]; rfl) | simp [cD]) rfl rfl rfl (fun W_ hW_ F_ => rfl) ?_
              refine t_gis (c := decide ((afE arm fail) = some 6)) (.string (strOfNums l0)) rfl rfl rfl (by first | (rw [cD]; rfl) | simp [cD]) rfl rfl rfl (fun W_ hW_ F_ => run_as (run_str_of (P := Try.prog) (e := 5) (by kernel_rfl) (by kernel_rfl) (by kernel_rfl) (Kd.C_below h0 (chain hT48.1 (below_of_drew hW_))))) ?_
              refine t_gis (c := decide ((afE arm fail) = some 6)) (.string (strOfNums l0 ++ (⟨#[109, 111, 114, 101]⟩ : ByteArray))) rfl rfl rfl (by first | (rw [cD]; rfl) | simp [cD]) rfl rfl rfl (fun W_ hW_ F_ => by simp [go_sem, sEv, sLook, nbeq, i64_w]; have hl0_ := of_decide_eq_false cB0; rw [strOfNums_size]; omega) ?_
              refine t_gis (c := decide ((afE arm fail) = some 6)) (.bool false) rfl rfl rfl (by first | (rw [cD]; rfl) | simp [cD]) rfl rfl rfl (fun W_ hW_ F_ => (run_bool (run_as (run_str_neq 9 _ _ _)) (by rw [strOfNums_app]; simp; rfl))) ?_
              refine t_is (.bool false) rfl rfl rfl rfl (fun W_ hW_ F_ => by first | (simp [go_sem, sEv, sLook, nbeq, i64_w, cD]; done) | (simp [go_sem, sEv, sLook, nbeq, i64_w] <;> omega) | (simp [go_sem, sEv, sLook, nbeq, i64_w]; intro h_; exact absurd (by omega) h_) | (rw [cD])) ?_
              refine t_end ?_
              intro w73 hb74_ F75
              have hb74 := below_of_drew hb74_
              have hs_w73 := hb74.size
              refine w_weaken (G' := [(2, .int .i64 arm), (3, .int .i64 fail), (8, .bool false), (9, .pointer (some ⟨g3, 0, none⟩)), (10, errT (afE arm fail)), (11, .string (strOfNums l0)), (71, .bool false)]) ⟨rfl, rfl, rfl, rfl, rfl, rfl, rfl, trivial⟩ ?_
              refine w_cond_f rfl rfl rfl ?_
              refine w_skip ?_
              refine w_seq ?_
              refine w_region ?_
              refine rw_val (v := .pointer (some ⟨g3, 0, none⟩)) (w' := w73) rfl rfl rfl rfl rfl ?_
              refine rw_call rfl rfl rfl rfl (f := 14) (args := #[.pointer (some ⟨g3, 0, none⟩), .int .i64 0]) (by simp [go_sem, sEv, sLook, nbeq, i64_w]) (crash_af w w73 g3 w46.heap.size _ (TapeAt.on hT48 hb74) hk49 (l0 ++ [109, 111, 114, 101]) l0 (by rw [hX50, if_pos cE]) (by rw [hU51, if_pos cE]) (by simp)) ?_
              rintro e_ w76 ⟨rfl, hT77, hs78⟩
              refine ⟨.tuple #[], rfl, ?_⟩
              have hs_w76 := hT77.1.size
              refine rw_end ?_
              refine w_seq ?_
              refine w_region ?_
              refine rw_val (v := .pointer (some ⟨g3, 0, none⟩)) (w' := w76) rfl rfl rfl rfl rfl ?_
              refine rw_call rfl rfl rfl rfl (f := 15) (args := #[.pointer (some ⟨g3, 0, none⟩)]) (by simp [go_sem, sEv, sLook, nbeq, i64_w]) (read_T w w76 g3 w76.heap.size _ hT77 (pl_ok hk49.steps (by simp) (by have hl0_ := of_decide_eq_false cB0; have hl1_ := of_decide_eq_false cB1; omega))) ?_
              rintro e_ w82 ⟨A79, n80, c81, rfl, hO83, hB84⟩
              refine ⟨_, rfl, ?_⟩
              have hs_w82 := hB84.size
              have hL85 : Own .u8 5 w82 w.heap.size w76.heap.size A79 n80 c81 l0 := Own.lower hO83 (by omega)
              refine rw_val (v := .string (strOfNums l0)) (w' := w82) rfl rfl rfl rfl (run_as (run_str_of (P := Try.prog) (e := 5) (by kernel_rfl) (by kernel_rfl) (by kernel_rfl) (show (Kd.int .u8).C _ _ n80 l0 by rw [hL85.len]; exact (Own.C (hL85.on (Below.refl _ _)))))) ?_
              refine rw_val (v := .string (strOfNums l0)) (w' := w82) rfl rfl rfl rfl rfl ?_
              refine rw_val (v := .bool true) (w' := w82) rfl rfl rfl rfl (run_bool (run_as (run_str_eql 9 _ _ _)) (by simp)) ?_
              refine rw_val (v := .bool true) (w' := w82) rfl rfl rfl rfl rfl ?_
              refine rw_on (c := true) rfl rfl rfl rfl ?_
              refine rw_val (v := errT (afE arm fail)) (w' := w82) rfl rfl rfl rfl rfl ?_
              refine rw_on (c := true) rfl rfl rfl rfl ?_
              refine rw_val (v := errT (some 5)) (w' := w82) rfl rfl rfl rfl (by simp [go_sem, sEv, sLook, nbeq, i64_w, errT]) ?_
              refine rw_on (c := true) rfl rfl rfl rfl ?_
              refine rw_val (v := .bool (decide ((afE arm fail) = some 5))) (w' := w82) rfl rfl rfl rfl (run_as (guard_err_eql _ _ (afE arm fail) 5 _)) ?_
              refine rw_on (c := true) rfl rfl rfl rfl ?_
              refine rw_val (v := .int .i64 arm) (w' := w82) rfl rfl rfl rfl rfl ?_
              refine rw_on (c := true) rfl rfl rfl rfl ?_
              refine rw_val (v := .bool (arm == 0)) (w' := w82) rfl rfl rfl rfl (by simp [go_sem, sEv, sLook, nbeq, i64_w]) ?_
              refine rw_on (c := true) rfl rfl rfl rfl ?_
              refine rw_val (v := .bool ((decide ((afE arm fail) = some 5)) == (arm == 0))) (w' := w82) rfl rfl rfl rfl (by first | (simp [go_sem, sEv, sLook, nbeq, i64_w]; done) | (simp [go_sem, sEv, sLook, nbeq, i64_w] <;> cases h0_ : decide ((afE arm fail) = some 5) <;> cases h1_ : (arm == 0) <;> rfl)) ?_
              refine rw_val (v := .bool ((decide ((afE arm fail) = some 5)) == (arm == 0))) (w' := w82) rfl rfl rfl rfl (by simp [go_sem, sEv, sLook, nbeq, i64_w]) ?_
              refine rw_val (v := .bool ((decide ((afE arm fail) = some 5)) == (arm == 0))) (w' := w82) rfl rfl rfl rfl rfl ?_
              have hq86 : ((decide ((afE arm fail) = some 5)) == (arm == 0)) = true := by exact af_eq5 arm fail
              refine rw_on (c := ((decide ((afE arm fail) = some 5)) == (arm == 0))) rfl rfl rfl (by first | (rw [hq86]; rfl) | simp [hq86]) ?_
              refine rw_val (v := errT (afE arm fail)) (w' := w82) rfl rfl rfl rfl rfl ?_
              refine rw_on (c := ((decide ((afE arm fail) = some 5)) == (arm == 0))) rfl rfl rfl (by first | (rw [hq86]; rfl) | simp [hq86]) ?_
              refine rw_val (v := errT (some 6)) (w' := w82) rfl rfl rfl rfl (by simp [go_sem, sEv, sLook, nbeq, i64_w, errT]) ?_
              refine rw_on (c := ((decide ((afE arm fail) = some 5)) == (arm == 0))) rfl rfl rfl (by first | (rw [hq86]; rfl) | simp [hq86]) ?_
              refine rw_val (v := .bool (decide ((afE arm fail) = some 6))) (w' := w82) rfl rfl rfl rfl (run_as (guard_err_eql _ _ (afE arm fail) 6 _)) ?_
              refine rw_on (c := ((decide ((afE arm fail) = some 5)) == (arm == 0))) rfl rfl rfl (by first | (rw [hq86]; rfl) | simp [hq86]) ?_
              refine rw_val (v := .int .i64 arm) (w' := w82) rfl rfl rfl rfl rfl ?_
              refine rw_on (c := ((decide ((afE arm fail) = some 5)) == (arm == 0))) rfl rfl rfl (by first | (rw [hq86]; rfl) | simp [hq86]) ?_
              refine rw_val (v := .bool (arm != 0)) (w' := w82) rfl rfl rfl rfl (by simp [go_sem, sEv, sLook, nbeq, i64_w]) ?_
              refine rw_on (c := ((decide ((afE arm fail) = some 5)) == (arm == 0))) rfl rfl rfl (by first | (rw [hq86]; rfl) | simp [hq86]) ?_
              refine rw_val (v := .bool (arm != 0)) (w' := w82) rfl rfl rfl rfl rfl ?_
              rcases bcase (arm != 0) with cA0 | cA0
              · refine rw_off (c := (arm != 0)) rfl rfl rfl (by first | (rw [cA0]; rfl) | simp [cA0]) rfl rfl ?_
                refine rw_off (c := (arm != 0)) rfl rfl rfl (by first | (rw [cA0]; rfl) | simp [cA0]) rfl rfl ?_
                refine rw_on (c := ((decide ((afE arm fail) = some 5)) == (arm == 0))) rfl rfl rfl (by first | (rw [hq86]; rfl) | simp [hq86]) ?_
                refine rw_val (v := .bool false) (w' := w82) rfl rfl rfl rfl (by first | (simp [go_sem, sEv, sLook, nbeq, i64_w, cA0]; done) | (simp [go_sem, sEv, sLook, nbeq, i64_w] <;> omega) | (simp [go_sem, sEv, sLook, nbeq, i64_w]; intro h_; exact absurd (by omega) h_) | (rw [cA0])) ?_
                refine rw_on (c := ((decide ((afE arm fail) = some 5)) == (arm == 0))) rfl rfl rfl (by first | (rw [hq86]; rfl) | simp [hq86]) ?_
                refine rw_val (v := .bool ((decide ((afE arm fail) = some 6)) == false)) (w' := w82) rfl rfl rfl rfl (by first | (simp [go_sem, sEv, sLook, nbeq, i64_w]; done) | (simp [go_sem, sEv, sLook, nbeq, i64_w] <;> cases h0_ : decide ((afE arm fail) = some 6) <;> rfl)) ?_
                refine rw_val (v := .bool ((decide ((afE arm fail) = some 6)) == false)) (w' := w82) rfl rfl rfl rfl (by first | (simp [go_sem, sEv, sLook, nbeq, i64_w, hq86]; done) | (simp [go_sem, sEv, sLook, nbeq, i64_w] <;> omega) | (simp [go_sem, sEv, sLook, nbeq, i64_w]; intro h_; exact absurd (by omega) h_) | (rw [hq86])) ?_
                refine rw_val (v := .bool ((decide ((afE arm fail) = some 6)) == false)) (w' := w82) rfl rfl rfl rfl rfl ?_
                refine rw_end ?_
                refine w_weaken (G' := [(8, .bool ((decide ((afE arm fail) = some 6)) == false))]) ⟨rfl, trivial⟩ ?_
                have hq87 : ((decide ((afE arm fail) = some 6)) == false) = true := by exact af_eq6' cA0
                refine w_ret (post_ret1 rfl rfl ?_)
                exact ⟨by simp only [hq87], (chain hT77.1 hB84)⟩
              · refine rw_on (c := (arm != 0)) rfl rfl rfl (by first | (rw [cA0]; rfl) | simp [cA0]) ?_
                refine rw_val (v := .int .i64 fail) (w' := w82) rfl rfl rfl rfl rfl ?_
                refine rw_on (c := (arm != 0)) rfl rfl rfl (by first | (rw [cA0]; rfl) | simp [cA0]) ?_
                refine rw_val (v := .bool (fail == 0)) (w' := w82) rfl rfl rfl rfl (by simp [go_sem, sEv, sLook, nbeq, i64_w]) ?_
                refine rw_on (c := ((decide ((afE arm fail) = some 5)) == (arm == 0))) rfl rfl rfl (by first | (rw [hq86]; rfl) | simp [hq86]) ?_
                refine rw_val (v := .bool (fail == 0)) (w' := w82) rfl rfl rfl rfl (by first | (simp [go_sem, sEv, sLook, nbeq, i64_w, cA0]; done) | (simp [go_sem, sEv, sLook, nbeq, i64_w] <;> omega) | (simp [go_sem, sEv, sLook, nbeq, i64_w]; intro h_; exact absurd (by omega) h_) | (rw [cA0])) ?_
                refine rw_on (c := ((decide ((afE arm fail) = some 5)) == (arm == 0))) rfl rfl rfl (by first | (rw [hq86]; rfl) | simp [hq86]) ?_
                refine rw_val (v := .bool ((decide ((afE arm fail) = some 6)) == (fail == 0))) (w' := w82) rfl rfl rfl rfl (by first | (simp [go_sem, sEv, sLook, nbeq, i64_w]; done) | (simp [go_sem, sEv, sLook, nbeq, i64_w] <;> cases h0_ : decide ((afE arm fail) = some 6) <;> cases h1_ : (fail == 0) <;> rfl)) ?_
                refine rw_val (v := .bool ((decide ((afE arm fail) = some 6)) == (fail == 0))) (w' := w82) rfl rfl rfl rfl (by first | (simp [go_sem, sEv, sLook, nbeq, i64_w, hq86]; done) | (simp [go_sem, sEv, sLook, nbeq, i64_w] <;> omega) | (simp [go_sem, sEv, sLook, nbeq, i64_w]; intro h_; exact absurd (by omega) h_) | (rw [hq86])) ?_
                refine rw_val (v := .bool ((decide ((afE arm fail) = some 6)) == (fail == 0))) (w' := w82) rfl rfl rfl rfl rfl ?_
                refine rw_end ?_
                refine w_weaken (G' := [(8, .bool ((decide ((afE arm fail) = some 6)) == (fail == 0)))]) ⟨rfl, trivial⟩ ?_
                have hq88 : ((decide ((afE arm fail) = some 6)) == (fail == 0)) = true := by exact af_eq6 cA0
                refine w_ret (post_ret1 rfl rfl ?_)
                exact ⟨by simp only [hq88], (chain hT77.1 hB84)⟩
          · refine w_skip ?_
            refine w_seq ?_
            refine w_region ?_
            refine rw_val (v := .pointer (some ⟨g3, 0, none⟩)) (w' := w46) rfl rfl rfl rfl rfl ?_
            refine rw_call rfl rfl rfl rfl (f := 14) (args := #[.pointer (some ⟨g3, 0, none⟩), .int .i64 0]) (by simp [go_sem, sEv, sLook, nbeq, i64_w]) (crash_af w w46 g3 w46.heap.size _ hT48 hk49 l1 l1 (by rw [hX50, if_neg (by rw [cE]; decide)]) (by rw [hU51, if_neg (by rw [cE]; decide)]) (by simp)) ?_
            rintro e_ w89 ⟨rfl, hT90, hs91⟩
            refine ⟨.tuple #[], rfl, ?_⟩
            have hs_w89 := hT90.1.size
            refine rw_end ?_
            refine w_seq ?_
            refine w_region ?_
            refine rw_val (v := .pointer (some ⟨g3, 0, none⟩)) (w' := w89) rfl rfl rfl rfl rfl ?_
            refine rw_call rfl rfl rfl rfl (f := 15) (args := #[.pointer (some ⟨g3, 0, none⟩)]) (by simp [go_sem, sEv, sLook, nbeq, i64_w]) (read_T w w89 g3 w89.heap.size _ hT90 (pl_ok hk49.steps (by simp) (by have hl0_ := of_decide_eq_false cB0; have hl1_ := of_decide_eq_false cB1; omega))) ?_
            rintro e_ w95 ⟨A92, n93, c94, rfl, hO96, hB97⟩
            refine ⟨_, rfl, ?_⟩
            have hs_w95 := hB97.size
            have hL98 : Own .u8 5 w95 w.heap.size w89.heap.size A92 n93 c94 l1 := Own.lower hO96 (by omega)
            refine rw_val (v := .string (strOfNums l1)) (w' := w95) rfl rfl rfl rfl (run_as (run_str_of (P := Try.prog) (e := 5) (by kernel_rfl) (by kernel_rfl) (by kernel_rfl) (show (Kd.int .u8).C _ _ n93 l1 by rw [hL98.len]; exact (Own.C (hL98.on (Below.refl _ _)))))) ?_
            refine rw_val (v := .string (strOfNums l1)) (w' := w95) rfl rfl rfl rfl rfl ?_
            refine rw_val (v := .bool true) (w' := w95) rfl rfl rfl rfl (run_bool (run_as (run_str_eql 9 _ _ _)) (by simp)) ?_
            refine rw_val (v := .bool true) (w' := w95) rfl rfl rfl rfl rfl ?_
            refine rw_on (c := true) rfl rfl rfl rfl ?_
            refine rw_val (v := errT (afE arm fail)) (w' := w95) rfl rfl rfl rfl rfl ?_
            refine rw_on (c := true) rfl rfl rfl rfl ?_
            refine rw_val (v := errT (some 5)) (w' := w95) rfl rfl rfl rfl (by simp [go_sem, sEv, sLook, nbeq, i64_w, errT]) ?_
            refine rw_on (c := true) rfl rfl rfl rfl ?_
            refine rw_val (v := .bool (decide ((afE arm fail) = some 5))) (w' := w95) rfl rfl rfl rfl (run_as (guard_err_eql _ _ (afE arm fail) 5 _)) ?_
            refine rw_on (c := true) rfl rfl rfl rfl ?_
            refine rw_val (v := .int .i64 arm) (w' := w95) rfl rfl rfl rfl rfl ?_
            refine rw_on (c := true) rfl rfl rfl rfl ?_
            refine rw_val (v := .bool (arm == 0)) (w' := w95) rfl rfl rfl rfl (by simp [go_sem, sEv, sLook, nbeq, i64_w]) ?_
            refine rw_on (c := true) rfl rfl rfl rfl ?_
            refine rw_val (v := .bool ((decide ((afE arm fail) = some 5)) == (arm == 0))) (w' := w95) rfl rfl rfl rfl (by first | (simp [go_sem, sEv, sLook, nbeq, i64_w]; done) | (simp [go_sem, sEv, sLook, nbeq, i64_w] <;> cases h0_ : decide ((afE arm fail) = some 5) <;> cases h1_ : (arm == 0) <;> rfl)) ?_
            refine rw_val (v := .bool ((decide ((afE arm fail) = some 5)) == (arm == 0))) (w' := w95) rfl rfl rfl rfl (by simp [go_sem, sEv, sLook, nbeq, i64_w]) ?_
            refine rw_val (v := .bool ((decide ((afE arm fail) = some 5)) == (arm == 0))) (w' := w95) rfl rfl rfl rfl rfl ?_
            have hq99 : ((decide ((afE arm fail) = some 5)) == (arm == 0)) = true := by exact af_eq5 arm fail
            refine rw_on (c := ((decide ((afE arm fail) = some 5)) == (arm == 0))) rfl rfl rfl (by first | (rw [hq99]; rfl) | simp [hq99]) ?_
            refine rw_val (v := errT (afE arm fail)) (w' := w95) rfl rfl rfl rfl rfl ?_
            refine rw_on (c := ((decide ((afE arm fail) = some 5)) == (arm == 0))) rfl rfl rfl (by first | (rw [hq99]; rfl) | simp [hq99]) ?_
            refine rw_val (v := errT (some 6)) (w' := w95) rfl rfl rfl rfl (by simp [go_sem, sEv, sLook, nbeq, i64_w, errT]) ?_
            refine rw_on (c := ((decide ((afE arm fail) = some 5)) == (arm == 0))) rfl rfl rfl (by first | (rw [hq99]; rfl) | simp [hq99]) ?_
            refine rw_val (v := .bool (decide ((afE arm fail) = some 6))) (w' := w95) rfl rfl rfl rfl (run_as (guard_err_eql _ _ (afE arm fail) 6 _)) ?_
            refine rw_on (c := ((decide ((afE arm fail) = some 5)) == (arm == 0))) rfl rfl rfl (by first | (rw [hq99]; rfl) | simp [hq99]) ?_
            refine rw_val (v := .int .i64 arm) (w' := w95) rfl rfl rfl rfl rfl ?_
            refine rw_on (c := ((decide ((afE arm fail) = some 5)) == (arm == 0))) rfl rfl rfl (by first | (rw [hq99]; rfl) | simp [hq99]) ?_
            refine rw_val (v := .bool (arm != 0)) (w' := w95) rfl rfl rfl rfl (by simp [go_sem, sEv, sLook, nbeq, i64_w]) ?_
            refine rw_on (c := ((decide ((afE arm fail) = some 5)) == (arm == 0))) rfl rfl rfl (by first | (rw [hq99]; rfl) | simp [hq99]) ?_
            refine rw_val (v := .bool (arm != 0)) (w' := w95) rfl rfl rfl rfl rfl ?_
            rcases bcase (arm != 0) with cA0 | cA0
            · refine rw_off (c := (arm != 0)) rfl rfl rfl (by first | (rw [cA0]; rfl) | simp [cA0]) rfl rfl ?_
              refine rw_off (c := (arm != 0)) rfl rfl rfl (by first | (rw [cA0]; rfl) | simp [cA0]) rfl rfl ?_
              refine rw_on (c := ((decide ((afE arm fail) = some 5)) == (arm == 0))) rfl rfl rfl (by first | (rw [hq99]; rfl) | simp [hq99]) ?_
              refine rw_val (v := .bool false) (w' := w95) rfl rfl rfl rfl (by first | (simp [go_sem, sEv, sLook, nbeq, i64_w, cA0]; done) | (simp [go_sem, sEv, sLook, nbeq, i64_w] <;> omega) | (simp [go_sem, sEv, sLook, nbeq, i64_w]; intro h_; exact absurd (by omega) h_) | (rw [cA0])) ?_
              refine rw_on (c := ((decide ((afE arm fail) = some 5)) == (arm == 0))) rfl rfl rfl (by first | (rw [hq99]; rfl) | simp [hq99]) ?_
              refine rw_val (v := .bool ((decide ((afE arm fail) = some 6)) == false)) (w' := w95) rfl rfl rfl rfl (by first | (simp [go_sem, sEv, sLook, nbeq, i64_w]; done) | (simp [go_sem, sEv, sLook, nbeq, i64_w] <;> cases h0_ : decide ((afE arm fail) = some 6) <;> rfl)) ?_
              refine rw_val (v := .bool ((decide ((afE arm fail) = some 6)) == false)) (w' := w95) rfl rfl rfl rfl (by first | (simp [go_sem, sEv, sLook, nbeq, i64_w, hq99]; done) | (simp [go_sem, sEv, sLook, nbeq, i64_w] <;> omega) | (simp [go_sem, sEv, sLook, nbeq, i64_w]; intro h_; exact absurd (by omega) h_) | (rw [hq99])) ?_
              refine rw_val (v := .bool ((decide ((afE arm fail) = some 6)) == false)) (w' := w95) rfl rfl rfl rfl rfl ?_
              refine rw_end ?_
              refine w_weaken (G' := [(8, .bool ((decide ((afE arm fail) = some 6)) == false))]) ⟨rfl, trivial⟩ ?_
              have hq100 : ((decide ((afE arm fail) = some 6)) == false) = true := by exact af_eq6' cA0
              refine w_ret (post_ret1 rfl rfl ?_)
              exact ⟨by simp only [hq100], (chain hT90.1 hB97)⟩
            · refine rw_on (c := (arm != 0)) rfl rfl rfl (by first | (rw [cA0]; rfl) | simp [cA0]) ?_
              refine rw_val (v := .int .i64 fail) (w' := w95) rfl rfl rfl rfl rfl ?_
              refine rw_on (c := (arm != 0)) rfl rfl rfl (by first | (rw [cA0]; rfl) | simp [cA0]) ?_
              refine rw_val (v := .bool (fail == 0)) (w' := w95) rfl rfl rfl rfl (by simp [go_sem, sEv, sLook, nbeq, i64_w]) ?_
              refine rw_on (c := ((decide ((afE arm fail) = some 5)) == (arm == 0))) rfl rfl rfl (by first | (rw [hq99]; rfl) | simp [hq99]) ?_
              refine rw_val (v := .bool (fail == 0)) (w' := w95) rfl rfl rfl rfl (by first | (simp [go_sem, sEv, sLook, nbeq, i64_w, cA0]; done) | (simp [go_sem, sEv, sLook, nbeq, i64_w] <;> omega) | (simp [go_sem, sEv, sLook, nbeq, i64_w]; intro h_; exact absurd (by omega) h_) | (rw [cA0])) ?_
              refine rw_on (c := ((decide ((afE arm fail) = some 5)) == (arm == 0))) rfl rfl rfl (by first | (rw [hq99]; rfl) | simp [hq99]) ?_
              refine rw_val (v := .bool ((decide ((afE arm fail) = some 6)) == (fail == 0))) (w' := w95) rfl rfl rfl rfl (by first | (simp [go_sem, sEv, sLook, nbeq, i64_w]; done) | (simp [go_sem, sEv, sLook, nbeq, i64_w] <;> cases h0_ : decide ((afE arm fail) = some 6) <;> cases h1_ : (fail == 0) <;> rfl)) ?_
              refine rw_val (v := .bool ((decide ((afE arm fail) = some 6)) == (fail == 0))) (w' := w95) rfl rfl rfl rfl (by first | (simp [go_sem, sEv, sLook, nbeq, i64_w, hq99]; done) | (simp [go_sem, sEv, sLook, nbeq, i64_w] <;> omega) | (simp [go_sem, sEv, sLook, nbeq, i64_w]; intro h_; exact absurd (by omega) h_) | (rw [hq99])) ?_
              refine rw_val (v := .bool ((decide ((afE arm fail) = some 6)) == (fail == 0))) (w' := w95) rfl rfl rfl rfl rfl ?_
              refine rw_end ?_
              refine w_weaken (G' := [(8, .bool ((decide ((afE arm fail) = some 6)) == (fail == 0)))]) ⟨rfl, trivial⟩ ?_
              have hq101 : ((decide ((afE arm fail) = some 6)) == (fail == 0)) = true := by exact af_eq6 cA0
              refine w_ret (post_ret1 rfl rfl ?_)
              exact ⟨by simp only [hq101], (chain hT90.1 hB97)⟩
        · refine w_skip ?_
          refine w_seq ?_
          refine w_region ?_
          refine rw_val (v := .pointer (some ⟨g3, 0, none⟩)) (w' := w40) rfl rfl rfl rfl rfl ?_
          refine rw_val (v := .slice X1 l1.length d1) (w' := w40) rfl rfl rfl rfl rfl ?_
          have hgm_ := hT41.2.2.1
          have hA109 : TapeAt w w40 g3 w40.heap.size (AF arm fail (l0 ++ [109, 111, 114, 101]) (l0.length : Int) 3) := by have h_ := hT41; simpa [AF, pl, cArm, cFail] using h_
          have hl0_ := of_decide_eq_false cB0
          have hl1_ := of_decide_eq_false cB1
          refine rw_call rfl rfl rfl rfl (f := 18) (args := #[.pointer (some ⟨g3, 0, none⟩), .slice X1 l1.length d1]) (by simp [go_sem, sEv, sLook, nbeq, i64_w]) (replace_af w w40 g3 w40.heap.size arm fail _ _ _ hA109 bA bF (by omega) (by simp; try omega) (by simp; omega) _ l1 d1 (Kd.C_kept_came (Kd.heap_int _) h1 hT41.1 (fun k hk => by omega)) (by omega)) ?_
          rintro e_ w102 ⟨rfl, ⟨s103, hT104, hk105, hX106, hU107⟩, hs108⟩
          refine ⟨_, rfl, ?_⟩
          have hs_w102 := hT104.1.size
          refine rw_val (v := errT (afE arm fail)) (w' := w102) rfl rfl rfl rfl rfl ?_
          refine rw_end ?_
          refine w_weaken (G' := [(0, .slice X0 l0.length d0), (1, .slice X1 l1.length d1), (2, .int .i64 arm), (3, .int .i64 fail), (8, .bool false), (9, .pointer (some ⟨g3, 0, none⟩)), (10, errT (afE arm fail))]) ⟨rfl, rfl, rfl, rfl, rfl, rfl, rfl, trivial⟩ ?_
          refine w_seq ?_
          refine w_region ?_
          refine rw_val (v := .slice X1 l1.length d1) (w' := w102) rfl rfl rfl rfl rfl ?_
          refine rw_val (v := .string (strOfNums l1)) (w' := w102) rfl rfl rfl rfl (run_as (run_str_of (P := Try.prog) (e := 5) (by kernel_rfl) (by kernel_rfl) (by kernel_rfl) (Kd.C_below h1 hT104.1))) ?_
          refine rw_val (v := .string (strOfNums l1)) (w' := w102) rfl rfl rfl rfl rfl ?_
          refine rw_end ?_
          refine w_seq ?_
          refine w_seq ?_
          refine w_region ?_
          refine rw_val (v := errT (afE arm fail)) (w' := w102) rfl rfl rfl rfl rfl ?_
          refine rw_val (v := .bool ((afE arm fail).isSome)) (w' := w102) rfl rfl rfl rfl (run_as (guard_err_neq _ (afE arm fail) _)) ?_
          refine rw_end ?_
          refine w_cond rfl rfl (fun cE => ?_) (fun cE => ?_)
          · refine w_seq ?_
            refine w_region ?_
            refine rw_val (v := .slice X0 l0.length d0) (w' := w102) rfl rfl rfl rfl rfl ?_
            refine rw_val (v := .string (strOfNums l0)) (w' := w102) rfl rfl rfl rfl (run_as (run_str_of (P := Try.prog) (e := 5) (by kernel_rfl) (by kernel_rfl) (by kernel_rfl) (Kd.C_below h0 hT104.1))) ?_
            refine rw_val (v := .string (strOfNums l0)) (w' := w102) rfl rfl rfl rfl rfl ?_
            refine rw_end ?_
            refine w_seq ?_
            rcases bcase (decide ((afE arm fail) = some 6)) with cD | cD
            · refine w_draw (M := [0, 0, 3, 7, 15, 31, 63, 15, 143, 399, 1023, 2047]) (ss := [Is (errT (afE arm fail)), Is (errT (some 6)), Is (.bool (decide ((afE arm fail) = some 6))), Is (.bool (decide ((afE arm fail) = some 6))), Is undef, Is undef, Is undef, Is undef, Is undef, Is undef, Is undef, Is (.bool false)]) rfl (by decide +kernel) ?_
              refine t_is (errT (afE arm fail)) rfl rfl rfl rfl (fun W_ hW_ F_ => rfl) ?_
              refine t_is (errT (some 6)) rfl rfl rfl rfl (fun W_ hW_ F_ => (by simp [go_sem, sEv, sLook, nbeq, i64_w, errT])) ?_
              refine t_is (.bool (decide ((afE arm fail) = some 6))) rfl rfl rfl rfl (fun W_ hW_ F_ => (run_as (guard_err_eql _ _ (afE arm fail) 6 _))) ?_
              refine t_is (.bool (decide ((afE arm fail) = some 6))) rfl rfl rfl rfl (fun W_ hW_ F_ => rfl) ?_
              refine t_off (c := decide ((afE arm fail) = some 6)) rfl rfl rfl (by first | (rw [cD]; rfl) | simp [cD]) rfl rfl ?_
              refine t_off (c := decide ((afE arm fail) = some 6)) rfl rfl rfl (by first | (rw [cD]; rfl) | simp [cD]) rfl rfl ?_
              refine t_off (c := decide ((afE arm fail) = some 6)) rfl rfl rfl (by first | (rw [cD]; rfl) | simp [cD]) rfl rfl ?_
              refine t_off (c := decide ((afE arm fail) = some 6)) rfl rfl rfl (by first | (rw [cD]; rfl) | simp [cD]) rfl rfl ?_
              refine t_off (c := decide ((afE arm fail) = some 6)) rfl rfl rfl (by first | (rw [cD]; rfl) | simp [cD]) rfl rfl ?_
              refine t_off (c := decide ((afE arm fail) = some 6)) rfl rfl rfl (by first | (rw [cD]; rfl) | simp [cD]) rfl rfl ?_
              refine t_off (c := decide ((afE arm fail) = some 6)) rfl rfl rfl (by first | (rw [cD]; rfl) | simp [cD]) rfl rfl ?_
              refine t_is (.bool false) rfl rfl rfl rfl (fun W_ hW_ F_ => by first | (simp [go_sem, sEv, sLook, nbeq, i64_w, cD]; done) | (simp [go_sem, sEv, sLook, nbeq, i64_w] <;> omega) | (simp [go_sem, sEv, sLook, nbeq, i64_w]; intro h_; exact absurd (by omega) h_) | (rw [cD])) ?_
              refine t_end ?_
              intro w110 hb111_ F112
              have hb111 := below_of_drew hb111_
              have hs_w110 := hb111.size
              refine w_weaken (G' := [(2, .int .i64 arm), (3, .int .i64 fail), (8, .bool false), (9, .pointer (some ⟨g3, 0, none⟩)), (10, errT (afE arm fail)), (11, .string (strOfNums l0)), (71, .bool false)]) ⟨rfl, rfl, rfl, rfl, rfl, rfl, rfl, trivial⟩ ?_
              refine w_cond_f rfl rfl rfl ?_
              refine w_skip ?_
              refine w_seq ?_
              refine w_region ?_
              refine rw_val (v := .pointer (some ⟨g3, 0, none⟩)) (w' := w110) rfl rfl rfl rfl rfl ?_
              refine rw_call rfl rfl rfl rfl (f := 14) (args := #[.pointer (some ⟨g3, 0, none⟩), .int .i64 0]) (by simp [go_sem, sEv, sLook, nbeq, i64_w]) (crash_af w w110 g3 w102.heap.size _ (TapeAt.on hT104 hb111) hk105 (l0 ++ [109, 111, 114, 101]) l0 (by rw [hX106, if_pos cE]) (by rw [hU107, if_pos cE]) (by simp)) ?_
              rintro e_ w113 ⟨rfl, hT114, hs115⟩
              refine ⟨.tuple #[], rfl, ?_⟩
              have hs_w113 := hT114.1.size
              refine rw_end ?_
              refine w_seq ?_
              refine w_region ?_
              refine rw_val (v := .pointer (some ⟨g3, 0, none⟩)) (w' := w113) rfl rfl rfl rfl rfl ?_
              refine rw_call rfl rfl rfl rfl (f := 15) (args := #[.pointer (some ⟨g3, 0, none⟩)]) (by simp [go_sem, sEv, sLook, nbeq, i64_w]) (read_T w w113 g3 w113.heap.size _ hT114 (pl_ok hk105.steps (by simp) (by have hl0_ := of_decide_eq_false cB0; have hl1_ := of_decide_eq_false cB1; omega))) ?_
              rintro e_ w119 ⟨A116, n117, c118, rfl, hO120, hB121⟩
              refine ⟨_, rfl, ?_⟩
              have hs_w119 := hB121.size
              have hL122 : Own .u8 5 w119 w.heap.size w113.heap.size A116 n117 c118 l0 := Own.lower hO120 (by omega)
              refine rw_val (v := .string (strOfNums l0)) (w' := w119) rfl rfl rfl rfl (run_as (run_str_of (P := Try.prog) (e := 5) (by kernel_rfl) (by kernel_rfl) (by kernel_rfl) (show (Kd.int .u8).C _ _ n117 l0 by rw [hL122.len]; exact (Own.C (hL122.on (Below.refl _ _)))))) ?_
              refine rw_val (v := .string (strOfNums l0)) (w' := w119) rfl rfl rfl rfl rfl ?_
              refine rw_val (v := .bool true) (w' := w119) rfl rfl rfl rfl (run_bool (run_as (run_str_eql 9 _ _ _)) (by simp)) ?_
              refine rw_val (v := .bool true) (w' := w119) rfl rfl rfl rfl rfl ?_
              refine rw_on (c := true) rfl rfl rfl rfl ?_
              refine rw_val (v := errT (afE arm fail)) (w' := w119) rfl rfl rfl rfl rfl ?_
              refine rw_on (c := true) rfl rfl rfl rfl ?_
              refine rw_val (v := errT (some 5)) (w' := w119) rfl rfl rfl rfl (by simp [go_sem, sEv, sLook, nbeq, i64_w, errT]) ?_
              refine rw_on (c := true) rfl rfl rfl rfl ?_
              refine rw_val (v := .bool (decide ((afE arm fail) = some 5))) (w' := w119) rfl rfl rfl rfl (run_as (guard_err_eql _ _ (afE arm fail) 5 _)) ?_
              refine rw_on (c := true) rfl rfl rfl rfl ?_
              refine rw_val (v := .int .i64 arm) (w' := w119) rfl rfl rfl rfl rfl ?_
              refine rw_on (c := true) rfl rfl rfl rfl ?_
              refine rw_val (v := .bool (arm == 0)) (w' := w119) rfl rfl rfl rfl (by simp [go_sem, sEv, sLook, nbeq, i64_w]) ?_
              refine rw_on (c := true) rfl rfl rfl rfl ?_
              refine rw_val (v := .bool ((decide ((afE arm fail) = some 5)) == (arm == 0))) (w' := w119) rfl rfl rfl rfl (by first | (simp [go_sem, sEv, sLook, nbeq, i64_w]; done) | (simp [go_sem, sEv, sLook, nbeq, i64_w] <;> cases h0_ : decide ((afE arm fail) = some 5) <;> cases h1_ : (arm == 0) <;> rfl)) ?_
              refine rw_val (v := .bool ((decide ((afE arm fail) = some 5)) == (arm == 0))) (w' := w119) rfl rfl rfl rfl (by simp [go_sem, sEv, sLook, nbeq, i64_w]) ?_
              refine rw_val (v := .bool ((decide ((afE arm fail) = some 5)) == (arm == 0))) (w' := w119) rfl rfl rfl rfl rfl ?_
              have hq123 : ((decide ((afE arm fail) = some 5)) == (arm == 0)) = true := by exact af_eq5 arm fail
              refine rw_on (c := ((decide ((afE arm fail) = some 5)) == (arm == 0))) rfl rfl rfl (by first | (rw [hq123]; rfl) | simp [hq123]) ?_
              refine rw_val (v := errT (afE arm fail)) (w' := w119) rfl rfl rfl rfl rfl ?_
              refine rw_on (c := ((decide ((afE arm fail) = some 5)) == (arm == 0))) rfl rfl rfl (by first | (rw [hq123]; rfl) | simp [hq123]) ?_
              refine rw_val (v := errT (some 6)) (w' := w119) rfl rfl rfl rfl (by simp [go_sem, sEv, sLook, nbeq, i64_w, errT]) ?_
              refine rw_on (c := ((decide ((afE arm fail) = some 5)) == (arm == 0))) rfl rfl rfl (by first | (rw [hq123]; rfl) | simp [hq123]) ?_
              refine rw_val (v := .bool (decide ((afE arm fail) = some 6))) (w' := w119) rfl rfl rfl rfl (run_as (guard_err_eql _ _ (afE arm fail) 6 _)) ?_
              refine rw_on (c := ((decide ((afE arm fail) = some 5)) == (arm == 0))) rfl rfl rfl (by first | (rw [hq123]; rfl) | simp [hq123]) ?_
              refine rw_val (v := .int .i64 arm) (w' := w119) rfl rfl rfl rfl rfl ?_
              refine rw_on (c := ((decide ((afE arm fail) = some 5)) == (arm == 0))) rfl rfl rfl (by first | (rw [hq123]; rfl) | simp [hq123]) ?_
              refine rw_val (v := .bool (arm != 0)) (w' := w119) rfl rfl rfl rfl (by simp [go_sem, sEv, sLook, nbeq, i64_w]) ?_
              refine rw_on (c := ((decide ((afE arm fail) = some 5)) == (arm == 0))) rfl rfl rfl (by first | (rw [hq123]; rfl) | simp [hq123]) ?_
              refine rw_val (v := .bool (arm != 0)) (w' := w119) rfl rfl rfl rfl rfl ?_
              rcases bcase (arm != 0) with cA0 | cA0
              · refine rw_off (c := (arm != 0)) rfl rfl rfl (by first | (rw [cA0]; rfl) | simp [cA0]) rfl rfl ?_
                refine rw_off (c := (arm != 0)) rfl rfl rfl (by first | (rw [cA0]; rfl) | simp [cA0]) rfl rfl ?_
                refine rw_on (c := ((decide ((afE arm fail) = some 5)) == (arm == 0))) rfl rfl rfl (by first | (rw [hq123]; rfl) | simp [hq123]) ?_
                refine rw_val (v := .bool false) (w' := w119) rfl rfl rfl rfl (by first | (simp [go_sem, sEv, sLook, nbeq, i64_w, cA0]; done) | (simp [go_sem, sEv, sLook, nbeq, i64_w] <;> omega) | (simp [go_sem, sEv, sLook, nbeq, i64_w]; intro h_; exact absurd (by omega) h_) | (rw [cA0])) ?_
                refine rw_on (c := ((decide ((afE arm fail) = some 5)) == (arm == 0))) rfl rfl rfl (by first | (rw [hq123]; rfl) | simp [hq123]) ?_
                refine rw_val (v := .bool ((decide ((afE arm fail) = some 6)) == false)) (w' := w119) rfl rfl rfl rfl (by first | (simp [go_sem, sEv, sLook, nbeq, i64_w]; done) | (simp [go_sem, sEv, sLook, nbeq, i64_w] <;> cases h0_ : decide ((afE arm fail) = some 6) <;> rfl)) ?_
                refine rw_val (v := .bool ((decide ((afE arm fail) = some 6)) == false)) (w' := w119) rfl rfl rfl rfl (by first | (simp [go_sem, sEv, sLook, nbeq, i64_w, hq123]; done) | (simp [go_sem, sEv, sLook, nbeq, i64_w] <;> omega) | (simp [go_sem, sEv, sLook, nbeq, i64_w]; intro h_; exact absurd (by omega) h_) | (rw [hq123])) ?_
                refine rw_val (v := .bool ((decide ((afE arm fail) = some 6)) == false)) (w' := w119) rfl rfl rfl rfl rfl ?_
                refine rw_end ?_
                refine w_weaken (G' := [(8, .bool ((decide ((afE arm fail) = some 6)) == false))]) ⟨rfl, trivial⟩ ?_
                have hq124 : ((decide ((afE arm fail) = some 6)) == false) = true := by exact af_eq6' cA0
                refine w_ret (post_ret1 rfl rfl ?_)
                exact ⟨by simp only [hq124], (chain hT114.1 hB121)⟩
              · refine rw_on (c := (arm != 0)) rfl rfl rfl (by first | (rw [cA0]; rfl) | simp [cA0]) ?_
                refine rw_val (v := .int .i64 fail) (w' := w119) rfl rfl rfl rfl rfl ?_
                refine rw_on (c := (arm != 0)) rfl rfl rfl (by first | (rw [cA0]; rfl) | simp [cA0]) ?_
                refine rw_val (v := .bool (fail == 0)) (w' := w119) rfl rfl rfl rfl (by simp [go_sem, sEv, sLook, nbeq, i64_w]) ?_
                refine rw_on (c := ((decide ((afE arm fail) = some 5)) == (arm == 0))) rfl rfl rfl (by first | (rw [hq123]; rfl) | simp [hq123]) ?_
                refine rw_val (v := .bool (fail == 0)) (w' := w119) rfl rfl rfl rfl (by first | (simp [go_sem, sEv, sLook, nbeq, i64_w, cA0]; done) | (simp [go_sem, sEv, sLook, nbeq, i64_w] <;> omega) | (simp [go_sem, sEv, sLook, nbeq, i64_w]; intro h_; exact absurd (by omega) h_) | (rw [cA0])) ?_
                refine rw_on (c := ((decide ((afE arm fail) = some 5)) == (arm == 0))) rfl rfl rfl (by first | (rw [hq123]; rfl) | simp [hq123]) ?_
                refine rw_val (v := .bool ((decide ((afE arm fail) = some 6)) == (fail == 0))) (w' := w119) rfl rfl rfl rfl (by first | (simp [go_sem, sEv, sLook, nbeq, i64_w]; done) | (simp [go_sem, sEv, sLook, nbeq, i64_w] <;> cases h0_ : decide ((afE arm fail) = some 6) <;> cases h1_ : (fail == 0) <;> rfl)) ?_
                refine rw_val (v := .bool ((decide ((afE arm fail) = some 6)) == (fail == 0))) (w' := w119) rfl rfl rfl rfl (by first | (simp [go_sem, sEv, sLook, nbeq, i64_w, hq123]; done) | (simp [go_sem, sEv, sLook, nbeq, i64_w] <;> omega) | (simp [go_sem, sEv, sLook, nbeq, i64_w]; intro h_; exact absurd (by omega) h_) | (rw [hq123])) ?_
                refine rw_val (v := .bool ((decide ((afE arm fail) = some 6)) == (fail == 0))) (w' := w119) rfl rfl rfl rfl rfl ?_
                refine rw_end ?_
                refine w_weaken (G' := [(8, .bool ((decide ((afE arm fail) = some 6)) == (fail == 0)))]) ⟨rfl, trivial⟩ ?_
                have hq125 : ((decide ((afE arm fail) = some 6)) == (fail == 0)) = true := by exact af_eq6 cA0
                refine w_ret (post_ret1 rfl rfl ?_)
                exact ⟨by simp only [hq125], (chain hT114.1 hB121)⟩
            · refine w_draw (M := [0, 0, 3, 7, 15, 31, 63, 15, 143, 399, 1023, 2047]) (ss := [Is (errT (afE arm fail)), Is (errT (some 6)), Is (.bool (decide ((afE arm fail) = some 6))), Is (.bool (decide ((afE arm fail) = some 6))), Is (.pointer (some ⟨g3, 0, none⟩)), OwnSpec w.heap.size w102.heap.size (l0 ++ [109, 111, 114, 101]), Is (.string (strOfNums (l0 ++ [109, 111, 114, 101]))), Is (.slice X0 l0.length d0), Is (.string (strOfNums l0)), Is (.string (strOfNums l0 ++ (⟨#[109, 111, 114, 101]⟩ : ByteArray))), Is (.bool false), Is (.bool false)]) rfl (by decide +kernel) ?_
              refine t_is (errT (afE arm fail)) rfl rfl rfl rfl (fun W_ hW_ F_ => rfl) ?_
              refine t_is (errT (some 6)) rfl rfl rfl rfl (fun W_ hW_ F_ => (by simp [go_sem, sEv, sLook, nbeq, i64_w, errT])) ?_
              refine t_is (.bool (decide ((afE arm fail) = some 6))) rfl rfl rfl rfl (fun W_ hW_ F_ => (run_as (guard_err_eql _ _ (afE arm fail) 6 _))) ?_
              refine t_is (.bool (decide ((afE arm fail) = some 6))) rfl rfl rfl rfl (fun W_ hW_ F_ => rfl) ?_
              refine t_gis (c := decide ((afE arm fail) = some 6)) (.pointer (some ⟨g3, 0, none⟩)) rfl rfl rfl (by first | (rw [cD]; rfl) | simp [cD]) rfl rfl rfl (fun W_ hW_ F_ => rfl) ?_
              refine t_gcall (c := decide ((afE arm fail) = some 6)) (f := 15) (args := #[.pointer (some ⟨g3, 0, none⟩)]) (OwnSpec w.heap.size w102.heap.size (l0 ++ [109, 111, 114, 101])) rfl rfl rfl (by first | (rw [cD]; rfl) | simp [cD]) rfl rfl rfl (fun W_ => by simp [go_sem, sEv, sLook, nbeq, i64_w]) (fun W_ hW_ F_ => ?_) ?_
              · have hs_ := (below_of_drew hW_).size
                have hX_ : s103.xs = (l0 ++ [109, 111, 114, 101]) := by rw [hX106, if_pos cE]
                have h_ := read_T w W_ g3 w102.heap.size _ (TapeAt.on hT104 (below_of_drew hW_)) hk105
                rw [hX_] at h_
                refine h_.mono ?_
                rintro e_ w_ ⟨A_, n_, c_, rfl, hO_, hb_⟩
                exact ⟨_, rfl, ⟨A_, n_, c_, rfl, hO_.lower (by omega) |>.mono hs_⟩, hb_⟩
              rintro _ ⟨A126, n127, c128, rfl⟩
              refine t_gis (c := decide ((afE arm fail) = some 6)) (.string (strOfNums (l0 ++ [109, 111, 114, 101]))) rfl rfl rfl (by first | (rw [cD]; rfl) | simp [cD]) rfl rfl rfl (fun W_ hW_ F_ => by have hO_ := ownspec_fact (F_ 5 _ _ rfl rfl); exact run_as (run_str_of (P := Try.prog) (e := 5) (by kernel_rfl) (by kernel_rfl) (by kernel_rfl) (show (Kd.int .u8).C W_ A126 n127 (l0 ++ [109, 111, 114, 101]) by rw [hO_.len]; exact hO_.C))) ?_
              refine t_gis (c := decide ((afE arm fail) = some 6)) (.slice X0 l0.length d0) rfl rfl rfl (by first | (rw [cD]; rfl) | simp [cD]) rfl rfl rfl (fun W_ hW_ F_ => rfl) ?_
              refine t_gis (c := decide ((afE arm fail) = some 6)) (.string (strOfNums l0)) rfl rfl rfl (by first | (rw [cD]; rfl) | simp [cD]) rfl rfl rfl (fun W_ hW_ F_ => run_as (run_str_of (P := Try.prog) (e := 5) (by kernel_rfl) (by kernel_rfl) (by kernel_rfl) (Kd.C_below h0 (chain hT104.1 (below_of_drew hW_))))) ?_
              refine t_gis (c := decide ((afE arm fail) = some 6)) (.string (strOfNums l0 ++ (⟨#[109, 111, 114, 101]⟩ : ByteArray))) rfl rfl rfl (by first | (rw [cD]; rfl) | simp [cD]) rfl rfl rfl (fun W_ hW_ F_ => by simp [go_sem, sEv, sLook, nbeq, i64_w]; have hl0_ := of_decide_eq_false cB0; rw [strOfNums_size]; omega) ?_
              refine t_gis (c := decide ((afE arm fail) = some 6)) (.bool false) rfl rfl rfl (by first | (rw [cD]; rfl) | simp [cD]) rfl rfl rfl (fun W_ hW_ F_ => (run_bool (run_as (run_str_neq 9 _ _ _)) (by rw [strOfNums_app]; simp; rfl))) ?_
              refine t_is (.bool false) rfl rfl rfl rfl (fun W_ hW_ F_ => by first | (simp [go_sem, sEv, sLook, nbeq, i64_w, cD]; done) | (simp [go_sem, sEv, sLook, nbeq, i64_w] <;> omega) | (simp [go_sem, sEv, sLook, nbeq, i64_w]; intro h_; exact absurd (by omega) h_) | (rw [cD])) ?_
              refine t_end ?_
              intro w129 hb130_ F131
              have hb130 := below_of_drew hb130_
              have hs_w129 := hb130.size
              refine w_weaken (G' := [(2, .int .i64 arm), (3, .int .i64 fail), (8, .bool false), (9, .pointer (some ⟨g3, 0, none⟩)), (10, errT (afE arm fail)), (11, .string (strOfNums l0)), (71, .bool false)]) ⟨rfl, rfl, rfl, rfl, rfl, rfl, rfl, trivial⟩ ?_
              refine w_cond_f rfl rfl rfl ?_
              refine w_skip ?_
              refine w_seq ?_
              refine w_region ?_
              refine rw_val (v := .pointer (some ⟨g3, 0, none⟩)) (w' := w129) rfl rfl rfl rfl rfl ?_
              refine rw_call rfl rfl rfl rfl (f := 14) (args := #[.pointer (some ⟨g3, 0, none⟩), .int .i64 0]) (by simp [go_sem, sEv, sLook, nbeq, i64_w]) (crash_af w w129 g3 w102.heap.size _ (TapeAt.on hT104 hb130) hk105 (l0 ++ [109, 111, 114, 101]) l0 (by rw [hX106, if_pos cE]) (by rw [hU107, if_pos cE]) (by simp)) ?_
              rintro e_ w132 ⟨rfl, hT133, hs134⟩
              refine ⟨.tuple #[], rfl, ?_⟩
              have hs_w132 := hT133.1.size
              refine rw_end ?_
              refine w_seq ?_
              refine w_region ?_
              refine rw_val (v := .pointer (some ⟨g3, 0, none⟩)) (w' := w132) rfl rfl rfl rfl rfl ?_
              refine rw_call rfl rfl rfl rfl (f := 15) (args := #[.pointer (some ⟨g3, 0, none⟩)]) (by simp [go_sem, sEv, sLook, nbeq, i64_w]) (read_T w w132 g3 w132.heap.size _ hT133 (pl_ok hk105.steps (by simp) (by have hl0_ := of_decide_eq_false cB0; have hl1_ := of_decide_eq_false cB1; omega))) ?_
              rintro e_ w138 ⟨A135, n136, c137, rfl, hO139, hB140⟩
              refine ⟨_, rfl, ?_⟩
              have hs_w138 := hB140.size
              have hL141 : Own .u8 5 w138 w.heap.size w132.heap.size A135 n136 c137 l0 := Own.lower hO139 (by omega)
              refine rw_val (v := .string (strOfNums l0)) (w' := w138) rfl rfl rfl rfl (run_as (run_str_of (P := Try.prog) (e := 5) (by kernel_rfl) (by kernel_rfl) (by kernel_rfl) (show (Kd.int .u8).C _ _ n136 l0 by rw [hL141.len]; exact (Own.C (hL141.on (Below.refl _ _)))))) ?_
              refine rw_val (v := .string (strOfNums l0)) (w' := w138) rfl rfl rfl rfl rfl ?_
              refine rw_val (v := .bool true) (w' := w138) rfl rfl rfl rfl (run_bool (run_as (run_str_eql 9 _ _ _)) (by simp)) ?_
              refine rw_val (v := .bool true) (w' := w138) rfl rfl rfl rfl rfl ?_
              refine rw_on (c := true) rfl rfl rfl rfl ?_
              refine rw_val (v := errT (afE arm fail)) (w' := w138) rfl rfl rfl rfl rfl ?_
              refine rw_on (c := true) rfl rfl rfl rfl ?_
              refine rw_val (v := errT (some 5)) (w' := w138) rfl rfl rfl rfl (by simp [go_sem, sEv, sLook, nbeq, i64_w, errT]) ?_
              refine rw_on (c := true) rfl rfl rfl rfl ?_
              refine rw_val (v := .bool (decide ((afE arm fail) = some 5))) (w' := w138) rfl rfl rfl rfl (run_as (guard_err_eql _ _ (afE arm fail) 5 _)) ?_
              refine rw_on (c := true) rfl rfl rfl rfl ?_
              refine rw_val (v := .int .i64 arm) (w' := w138) rfl rfl rfl rfl rfl ?_
              refine rw_on (c := true) rfl rfl rfl rfl ?_
              refine rw_val (v := .bool (arm == 0)) (w' := w138) rfl rfl rfl rfl (by simp [go_sem, sEv, sLook, nbeq, i64_w]) ?_
              refine rw_on (c := true) rfl rfl rfl rfl ?_
              refine rw_val (v := .bool ((decide ((afE arm fail) = some 5)) == (arm == 0))) (w' := w138) rfl rfl rfl rfl (by first | (simp [go_sem, sEv, sLook, nbeq, i64_w]; done) | (simp [go_sem, sEv, sLook, nbeq, i64_w] <;> cases h0_ : decide ((afE arm fail) = some 5) <;> cases h1_ : (arm == 0) <;> rfl)) ?_
              refine rw_val (v := .bool ((decide ((afE arm fail) = some 5)) == (arm == 0))) (w' := w138) rfl rfl rfl rfl (by simp [go_sem, sEv, sLook, nbeq, i64_w]) ?_
              refine rw_val (v := .bool ((decide ((afE arm fail) = some 5)) == (arm == 0))) (w' := w138) rfl rfl rfl rfl rfl ?_
              have hq142 : ((decide ((afE arm fail) = some 5)) == (arm == 0)) = true := by exact af_eq5 arm fail
              refine rw_on (c := ((decide ((afE arm fail) = some 5)) == (arm == 0))) rfl rfl rfl (by first | (rw [hq142]; rfl) | simp [hq142]) ?_
              refine rw_val (v := errT (afE arm fail)) (w' := w138) rfl rfl rfl rfl rfl ?_
              refine rw_on (c := ((decide ((afE arm fail) = some 5)) == (arm == 0))) rfl rfl rfl (by first | (rw [hq142]; rfl) | simp [hq142]) ?_
              refine rw_val (v := errT (some 6)) (w' := w138) rfl rfl rfl rfl (by simp [go_sem, sEv, sLook, nbeq, i64_w, errT]) ?_
              refine rw_on (c := ((decide ((afE arm fail) = some 5)) == (arm == 0))) rfl rfl rfl (by first | (rw [hq142]; rfl) | simp [hq142]) ?_
              refine rw_val (v := .bool (decide ((afE arm fail) = some 6))) (w' := w138) rfl rfl rfl rfl (run_as (guard_err_eql _ _ (afE arm fail) 6 _)) ?_
              refine rw_on (c := ((decide ((afE arm fail) = some 5)) == (arm == 0))) rfl rfl rfl (by first | (rw [hq142]; rfl) | simp [hq142]) ?_
              refine rw_val (v := .int .i64 arm) (w' := w138) rfl rfl rfl rfl rfl ?_
              refine rw_on (c := ((decide ((afE arm fail) = some 5)) == (arm == 0))) rfl rfl rfl (by first | (rw [hq142]; rfl) | simp [hq142]) ?_
              refine rw_val (v := .bool (arm != 0)) (w' := w138) rfl rfl rfl rfl (by simp [go_sem, sEv, sLook, nbeq, i64_w]) ?_
              refine rw_on (c := ((decide ((afE arm fail) = some 5)) == (arm == 0))) rfl rfl rfl (by first | (rw [hq142]; rfl) | simp [hq142]) ?_
              refine rw_val (v := .bool (arm != 0)) (w' := w138) rfl rfl rfl rfl rfl ?_
              rcases bcase (arm != 0) with cA0 | cA0
              · refine rw_off (c := (arm != 0)) rfl rfl rfl (by first | (rw [cA0]; rfl) | simp [cA0]) rfl rfl ?_
                refine rw_off (c := (arm != 0)) rfl rfl rfl (by first | (rw [cA0]; rfl) | simp [cA0]) rfl rfl ?_
                refine rw_on (c := ((decide ((afE arm fail) = some 5)) == (arm == 0))) rfl rfl rfl (by first | (rw [hq142]; rfl) | simp [hq142]) ?_
                refine rw_val (v := .bool false) (w' := w138) rfl rfl rfl rfl (by first | (simp [go_sem, sEv, sLook, nbeq, i64_w, cA0]; done) | (simp [go_sem, sEv, sLook, nbeq, i64_w] <;> omega) | (simp [go_sem, sEv, sLook, nbeq, i64_w]; intro h_; exact absurd (by omega) h_) | (rw [cA0])) ?_
                refine rw_on (c := ((decide ((afE arm fail) = some 5)) == (arm == 0))) rfl rfl rfl (by first | (rw [hq142]; rfl) | simp [hq142]) ?_
                refine rw_val (v := .bool ((decide ((afE arm fail) = some 6)) == false)) (w' := w138) rfl rfl rfl rfl (by first | (simp [go_sem, sEv, sLook, nbeq, i64_w]; done) | (simp [go_sem, sEv, sLook, nbeq, i64_w] <;> cases h0_ : decide ((afE arm fail) = some 6) <;> rfl)) ?_
                refine rw_val (v := .bool ((decide ((afE arm fail) = some 6)) == false)) (w' := w138) rfl rfl rfl rfl (by first | (simp [go_sem, sEv, sLook, nbeq, i64_w, hq142]; done) | (simp [go_sem, sEv, sLook, nbeq, i64_w] <;> omega) | (simp [go_sem, sEv, sLook, nbeq, i64_w]; intro h_; exact absurd (by omega) h_) | (rw [hq142])) ?_
                refine rw_val (v := .bool ((decide ((afE arm fail) = some 6)) == false)) (w' := w138) rfl rfl rfl rfl rfl ?_
                refine rw_end ?_
                refine w_weaken (G' := [(8, .bool ((decide ((afE arm fail) = some 6)) == false))]) ⟨rfl, trivial⟩ ?_
                have hq143 : ((decide ((afE arm fail) = some 6)) == false) = true := by exact af_eq6' cA0
                refine w_ret (post_ret1 rfl rfl ?_)
                exact ⟨by simp only [hq143], (chain hT133.1 hB140)⟩
              · refine rw_on (c := (arm != 0)) rfl rfl rfl (by first | (rw [cA0]; rfl) | simp [cA0]) ?_
                refine rw_val (v := .int .i64 fail) (w' := w138) rfl rfl rfl rfl rfl ?_
                refine rw_on (c := (arm != 0)) rfl rfl rfl (by first | (rw [cA0]; rfl) | simp [cA0]) ?_
                refine rw_val (v := .bool (fail == 0)) (w' := w138) rfl rfl rfl rfl (by simp [go_sem, sEv, sLook, nbeq, i64_w]) ?_
                refine rw_on (c := ((decide ((afE arm fail) = some 5)) == (arm == 0))) rfl rfl rfl (by first | (rw [hq142]; rfl) | simp [hq142]) ?_
                refine rw_val (v := .bool (fail == 0)) (w' := w138) rfl rfl rfl rfl (by first | (simp [go_sem, sEv, sLook, nbeq, i64_w, cA0]; done) | (simp [go_sem, sEv, sLook, nbeq, i64_w] <;> omega) | (simp [go_sem, sEv, sLook, nbeq, i64_w]; intro h_; exact absurd (by omega) h_) | (rw [cA0])) ?_
                refine rw_on (c := ((decide ((afE arm fail) = some 5)) == (arm == 0))) rfl rfl rfl (by first | (rw [hq142]; rfl) | simp [hq142]) ?_
                refine rw_val (v := .bool ((decide ((afE arm fail) = some 6)) == (fail == 0))) (w' := w138) rfl rfl rfl rfl (by first | (simp [go_sem, sEv, sLook, nbeq, i64_w]; done) | (simp [go_sem, sEv, sLook, nbeq, i64_w] <;> cases h0_ : decide ((afE arm fail) = some 6) <;> cases h1_ : (fail == 0) <;> rfl)) ?_
                refine rw_val (v := .bool ((decide ((afE arm fail) = some 6)) == (fail == 0))) (w' := w138) rfl rfl rfl rfl (by first | (simp [go_sem, sEv, sLook, nbeq, i64_w, hq142]; done) | (simp [go_sem, sEv, sLook, nbeq, i64_w] <;> omega) | (simp [go_sem, sEv, sLook, nbeq, i64_w]; intro h_; exact absurd (by omega) h_) | (rw [hq142])) ?_
                refine rw_val (v := .bool ((decide ((afE arm fail) = some 6)) == (fail == 0))) (w' := w138) rfl rfl rfl rfl rfl ?_
                refine rw_end ?_
                refine w_weaken (G' := [(8, .bool ((decide ((afE arm fail) = some 6)) == (fail == 0)))]) ⟨rfl, trivial⟩ ?_
                have hq144 : ((decide ((afE arm fail) = some 6)) == (fail == 0)) = true := by exact af_eq6 cA0
                refine w_ret (post_ret1 rfl rfl ?_)
                exact ⟨by simp only [hq144], (chain hT133.1 hB140)⟩
          · refine w_skip ?_
            refine w_seq ?_
            refine w_region ?_
            refine rw_val (v := .pointer (some ⟨g3, 0, none⟩)) (w' := w102) rfl rfl rfl rfl rfl ?_
            refine rw_call rfl rfl rfl rfl (f := 14) (args := #[.pointer (some ⟨g3, 0, none⟩), .int .i64 0]) (by simp [go_sem, sEv, sLook, nbeq, i64_w]) (crash_af w w102 g3 w102.heap.size _ hT104 hk105 l1 l1 (by rw [hX106, if_neg (by rw [cE]; decide)]) (by rw [hU107, if_neg (by rw [cE]; decide)]) (by simp)) ?_
            rintro e_ w145 ⟨rfl, hT146, hs147⟩
            refine ⟨.tuple #[], rfl, ?_⟩
            have hs_w145 := hT146.1.size
            refine rw_end ?_
            refine w_seq ?_
            refine w_region ?_
            refine rw_val (v := .pointer (some ⟨g3, 0, none⟩)) (w' := w145) rfl rfl rfl rfl rfl ?_
            refine rw_call rfl rfl rfl rfl (f := 15) (args := #[.pointer (some ⟨g3, 0, none⟩)]) (by simp [go_sem, sEv, sLook, nbeq, i64_w]) (read_T w w145 g3 w145.heap.size _ hT146 (pl_ok hk105.steps (by simp) (by have hl0_ := of_decide_eq_false cB0; have hl1_ := of_decide_eq_false cB1; omega))) ?_
            rintro e_ w151 ⟨A148, n149, c150, rfl, hO152, hB153⟩
            refine ⟨_, rfl, ?_⟩
            have hs_w151 := hB153.size
            have hL154 : Own .u8 5 w151 w.heap.size w145.heap.size A148 n149 c150 l1 := Own.lower hO152 (by omega)
            refine rw_val (v := .string (strOfNums l1)) (w' := w151) rfl rfl rfl rfl (run_as (run_str_of (P := Try.prog) (e := 5) (by kernel_rfl) (by kernel_rfl) (by kernel_rfl) (show (Kd.int .u8).C _ _ n149 l1 by rw [hL154.len]; exact (Own.C (hL154.on (Below.refl _ _)))))) ?_
            refine rw_val (v := .string (strOfNums l1)) (w' := w151) rfl rfl rfl rfl rfl ?_
            refine rw_val (v := .bool true) (w' := w151) rfl rfl rfl rfl (run_bool (run_as (run_str_eql 9 _ _ _)) (by simp)) ?_
            refine rw_val (v := .bool true) (w' := w151) rfl rfl rfl rfl rfl ?_
            refine rw_on (c := true) rfl rfl rfl rfl ?_
            refine rw_val (v := errT (afE arm fail)) (w' := w151) rfl rfl rfl rfl rfl ?_
            refine rw_on (c := true) rfl rfl rfl rfl ?_
            refine rw_val (v := errT (some 5)) (w' := w151) rfl rfl rfl rfl (by simp [go_sem, sEv, sLook, nbeq, i64_w, errT]) ?_
            refine rw_on (c := true) rfl rfl rfl rfl ?_
            refine rw_val (v := .bool (decide ((afE arm fail) = some 5))) (w' := w151) rfl rfl rfl rfl (run_as (guard_err_eql _ _ (afE arm fail) 5 _)) ?_
            refine rw_on (c := true) rfl rfl rfl rfl ?_
            refine rw_val (v := .int .i64 arm) (w' := w151) rfl rfl rfl rfl rfl ?_
            refine rw_on (c := true) rfl rfl rfl rfl ?_
            refine rw_val (v := .bool (arm == 0)) (w' := w151) rfl rfl rfl rfl (by simp [go_sem, sEv, sLook, nbeq, i64_w]) ?_
            refine rw_on (c := true) rfl rfl rfl rfl ?_
            refine rw_val (v := .bool ((decide ((afE arm fail) = some 5)) == (arm == 0))) (w' := w151) rfl rfl rfl rfl (by first | (simp [go_sem, sEv, sLook, nbeq, i64_w]; done) | (simp [go_sem, sEv, sLook, nbeq, i64_w] <;> cases h0_ : decide ((afE arm fail) = some 5) <;> cases h1_ : (arm == 0) <;> rfl)) ?_
            refine rw_val (v := .bool ((decide ((afE arm fail) = some 5)) == (arm == 0))) (w' := w151) rfl rfl rfl rfl (by simp [go_sem, sEv, sLook, nbeq, i64_w]) ?_
            refine rw_val (v := .bool ((decide ((afE arm fail) = some 5)) == (arm == 0))) (w' := w151) rfl rfl rfl rfl rfl ?_
            have hq155 : ((decide ((afE arm fail) = some 5)) == (arm == 0)) = true := by exact af_eq5 arm fail
            refine rw_on (c := ((decide ((afE arm fail) = some 5)) == (arm == 0))) rfl rfl rfl (by first | (rw [hq155]; rfl) | simp [hq155]) ?_
            refine rw_val (v := errT (afE arm fail)) (w' := w151) rfl rfl rfl rfl rfl ?_
            refine rw_on (c := ((decide ((afE arm fail) = some 5)) == (arm == 0))) rfl rfl rfl (by first | (rw [hq155]; rfl) | simp [hq155]) ?_
            refine rw_val (v := errT (some 6)) (w' := w151) rfl rfl rfl rfl (by simp [go_sem, sEv, sLook, nbeq, i64_w, errT]) ?_
            refine rw_on (c := ((decide ((afE arm fail) = some 5)) == (arm == 0))) rfl rfl rfl (by first | (rw [hq155]; rfl) | simp [hq155]) ?_
            refine rw_val (v := .bool (decide ((afE arm fail) = some 6))) (w' := w151) rfl rfl rfl rfl (run_as (guard_err_eql _ _ (afE arm fail) 6 _)) ?_
            refine rw_on (c := ((decide ((afE arm fail) = some 5)) == (arm == 0))) rfl rfl rfl (by first | (rw [hq155]; rfl) | simp [hq155]) ?_
            refine rw_val (v := .int .i64 arm) (w' := w151) rfl rfl rfl rfl rfl ?_
            refine rw_on (c := ((decide ((afE arm fail) = some 5)) == (arm == 0))) rfl rfl rfl (by first | (rw [hq155]; rfl) | simp [hq155]) ?_
            refine rw_val (v := .bool (arm != 0)) (w' := w151) rfl rfl rfl rfl (by simp [go_sem, sEv, sLook, nbeq, i64_w]) ?_
            refine rw_on (c := ((decide ((afE arm fail) = some 5)) == (arm == 0))) rfl rfl rfl (by first | (rw [hq155]; rfl) | simp [hq155]) ?_
            refine rw_val (v := .bool (arm != 0)) (w' := w151) rfl rfl rfl rfl rfl ?_
            rcases bcase (arm != 0) with cA0 | cA0
            · refine rw_off (c := (arm != 0)) rfl rfl rfl (by first | (rw [cA0]; rfl) | simp [cA0]) rfl rfl ?_
              refine rw_off (c := (arm != 0)) rfl rfl rfl (by first | (rw [cA0]; rfl) | simp [cA0]) rfl rfl ?_
              refine rw_on (c := ((decide ((afE arm fail) = some 5)) == (arm == 0))) rfl rfl rfl (by first | (rw [hq155]; rfl) | simp [hq155]) ?_
              refine rw_val (v := .bool false) (w' := w151) rfl rfl rfl rfl (by first | (simp [go_sem, sEv, sLook, nbeq, i64_w, cA0]; done) | (simp [go_sem, sEv, sLook, nbeq, i64_w] <;> omega) | (simp [go_sem, sEv, sLook, nbeq, i64_w]; intro h_; exact absurd (by omega) h_) | (rw [cA0])) ?_
              refine rw_on (c := ((decide ((afE arm fail) = some 5)) == (arm == 0))) rfl rfl rfl (by first | (rw [hq155]; rfl) | simp [hq155]) ?_
              refine rw_val (v := .bool ((decide ((afE arm fail) = some 6)) == false)) (w' := w151) rfl rfl rfl rfl (by first | (simp [go_sem, sEv, sLook, nbeq, i64_w]; done) | (simp [go_sem, sEv, sLook, nbeq, i64_w] <;> cases h0_ : decide ((afE arm fail) = some 6) <;> rfl)) ?_
              refine rw_val (v := .bool ((decide ((afE arm fail) = some 6)) == false)) (w' := w151) rfl rfl rfl rfl (by first | (simp [go_sem, sEv, sLook, nbeq, i64_w, hq155]; done) | (simp [go_sem, sEv, sLook, nbeq, i64_w] <;> omega) | (simp [go_sem, sEv, sLook, nbeq, i64_w]; intro h_; exact absurd (by omega) h_) | (rw [hq155])) ?_
              refine rw_val (v := .bool ((decide ((afE arm fail) = some 6)) == false)) (w' := w151) rfl rfl rfl rfl rfl ?_
              refine rw_end ?_
              refine w_weaken (G' := [(8, .bool ((decide ((afE arm fail) = some 6)) == false))]) ⟨rfl, trivial⟩ ?_
              have hq156 : ((decide ((afE arm fail) = some 6)) == false) = true := by exact af_eq6' cA0
              refine w_ret (post_ret1 rfl rfl ?_)
              exact ⟨by simp only [hq156], (chain hT146.1 hB153)⟩
            · refine rw_on (c := (arm != 0)) rfl rfl rfl (by first | (rw [cA0]; rfl) | simp [cA0]) ?_
              refine rw_val (v := .int .i64 fail) (w' := w151) rfl rfl rfl rfl rfl ?_
              refine rw_on (c := (arm != 0)) rfl rfl rfl (by first | (rw [cA0]; rfl) | simp [cA0]) ?_
              refine rw_val (v := .bool (fail == 0)) (w' := w151) rfl rfl rfl rfl (by simp [go_sem, sEv, sLook, nbeq, i64_w]) ?_
              refine rw_on (c := ((decide ((afE arm fail) = some 5)) == (arm == 0))) rfl rfl rfl (by first | (rw [hq155]; rfl) | simp [hq155]) ?_
              refine rw_val (v := .bool (fail == 0)) (w' := w151) rfl rfl rfl rfl (by first | (simp [go_sem, sEv, sLook, nbeq, i64_w, cA0]; done) | (simp [go_sem, sEv, sLook, nbeq, i64_w] <;> omega) | (simp [go_sem, sEv, sLook, nbeq, i64_w]; intro h_; exact absurd (by omega) h_) | (rw [cA0])) ?_
              refine rw_on (c := ((decide ((afE arm fail) = some 5)) == (arm == 0))) rfl rfl rfl (by first | (rw [hq155]; rfl) | simp [hq155]) ?_
              refine rw_val (v := .bool ((decide ((afE arm fail) = some 6)) == (fail == 0))) (w' := w151) rfl rfl rfl rfl (by first | (simp [go_sem, sEv, sLook, nbeq, i64_w]; done) | (simp [go_sem, sEv, sLook, nbeq, i64_w] <;> cases h0_ : decide ((afE arm fail) = some 6) <;> cases h1_ : (fail == 0) <;> rfl)) ?_
              refine rw_val (v := .bool ((decide ((afE arm fail) = some 6)) == (fail == 0))) (w' := w151) rfl rfl rfl rfl (by first | (simp [go_sem, sEv, sLook, nbeq, i64_w, hq155]; done) | (simp [go_sem, sEv, sLook, nbeq, i64_w] <;> omega) | (simp [go_sem, sEv, sLook, nbeq, i64_w]; intro h_; exact absurd (by omega) h_) | (rw [hq155])) ?_
              refine rw_val (v := .bool ((decide ((afE arm fail) = some 6)) == (fail == 0))) (w' := w151) rfl rfl rfl rfl rfl ?_
              refine rw_end ?_
              refine w_weaken (G' := [(8, .bool ((decide ((afE arm fail) = some 6)) == (fail == 0)))]) ⟨rfl, trivial⟩ ?_
              have hq157 : ((decide ((afE arm fail) = some 6)) == (fail == 0)) = true := by exact af_eq6 cA0
              refine w_ret (post_ret1 rfl rfl ?_)
              exact ⟨by simp only [hq157], (chain hT146.1 hB153)⟩
      · refine w_skip ?_
        refine w_seq ?_
        refine w_seq ?_
        refine w_region ?_
        refine rw_val (v := .int .i64 fail) (w' := w37) rfl rfl rfl rfl rfl ?_
        refine rw_val (v := .bool (decide (0 ≤ fail))) (w' := w37) rfl rfl rfl rfl (by simp [go_sem, sEv, sLook, nbeq, i64_w]) ?_
        refine rw_end ?_
        refine w_cond rfl rfl (fun cFail => ?_) (fun cFail => ?_)
        · refine w_region ?_
          refine rw_val (v := .pointer (some ⟨g3, 0, none⟩)) (w' := w37) rfl rfl rfl rfl rfl ?_
          refine rw_val (v := .int .i64 fail) (w' := w37) rfl rfl rfl rfl rfl ?_
          have qfail_ := of_decide_eq_true cFail
          refine rw_call rfl rfl rfl rfl (f := 21) (args := #[.pointer (some ⟨g3, 0, none⟩), .int .i64 fail]) (by simp [go_sem, sEv, sLook, nbeq, i64_w]) (fail_T w w37 g3 w37.heap.size _ hT38_ (pl_ok (by have hl0_ := of_decide_eq_false cB0; have hl1_ := of_decide_eq_false cB1; first | (simp; done) | (simp; omega)) (by have hl0_ := of_decide_eq_false cB0; have hl1_ := of_decide_eq_false cB1; first | (simp; done) | (simp; omega)) (by have hl0_ := of_decide_eq_false cB0; have hl1_ := of_decide_eq_false cB1; first | (simp; done) | (simp; omega))) fail (by simp; omega)) ?_
          rintro e_ w158 ⟨rfl, hT159, hs160⟩
          refine ⟨.nilIface, rfl, ?_⟩
          have hs_w158 := hT159.1.size
          refine rw_end ?_
          refine w_seq ?_
          refine w_region ?_
          refine rw_val (v := .pointer (some ⟨g3, 0, none⟩)) (w' := w158) rfl rfl rfl rfl rfl ?_
          refine rw_val (v := .slice X1 l1.length d1) (w' := w158) rfl rfl rfl rfl rfl ?_
          have hgm_ := hT159.2.2.1
          have hA168 : TapeAt w w158 g3 w158.heap.size (AF arm fail (l0 ++ [109, 111, 114, 101]) (l0.length : Int) 3) := by have h_ := hT159; simpa [AF, pl, cArm, cFail] using h_
          have hl0_ := of_decide_eq_false cB0
          have hl1_ := of_decide_eq_false cB1
          refine rw_call rfl rfl rfl rfl (f := 18) (args := #[.pointer (some ⟨g3, 0, none⟩), .slice X1 l1.length d1]) (by simp [go_sem, sEv, sLook, nbeq, i64_w]) (replace_af w w158 g3 w158.heap.size arm fail _ _ _ hA168 bA bF (by omega) (by simp; try omega) (by simp; omega) _ l1 d1 (Kd.C_kept_came (Kd.heap_int _) h1 hT159.1 (fun k hk => by omega)) (by omega)) ?_
          rintro e_ w161 ⟨rfl, ⟨s162, hT163, hk164, hX165, hU166⟩, hs167⟩
          refine ⟨_, rfl, ?_⟩
          have hs_w161 := hT163.1.size
          refine rw_val (v := errT (afE arm fail)) (w' := w161) rfl rfl rfl rfl rfl ?_
          refine rw_end ?_
          refine w_weaken (G' := [(0, .slice X0 l0.length d0), (1, .slice X1 l1.length d1), (2, .int .i64 arm), (3, .int .i64 fail), (8, .bool false), (9, .pointer (some ⟨g3, 0, none⟩)), (10, errT (afE arm fail))]) ⟨rfl, rfl, rfl, rfl, rfl, rfl, rfl, trivial⟩ ?_
          refine w_seq ?_
          refine w_region ?_
          refine rw_val (v := .slice X1 l1.length d1) (w' := w161) rfl rfl rfl rfl rfl ?_
          refine rw_val (v := .string (strOfNums l1)) (w' := w161) rfl rfl rfl rfl (run_as (run_str_of (P := Try.prog) (e := 5) (by kernel_rfl) (by kernel_rfl) (by kernel_rfl) (Kd.C_below h1 hT163.1))) ?_
          refine rw_val (v := .string (strOfNums l1)) (w' := w161) rfl rfl rfl rfl rfl ?_
          refine rw_end ?_
          refine w_seq ?_
          refine w_seq ?_
          refine w_region ?_
          refine rw_val (v := errT (afE arm fail)) (w' := w161) rfl rfl rfl rfl rfl ?_
          refine rw_val (v := .bool ((afE arm fail).isSome)) (w' := w161) rfl rfl rfl rfl (run_as (guard_err_neq _ (afE arm fail) _)) ?_
          refine rw_end ?_
          refine w_cond rfl rfl (fun cE => ?_) (fun cE => ?_)
          · refine w_seq ?_
            refine w_region ?_
            refine rw_val (v := .slice X0 l0.length d0) (w' := w161) rfl rfl rfl rfl rfl ?_
            refine rw_val (v := .string (strOfNums l0)) (w' := w161) rfl rfl rfl rfl (run_as (run_str_of (P := Try.prog) (e := 5) (by kernel_rfl) (by kernel_rfl) (by kernel_rfl) (Kd.C_below h0 hT163.1))) ?_
            refine rw_val (v := .string (strOfNums l0)) (w' := w161) rfl rfl rfl rfl rfl ?_
            refine rw_end ?_
            refine w_seq ?_
            rcases bcase (decide ((afE arm fail) = some 6)) with cD | cD
            · refine w_draw (M := [0, 0, 3, 7, 15, 31, 63, 15, 143, 399, 1023, 2047]) (ss := [Is (errT (afE arm fail)), Is (errT (some 6)), Is (.bool (decide ((afE arm fail) = some 6))), Is (.bool (decide ((afE arm fail) = some 6))), Is undef, Is undef, Is undef, Is undef, Is undef, Is undef, Is undef, Is (.bool false)]) rfl (by decide +kernel) ?_
              refine t_is (errT (afE arm fail)) rfl rfl rfl rfl (fun W_ hW_ F_ => rfl) ?_
              refine t_is (errT (some 6)) rfl rfl rfl rfl (fun W_ hW_ F_ => (by simp [go_sem, sEv, sLook, nbeq, i64_w, errT])) ?_
              refine t_is (.bool (decide ((afE arm fail) = some 6))) rfl rfl rfl rfl (fun W_ hW_ F_ => (run_as (guard_err_eql _ _ (afE arm fail) 6 _))) ?_
              refine t_is (.bool (decide ((afE arm fail) = some 6))) rfl rfl rfl rfl (fun W_ hW_ F_ => rfl) ?_
              refine t_off (c := decide ((afE arm fail) = some 6)) rfl rfl rfl (by first | (rw [cD]; rfl) | simp [cD]) rfl rfl ?_
              refine t_off (c := decide ((afE arm fail) = some 6)) rfl rfl rfl (by first | (rw [cD]; rfl) | simp [cD]) rfl rfl ?_
              refine t_off (c := decide ((afE arm fail) = some 6)) rfl rfl rfl (by first | (rw [cD]; rfl) | simp [cD]) rfl rfl ?_
              refine t_off (c := decide ((afE arm fail) = some 6)) rfl rfl rfl (by first | (rw [cD]; rfl) | simp [cD]) rfl rfl ?_
              refine t_off (c := decide ((afE arm fail) = some 6)) rfl rfl rfl (by first | (rw [cD]; rfl) | simp [cD]) rfl rfl ?_
              refine t_off (c := decide ((afE arm fail) = some 6)) rfl rfl rfl (by first | (rw [cD]; rfl) | simp [cD]) rfl rfl ?_
              refine t_off (c := decide ((afE arm fail) = some 6)) rfl rfl rfl (by first | (rw [cD]; rfl) | simp [cD]) rfl rfl ?_
              refine t_is (.bool false) rfl rfl rfl rfl (fun W_ hW_ F_ => by first | (simp [go_sem, sEv, sLook, nbeq, i64_w, cD]; done) | (simp [go_sem, sEv, sLook, nbeq, i64_w] <;> omega) | (simp [go_sem, sEv, sLook, nbeq, i64_w]; intro h_; exact absurd (by omega) h_) | (rw [cD])) ?_
              refine t_end ?_
              intro w169 hb170_ F171
              have hb170 := below_of_drew hb170_
              have hs_w169 := hb170.size
              refine w_weaken (G' := [(2, .int .i64 arm), (3, .int .i64 fail), (8, .bool false), (9, .pointer (some ⟨g3, 0, none⟩)), (10, errT (afE arm fail)), (11, .string (strOfNums l0)), (71, .bool false)]) ⟨rfl, rfl, rfl, rfl, rfl, rfl, rfl, trivial⟩ ?_
              refine w_cond_f rfl rfl rfl ?_
              refine w_skip ?_
              refine w_seq ?_
              refine w_region ?_
              refine rw_val (v := .pointer (some ⟨g3, 0, none⟩)) (w' := w169) rfl rfl rfl rfl rfl ?_
              refine rw_call rfl rfl rfl rfl (f := 14) (args := #[.pointer (some ⟨g3, 0, none⟩), .int .i64 0]) (by simp [go_sem, sEv, sLook, nbeq, i64_w]) (crash_af w w169 g3 w161.heap.size _ (TapeAt.on hT163 hb170) hk164 (l0 ++ [109, 111, 114, 101]) l0 (by rw [hX165, if_pos cE]) (by rw [hU166, if_pos cE]) (by simp)) ?_
              rintro e_ w172 ⟨rfl, hT173, hs174⟩
              refine ⟨.tuple #[], rfl, ?_⟩
              have hs_w172 := hT173.1.size
              refine rw_end ?_
              refine w_seq ?_
              refine w_region ?_
              refine rw_val (v := .pointer (some ⟨g3, 0, none⟩)) (w' := w172) rfl rfl rfl rfl rfl ?_
              refine rw_call rfl rfl rfl rfl (f := 15) (args := #[.pointer (some ⟨g3, 0, none⟩)]) (by simp [go_sem, sEv, sLook, nbeq, i64_w]) (read_T w w172 g3 w172.heap.size _ hT173 (pl_ok hk164.steps (by simp) (by have hl0_ := of_decide_eq_false cB0; have hl1_ := of_decide_eq_false cB1; omega))) ?_
              rintro e_ w178 ⟨A175, n176, c177, rfl, hO179, hB180⟩
              refine ⟨_, rfl, ?_⟩
              have hs_w178 := hB180.size
              have hL181 : Own .u8 5 w178 w.heap.size w172.heap.size A175 n176 c177 l0 := Own.lower hO179 (by omega)
              refine rw_val (v := .string (strOfNums l0)) (w' := w178) rfl rfl rfl rfl (run_as (run_str_of (P := Try.prog) (e := 5) (by kernel_rfl) (by kernel_rfl) (by kernel_rfl) (show (Kd.int .u8).C _ _ n176 l0 by rw [hL181.len]; exact (Own.C (hL181.on (Below.refl _ _)))))) ?_
              refine rw_val (v := .string (strOfNums l0)) (w' := w178) rfl rfl rfl rfl rfl ?_
              refine rw_val (v := .bool true) (w' := w178) rfl rfl rfl rfl (run_bool (run_as (run_str_eql 9 _ _ _)) (by simp)) ?_
              refine rw_val (v := .bool true) (w' := w178) rfl rfl rfl rfl rfl ?_
              refine rw_on (c := true) rfl rfl rfl rfl ?_
              refine rw_val (v := errT (afE arm fail)) (w' := w178) rfl rfl rfl rfl rfl ?_
              refine rw_on (c := true) rfl rfl rfl rfl ?_
              refine rw_val (v := errT (some 5)) (w' := w178) rfl rfl rfl rfl (by simp [go_sem, sEv, sLook, nbeq, i64_w, errT]) ?_
              refine rw_on (c := true) rfl rfl rfl rfl ?_
              refine rw_val (v := .bool (decide ((afE arm fail) = some 5))) (w' := w178) rfl rfl rfl rfl (run_as (guard_err_eql _ _ (afE arm fail) 5 _)) ?_
              refine rw_on (c := true) rfl rfl rfl rfl ?_
              refine rw_val (v := .int .i64 arm) (w' := w178) rfl rfl rfl rfl rfl ?_
              refine rw_on (c := true) rfl rfl rfl rfl ?_
              refine rw_val (v := .bool (arm == 0)) (w' := w178) rfl rfl rfl rfl (by simp [go_sem, sEv, sLook, nbeq, i64_w]) ?_
              refine rw_on (c := true) rfl rfl rfl rfl ?_
              refine rw_val (v := .bool ((decide ((afE arm fail) = some 5)) == (arm == 0))) (w' := w178) rfl rfl rfl rfl (by first | (simp [go_sem, sEv, sLook, nbeq, i64_w]; done) | (simp [go_sem, sEv, sLook, nbeq, i64_w] <;> cases h0_ : decide ((afE arm fail) = some 5) <;> cases h1_ : (arm == 0) <;> rfl)) ?_
              refine rw_val (v := .bool ((decide ((afE arm fail) = some 5)) == (arm == 0))) (w' := w178) rfl rfl rfl rfl (by simp [go_sem, sEv, sLook, nbeq, i64_w]) ?_
              refine rw_val (v := .bool ((decide ((afE arm fail) = some 5)) == (arm == 0))) (w' := w178) rfl rfl rfl rfl rfl ?_
              have hq182 : ((decide ((afE arm fail) = some 5)) == (arm == 0)) = true := by exact af_eq5 arm fail
              refine rw_on (c := ((decide ((afE arm fail) = some 5)) == (arm == 0))) rfl rfl rfl (by first | (rw [hq182]; rfl) | simp [hq182]) ?_
              refine rw_val (v := errT (afE arm fail)) (w' := w178) rfl rfl rfl rfl rfl ?_
              refine rw_on (c := ((decide ((afE arm fail) = some 5)) == (arm == 0))) rfl rfl rfl (by first | (rw [hq182]; rfl) | simp [hq182]) ?_
              refine rw_val (v := errT (some 6)) (w' := w178) rfl rfl rfl rfl (by simp [go_sem, sEv, sLook, nbeq, i64_w, errT]) ?_
              refine rw_on (c := ((decide ((afE arm fail) = some 5)) == (arm == 0))) rfl rfl rfl (by first | (rw [hq182]; rfl) | simp [hq182]) ?_
              refine rw_val (v := .bool (decide ((afE arm fail) = some 6))) (w' := w178) rfl rfl rfl rfl (run_as (guard_err_eql _ _ (afE arm fail) 6 _)) ?_
              refine rw_on (c := ((decide ((afE arm fail) = some 5)) == (arm == 0))) rfl rfl rfl (by first | (rw [hq182]; rfl) | simp [hq182]) ?_
              refine rw_val (v := .int .i64 arm) (w' := w178) rfl rfl rfl rfl rfl ?_
              refine rw_on (c := ((decide ((afE arm fail) = some 5)) == (arm == 0))) rfl rfl rfl (by first | (rw [hq182]; rfl) | simp [hq182]) ?_
              refine rw_val (v := .bool (arm != 0)) (w' := w178) rfl rfl rfl rfl (by simp [go_sem, sEv, sLook, nbeq, i64_w]) ?_
              refine rw_on (c := ((decide ((afE arm fail) = some 5)) == (arm == 0))) rfl rfl rfl (by first | (rw [hq182]; rfl) | simp [hq182]) ?_
              refine rw_val (v := .bool (arm != 0)) (w' := w178) rfl rfl rfl rfl rfl ?_
              rcases bcase (arm != 0) with cA0 | cA0
              · refine rw_off (c := (arm != 0)) rfl rfl rfl (by first | (rw [cA0]; rfl) | simp [cA0]) rfl rfl ?_
                refine rw_off (c := (arm != 0)) rfl rfl rfl (by first | (rw [cA0]; rfl) | simp [cA0]) rfl rfl ?_
                refine rw_on (c := ((decide ((afE arm fail) = some 5)) == (arm == 0))) rfl rfl rfl (by first | (rw [hq182]; rfl) | simp [hq182]) ?_
                refine rw_val (v := .bool false) (w' := w178) rfl rfl rfl rfl (by first | (simp [go_sem, sEv, sLook, nbeq, i64_w, cA0]; done) | (simp [go_sem, sEv, sLook, nbeq, i64_w] <;> omega) | (simp [go_sem, sEv, sLook, nbeq, i64_w]; intro h_; exact absurd (by omega) h_) | (rw [cA0])) ?_
                refine rw_on (c := ((decide ((afE arm fail) = some 5)) == (arm == 0))) rfl rfl rfl (by first | (rw [hq182]; rfl) | simp [hq182]) ?_
                refine rw_val (v := .bool ((decide ((afE arm fail) = some 6)) == false)) (w' := w178) rfl rfl rfl rfl (by first | (simp [go_sem, sEv, sLook, nbeq, i64_w]; done) | (simp [go_sem, sEv, sLook, nbeq, i64_w] <;> cases h0_ : decide ((afE arm fail) = some 6) <;> rfl)) ?_
                refine rw_val (v := .bool ((decide ((afE arm fail) = some 6)) == false)) (w' := w178) rfl rfl rfl rfl (by first | (simp [go_sem, sEv, sLook, nbeq, i64_w, hq182]; done) | (simp [go_sem, sEv, sLook, nbeq, i64_w] <;> omega) | (simp [go_sem, sEv, sLook, nbeq, i64_w]; intro h_; exact absurd (by omega) h_) | (rw [hq182])) ?_
                refine rw_val (v := .bool ((decide ((afE arm fail) = some 6)) == false)) (w' := w178) rfl rfl rfl rfl rfl ?_
                refine rw_end ?_
                refine w_weaken (G' := [(8, .bool ((decide ((afE arm fail) = some 6)) == false))]) ⟨rfl, trivial⟩ ?_
                have hq183 : ((decide ((afE arm fail) = some 6)) == false) = true := by exact af_eq6' cA0
                refine w_ret (post_ret1 rfl rfl ?_)
                exact ⟨by simp only [hq183], (chain hT173.1 hB180)⟩
              · refine rw_on (c := (arm != 0)) rfl rfl rfl (by first | (rw [cA0]; rfl) | simp [cA0]) ?_
                refine rw_val (v := .int .i64 fail) (w' := w178) rfl rfl rfl rfl rfl ?_
                refine rw_on (c := (arm != 0)) rfl rfl rfl (by first | (rw [cA0]; rfl) | simp [cA0]) ?_
                refine rw_val (v := .bool (fail == 0)) (w' := w178) rfl rfl rfl rfl (by simp [go_sem, sEv, sLook, nbeq, i64_w]) ?_
                refine rw_on (c := ((decide ((afE arm fail) = some 5)) == (arm == 0))) rfl rfl rfl (by first | (rw [hq182]; rfl) | simp [hq182]) ?_
                refine rw_val (v := .bool (fail == 0)) (w' := w178) rfl rfl rfl rfl (by first | (simp [go_sem, sEv, sLook, nbeq, i64_w, cA0]; done) | (simp [go_sem, sEv, sLook, nbeq, i64_w] <;> omega) | (simp [go_sem, sEv, sLook, nbeq, i64_w]; intro h_; exact absurd (by omega) h_) | (rw [cA0])) ?_
                refine rw_on (c := ((decide ((afE arm fail) = some 5)) == (arm == 0))) rfl rfl rfl (by first | (rw [hq182]; rfl) | simp [hq182]) ?_
                refine rw_val (v := .bool ((decide ((afE arm fail) = some 6)) == (fail == 0))) (w' := w178) rfl rfl rfl rfl (by first | (simp [go_sem, sEv, sLook, nbeq, i64_w]; done) | (simp [go_sem, sEv, sLook, nbeq, i64_w] <;> cases h0_ : decide ((afE arm fail) = some 6) <;> cases h1_ : (fail == 0) <;> rfl)) ?_
                refine rw_val (v := .bool ((decide ((afE arm fail) = some 6)) == (fail == 0))) (w' := w178) rfl rfl rfl rfl (by first | (simp [go_sem, sEv, sLook, nbeq, i64_w, hq182]; done) | (simp [go_sem, sEv, sLook, nbeq, i64_w] <;> omega) | (simp [go_sem, sEv, sLook, nbeq, i64_w]; intro h_; exact absurd (by omega) h_) | (rw [hq182])) ?_
                refine rw_val (v := .bool ((decide ((afE arm fail) = some 6)) == (fail == 0))) (w' := w178) rfl rfl rfl rfl rfl ?_
                refine rw_end ?_
                refine w_weaken (G' := [(8, .bool ((decide ((afE arm fail) = some 6)) == (fail == 0)))]) ⟨rfl, trivial⟩ ?_
                have hq184 : ((decide ((afE arm fail) = some 6)) == (fail == 0)) = true := by exact af_eq6 cA0
                refine w_ret (post_ret1 rfl rfl ?_)
                exact ⟨by simp only [hq184], (chain hT173.1 hB180)⟩
            · refine w_draw (M := [0, 0, 3, 7, 15, 31, 63, 15, 143, 399, 1023, 2047]) (ss := [Is (errT (afE arm fail)), Is (errT (some 6)), Is (.bool (decide ((afE arm fail) = some 6))), Is (.bool (decide ((afE arm fail) = some 6))), Is (.pointer (some ⟨g3, 0, none⟩)), OwnSpec w.heap.size w161.heap.size (l0 ++ [109, 111, 114, 101]), Is (.string (strOfNums (l0 ++ [109, 111, 114, 101]))), Is (.slice X0 l0.length d0), Is (.string (strOfNums l0)), Is (.string (strOfNums l0 ++ (⟨#[109, 111, 114, 101]⟩ : ByteArray))), Is (.bool false), Is (.bool false)]) rfl (by decide +kernel) ?_
              refine t_is (errT (afE arm fail)) rfl rfl rfl rfl (fun W_ hW_ F_ => rfl) ?_
              refine t_is (errT (some 6)) rfl rfl rfl rfl (fun W_ hW_ F_ => (by simp [go_sem, sEv, sLook, nbeq, i64_w, errT])) ?_
              refine t_is (.bool (decide ((afE arm fail) = some 6))) rfl rfl rfl rfl (fun W_ hW_ F_ => (run_as (guard_err_eql _ _ (afE arm fail) 6 _))) ?_
              refine t_is (.bool (decide ((afE arm fail) = some 6))) rfl rfl rfl rfl (fun W_ hW_ F_ => rfl) ?_
              refine t_gis (c := decide ((afE arm fail) = some 6)) (.pointer (some ⟨g3, 0, none⟩)) rfl rfl rfl (by first | (rw [cD]; rfl) | simp [cD]) rfl rfl rfl (fun W_ hW_ F_ => rfl) ?_
              refine t_gcall (c := decide ((afE arm fail) = some 6)) (f := 15) (args := #[.pointer (some ⟨g3, 0, none⟩)]) (OwnSpec w.heap.size w161.heap.size (l0 ++ [109, 111, 114, 101])) rfl rfl rfl (by first | (rw [cD]; rfl) | simp [cD]) rfl rfl rfl (fun W_ => by simp [go_sem, sEv, sLook, nbeq, i64_w]) (fun W_ hW_ F_ => ?_) ?_
              · have hs_ := (below_of_drew hW_).size
                have hX_ : s162.xs = (l0 ++ [109, 111, 114, 101]) := by rw [hX165, if_pos cE]
                have h_ := read_T w W_ g3 w161.heap.size _ (TapeAt.on hT163 (below_of_drew hW_)) hk164
                rw [hX_] at h_
                refine h_.mono ?_
                rintro e_ w_ ⟨A_, n_, c_, rfl, hO_, hb_⟩
                exact ⟨_, rfl, ⟨A_, n_, c_, rfl, hO_.lower (by omega) |>.mono hs_⟩, hb_⟩
              rintro _ ⟨A185, n186, c187, rfl⟩
              refine t_gis (c := decide ((afE arm fail) = some 6)) (.string (strOfNums (l0 ++ [109, 111, 114, 101]))) rfl rfl rfl (by first | (rw [cD]; rfl) | simp [cD]) rfl rfl rfl (fun W_ hW_ F_ => by have hO_ := ownspec_fact (F_ 5 _ _ rfl rfl); exact run_as (run_str_of (P := Try.prog) (e := 5) (by kernel_rfl) (by kernel_rfl) (by kernel_rfl) (show (Kd.int .u8).C W_ A185 n186 (l0 ++ [109, 111, 114, 101]) by rw [hO_.len]; exact hO_.C))) ?_
              refine t_gis (c := decide ((afE arm fail) = some 6)) (.slice X0 l0.length d0) rfl rfl rfl (by first | (rw [cD]; rfl) | simp [cD]) rfl rfl rfl (fun W_ hW_ F_ => rfl) ?_
              refine t_gis (c := decide ((afE arm fail) = some 6)) (.string (strOfNums l0)) rfl rfl rfl (by first | (rw [cD]; rfl) | simp [cD]) rfl rfl rfl (fun W_ hW_ F_ => run_as (run_str_of (P := Try.prog) (e := 5) (by kernel_rfl) (by kernel_rfl) (by kernel_rfl) (Kd.C_below h0 (chain hT163.1 (below_of_drew hW_))))) ?_
              refine t_gis (c := decide ((afE arm fail) = some 6)) (.string (strOfNums l0 ++ (⟨#[109, 111, 114, 101]⟩ : ByteArray))) rfl rfl rfl (by first | (rw [cD]; rfl) | simp [cD]) rfl rfl rfl (fun W_ hW_ F_ => by simp [go_sem, sEv, sLook, nbeq, i64_w]; have hl0_ := of_decide_eq_false cB0; rw [strOfNums_size]; omega) ?_
              refine t_gis (c := decide ((afE arm fail) = some 6)) (.bool false) rfl rfl rfl (by first | (rw [cD]; rfl) | simp [cD]) rfl rfl rfl (fun W_ hW_ F_ => (run_bool (run_as (run_str_neq 9 _ _ _)) (by rw [strOfNums_app]; simp; rfl))) ?_
              refine t_is (.bool false) rfl rfl rfl rfl (fun W_ hW_ F_ => by first | (simp [go_sem, sEv, sLook, nbeq, i64_w, cD]; done) | (simp [go_sem, sEv, sLook, nbeq, i64_w] <;> omega) | (simp [go_sem, sEv, sLook, nbeq, i64_w]; intro h_; exact absurd (by omega) h_) | (rw [cD])) ?_
              refine t_end ?_
              intro w188 hb189_ F190
              have hb189 := below_of_drew hb189_
              have hs_w188 := hb189.size
              refine w_weaken (G' := [(2, .int .i64 arm), (3, .int .i64 fail), (8, .bool false), (9, .pointer (some ⟨g3, 0, none⟩)), (10, errT (afE arm fail)), (11, .string (strOfNums l0)), (71, .bool false)]) ⟨rfl, rfl, rfl, rfl, rfl, rfl, rfl, trivial⟩ ?_
              refine w_cond_f rfl rfl rfl ?_
              refine w_skip ?_
              refine w_seq ?_
              refine w_region ?_
              refine rw_val (v := .pointer (some ⟨g3, 0, none⟩)) (w' := w188) rfl rfl rfl rfl rfl ?_
              refine rw_call rfl rfl rfl rfl (f := 14) (args := #[.pointer (some ⟨g3, 0, none⟩), .int .i64 0]) (by simp [go_sem, sEv, sLook, nbeq, i64_w]) (crash_af w w188 g3 w161.heap.size _ (TapeAt.on hT163 hb189) hk164 (l0 ++ [109, 111, 114, 101]) l0 (by rw [hX165, if_pos cE]) (by rw [hU166, if_pos cE]) (by simp)) ?_
              rintro e_ w191 ⟨rfl, hT192, hs193⟩
              refine ⟨.tuple #[], rfl, ?_⟩
              have hs_w191 := hT192.1.size
              refine rw_end ?_
              refine w_seq ?_
              refine w_region ?_
              refine rw_val (v := .pointer (some ⟨g3, 0, none⟩)) (w' := w191) rfl rfl rfl rfl rfl ?_
              refine rw_call rfl rfl rfl rfl (f := 15) (args := #[.pointer (some ⟨g3, 0, none⟩)]) (by simp [go_sem, sEv, sLook, nbeq, i64_w]) (read_T w w191 g3 w191.heap.size _ hT192 (pl_ok hk164.steps (by simp) (by have hl0_ := of_decide_eq_false cB0; have hl1_ := of_decide_eq_false cB1; omega))) ?_
              rintro e_ w197 ⟨A194, n195, c196, rfl, hO198, hB199⟩
              refine ⟨_, rfl, ?_⟩
              have hs_w197 := hB199.size
              have hL200 : Own .u8 5 w197 w.heap.size w191.heap.size A194 n195 c196 l0 := Own.lower hO198 (by omega)
              refine rw_val (v := .string (strOfNums l0)) (w' := w197) rfl rfl rfl rfl (run_as (run_str_of (P := Try.prog) (e := 5) (by kernel_rfl) (by kernel_rfl) (by kernel_rfl) (show (Kd.int .u8).C _ _ n195 l0 by rw [hL200.len]; exact (Own.C (hL200.on (Below.refl _ _)))))) ?_
              refine rw_val (v := .string (strOfNums l0)) (w' := w197) rfl rfl rfl rfl rfl ?_
              refine rw_val (v := .bool true) (w' := w197) rfl rfl rfl rfl (run_bool (run_as (run_str_eql 9 _ _ _)) (by simp)) ?_
              refine rw_val (v := .bool true) (w' := w197) rfl rfl rfl rfl rfl ?_
              refine rw_on (c := true) rfl rfl rfl rfl ?_
              refine rw_val (v := errT (afE arm fail)) (w' := w197) rfl rfl rfl rfl rfl ?_
              refine rw_on (c := true) rfl rfl rfl rfl ?_
              refine rw_val (v := errT (some 5)) (w' := w197) rfl rfl rfl rfl (by simp [go_sem, sEv, sLook, nbeq, i64_w, errT]) ?_
              refine rw_on (c := true) rfl rfl rfl rfl ?_
              refine rw_val (v := .bool (decide ((afE arm fail) = some 5))) (w' := w197) rfl rfl rfl rfl (run_as (guard_err_eql _ _ (afE arm fail) 5 _)) ?_
              refine rw_on (c := true) rfl rfl rfl rfl ?_
              refine rw_val (v := .int .i64 arm) (w' := w197) rfl rfl rfl rfl rfl ?_
              refine rw_on (c := true) rfl rfl rfl rfl ?_
              refine rw_val (v := .bool (arm == 0)) (w' := w197) rfl rfl rfl rfl (by simp [go_sem, sEv, sLook, nbeq, i64_w]) ?_
              refine rw_on (c := true) rfl rfl rfl rfl ?_
              refine rw_val (v := .bool ((decide ((afE arm fail) = some 5)) == (arm == 0))) (w' := w197) rfl rfl rfl rfl (by first | (simp [go_sem, sEv, sLook, nbeq, i64_w]; done) | (simp [go_sem, sEv, sLook, nbeq, i64_w] <;> cases h0_ : decide ((afE arm fail) = some 5) <;> cases h1_ : (arm == 0) <;> rfl)) ?_
              refine rw_val (v := .bool ((decide ((afE arm fail) = some 5)) == (arm == 0))) (w' := w197) rfl rfl rfl rfl (by simp [go_sem, sEv, sLook, nbeq, i64_w]) ?_
              refine rw_val (v := .bool ((decide ((afE arm fail) = some 5)) == (arm == 0))) (w' := w197) rfl rfl rfl rfl rfl ?_
              have hq201 : ((decide ((afE arm fail) = some 5)) == (arm == 0)) = true := by exact af_eq5 arm fail
              refine rw_on (c := ((decide ((afE arm fail) = some 5)) == (arm == 0))) rfl rfl rfl (by first | (rw [hq201]; rfl) | simp [hq201]) ?_
              refine rw_val (v := errT (afE arm fail)) (w' := w197) rfl rfl rfl rfl rfl ?_
              refine rw_on (c := ((decide ((afE arm fail) = some 5)) == (arm == 0))) rfl rfl rfl (by first | (rw [hq201]; rfl) | simp [hq201]) ?_
              refine rw_val (v := errT (some 6)) (w' := w197) rfl rfl rfl rfl (by simp [go_sem, sEv, sLook, nbeq, i64_w, errT]) ?_
              refine rw_on (c := ((decide ((afE arm fail) = some 5)) == (arm == 0))) rfl rfl rfl (by first | (rw [hq201]; rfl) | simp [hq201]) ?_
              refine rw_val (v := .bool (decide ((afE arm fail) = some 6))) (w' := w197) rfl rfl rfl rfl (run_as (guard_err_eql _ _ (afE arm fail) 6 _)) ?_
              refine rw_on (c := ((decide ((afE arm fail) = some 5)) == (arm == 0))) rfl rfl rfl (by first | (rw [hq201]; rfl) | simp [hq201]) ?_
              refine rw_val (v := .int .i64 arm) (w' := w197) rfl rfl rfl rfl rfl ?_
              refine rw_on (c := ((decide ((afE arm fail) = some 5)) == (arm == 0))) rfl rfl rfl (by first | (rw [hq201]; rfl) | simp [hq201]) ?_
              refine rw_val (v := .bool (arm != 0)) (w' := w197) rfl rfl rfl rfl (by simp [go_sem, sEv, sLook, nbeq, i64_w]) ?_
              refine rw_on (c := ((decide ((afE arm fail) = some 5)) == (arm == 0))) rfl rfl rfl (by first | (rw [hq201]; rfl) | simp [hq201]) ?_
              refine rw_val (v := .bool (arm != 0)) (w' := w197) rfl rfl rfl rfl rfl ?_
              rcases bcase (arm != 0) with cA0 | cA0
              · refine rw_off (c := (arm != 0)) rfl rfl rfl (by first | (rw [cA0]; rfl) | simp [cA0]) rfl rfl ?_
                refine rw_off (c := (arm != 0)) rfl rfl rfl (by first | (rw [cA0]; rfl) | simp [cA0]) rfl rfl ?_
                refine rw_on (c := ((decide ((afE arm fail) = some 5)) == (arm == 0))) rfl rfl rfl (by first | (rw [hq201]; rfl) | simp [hq201]) ?_
                refine rw_val (v := .bool false) (w' := w197) rfl rfl rfl rfl (by first | (simp [go_sem, sEv, sLook, nbeq, i64_w, cA0]; done) | (simp [go_sem, sEv, sLook, nbeq, i64_w] <;> omega) | (simp [go_sem, sEv, sLook, nbeq, i64_w]; intro h_; exact absurd (by omega) h_) | (rw [cA0])) ?_
                refine rw_on (c := ((decide ((afE arm fail) = some 5)) == (arm == 0))) rfl rfl rfl (by first | (rw [hq201]; rfl) | simp [hq201]) ?_
                refine rw_val (v := .bool ((decide ((afE arm fail) = some 6)) == false)) (w' := w197) rfl rfl rfl rfl (by first | (simp [go_sem, sEv, sLook, nbeq, i64_w]; done) | (simp [go_sem, sEv, sLook, nbeq, i64_w] <;> cases h0_ : decide ((afE arm fail) = some 6) <;> rfl)) ?_
                refine rw_val (v := .bool ((decide ((afE arm fail) = some 6)) == false)) (w' := w197) rfl rfl rfl rfl (by first | (simp [go_sem, sEv, sLook, nbeq, i64_w, hq201]; done) | (simp [go_sem, sEv, sLook, nbeq, i64_w] <;> omega) | (simp [go_sem, sEv, sLook, nbeq, i64_w]; intro h_; exact absurd (by omega) h_) | (rw [hq201])) ?_
                refine rw_val (v := .bool ((decide ((afE arm fail) = some 6)) == false)) (w' := w197) rfl rfl rfl rfl rfl ?_
                refine rw_end ?_
                refine w_weaken (G' := [(8, .bool ((decide ((afE arm fail) = some 6)) == false))]) ⟨rfl, trivial⟩ ?_
                have hq202 : ((decide ((afE arm fail) = some 6)) == false) = true := by exact af_eq6' cA0
                refine w_ret (post_ret1 rfl rfl ?_)
                exact ⟨by simp only [hq202], (chain hT192.1 hB199)⟩
              · refine rw_on (c := (arm != 0)) rfl rfl rfl (by first | (rw [cA0]; rfl) | simp [cA0]) ?_
                refine rw_val (v := .int .i64 fail) (w' := w197) rfl rfl rfl rfl rfl ?_
                refine rw_on (c := (arm != 0)) rfl rfl rfl (by first | (rw [cA0]; rfl) | simp [cA0]) ?_
                refine rw_val (v := .bool (fail == 0)) (w' := w197) rfl rfl rfl rfl (by simp [go_sem, sEv, sLook, nbeq, i64_w]) ?_
                refine rw_on (c := ((decide ((afE arm fail) = some 5)) == (arm == 0))) rfl rfl rfl (by first | (rw [hq201]; rfl) | simp [hq201]) ?_
                refine rw_val (v := .bool (fail == 0)) (w' := w197) rfl rfl rfl rfl (by first | (simp [go_sem, sEv, sLook, nbeq, i64_w, cA0]; done) | (simp [go_sem, sEv, sLook, nbeq, i64_w] <;> omega) | (simp [go_sem, sEv, sLook, nbeq, i64_w]; intro h_; exact absurd (by omega) h_) | (rw [cA0])) ?_
                refine rw_on (c := ((decide ((afE arm fail) = some 5)) == (arm == 0))) rfl rfl rfl (by first | (rw [hq201]; rfl) | simp [hq201]) ?_
                refine rw_val (v := .bool ((decide ((afE arm fail) = some 6)) == (fail == 0))) (w' := w197) rfl rfl rfl rfl (by first | (simp [go_sem, sEv, sLook, nbeq, i64_w]; done) | (simp [go_sem, sEv, sLook, nbeq, i64_w] <;> cases h0_ : decide ((afE arm fail) = some 6) <;> cases h1_ : (fail == 0) <;> rfl)) ?_
                refine rw_val (v := .bool ((decide ((afE arm fail) = some 6)) == (fail == 0))) (w' := w197) rfl rfl rfl rfl (by first | (simp [go_sem, sEv, sLook, nbeq, i64_w, hq201]; done) | (simp [go_sem, sEv, sLook, nbeq, i64_w] <;> omega) | (simp [go_sem, sEv, sLook, nbeq, i64_w]; intro h_; exact absurd (by omega) h_) | (rw [hq201])) ?_
                refine rw_val (v := .bool ((decide ((afE arm fail) = some 6)) == (fail == 0))) (w' := w197) rfl rfl rfl rfl rfl ?_
                refine rw_end ?_
                refine w_weaken (G' := [(8, .bool ((decide ((afE arm fail) = some 6)) == (fail == 0)))]) ⟨rfl, trivial⟩ ?_
                have hq203 : ((decide ((afE arm fail) = some 6)) == (fail == 0)) = true := by exact af_eq6 cA0
                refine w_ret (post_ret1 rfl rfl ?_)
                exact ⟨by simp only [hq203], (chain hT192.1 hB199)⟩
          · refine w_skip ?_
            refine w_seq ?_
            refine w_region ?_
            refine rw_val (v := .pointer (some ⟨g3, 0, none⟩)) (w' := w161) rfl rfl rfl rfl rfl ?_
            refine rw_call rfl rfl rfl rfl (f := 14) (args := #[.pointer (some ⟨g3, 0, none⟩), .int .i64 0]) (by simp [go_sem, sEv, sLook, nbeq, i64_w]) (crash_af w w161 g3 w161.heap.size _ hT163 hk164 l1 l1 (by rw [hX165, if_neg (by rw [cE]; decide)]) (by rw [hU166, if_neg (by rw [cE]; decide)]) (by simp)) ?_
            rintro e_ w204 ⟨rfl, hT205, hs206⟩
            refine ⟨.tuple #[], rfl, ?_⟩
            have hs_w204 := hT205.1.size
            refine rw_end ?_
            refine w_seq ?_
            refine w_region ?_
            refine rw_val (v := .pointer (some ⟨g3, 0, none⟩)) (w' := w204) rfl rfl rfl rfl rfl ?_
            refine rw_call rfl rfl rfl rfl (f := 15) (args := #[.pointer (some ⟨g3, 0, none⟩)]) (by simp [go_sem, sEv, sLook, nbeq, i64_w]) (read_T w w204 g3 w204.heap.size _ hT205 (pl_ok hk164.steps (by simp) (by have hl0_ := of_decide_eq_false cB0; have hl1_ := of_decide_eq_false cB1; omega))) ?_
            rintro e_ w210 ⟨A207, n208, c209, rfl, hO211, hB212⟩
            refine ⟨_, rfl, ?_⟩
            have hs_w210 := hB212.size
            have hL213 : Own .u8 5 w210 w.heap.size w204.heap.size A207 n208 c209 l1 := Own.lower hO211 (by omega)
            refine rw_val (v := .string (strOfNums l1)) (w' := w210) rfl rfl rfl rfl (run_as (run_str_of (P := Try.prog) (e := 5) (by kernel_rfl) (by kernel_rfl) (by kernel_rfl) (show (Kd.int .u8).C _ _ n208 l1 by rw [hL213.len]; exact (Own.C (hL213.on (Below.refl _ _)))))) ?_
            refine rw_val (v := .string (strOfNums l1)) (w' := w210) rfl rfl rfl rfl rfl ?_
            refine rw_val (v := .bool true) (w' := w210) rfl rfl rfl rfl (run_bool (run_as (run_str_eql 9 _ _ _)) (by simp)) ?_
            refine rw_val (v := .bool true) (w' := w210) rfl rfl rfl rfl rfl ?_
            refine rw_on (c := true) rfl rfl rfl rfl ?_
            refine rw_val (v := errT (afE arm fail)) (w' := w210) rfl rfl rfl rfl rfl ?_
            refine rw_on (c := true) rfl rfl rfl rfl ?_
            refine rw_val (v := errT (some 5)) (w' := w210) rfl rfl rfl rfl (by simp [go_sem, sEv, sLook, nbeq, i64_w, errT]) ?_
            refine rw_on (c := true) rfl rfl rfl rfl ?_
            refine rw_val (v := .bool (decide ((afE arm fail) = some 5))) (w' := w210) rfl rfl rfl rfl (run_as (guard_err_eql _ _ (afE arm fail) 5 _)) ?_
            refine rw_on (c := true) rfl rfl rfl rfl ?_
            refine rw_val (v := .int .i64 arm) (w' := w210) rfl rfl rfl rfl rfl ?_
            refine rw_on (c := true) rfl rfl rfl rfl ?_
            refine rw_val (v := .bool (arm == 0)) (w' := w210) rfl rfl rfl rfl (by simp [go_sem, sEv, sLook, nbeq, i64_w]) ?_
            refine rw_on (c := true) rfl rfl rfl rfl ?_
            refine rw_val (v := .bool ((decide ((afE arm fail) = some 5)) == (arm == 0))) (w' := w210) rfl rfl rfl rfl (by first | (simp [go_sem, sEv, sLook, nbeq, i64_w]; done) | (simp [go_sem, sEv, sLook, nbeq, i64_w] <;> cases h0_ : decide ((afE arm fail) = some 5) <;> cases h1_ : (arm == 0) <;> rfl)) ?_
            refine rw_val (v := .bool ((decide ((afE arm fail) = some 5)) == (arm == 0))) (w' := w210) rfl rfl rfl rfl (by simp [go_sem, sEv, sLook, nbeq, i64_w]) ?_
            refine rw_val (v := .bool ((decide ((afE arm fail) = some 5)) == (arm == 0))) (w' := w210) rfl rfl rfl rfl rfl ?_
            have hq214 : ((decide ((afE arm fail) = some 5)) == (arm == 0)) = true := by exact af_eq5 arm fail
            refine rw_on (c := ((decide ((afE arm fail) = some 5)) == (arm == 0))) rfl rfl rfl (by first | (rw [hq214]; rfl) | simp [hq214]) ?_
            refine rw_val (v := errT (afE arm fail)) (w' := w210) rfl rfl rfl rfl rfl ?_
            refine rw_on (c := ((decide ((afE arm fail) = some 5)) == (arm == 0))) rfl rfl rfl (by first | (rw [hq214]; rfl) | simp [hq214]) ?_
            refine rw_val (v := errT (some 6)) (w' := w210) rfl rfl rfl rfl (by simp [go_sem, sEv, sLook, nbeq, i64_w, errT]) ?_
            refine rw_on (c := ((decide ((afE arm fail) = some 5)) == (arm == 0))) rfl rfl rfl (by first | (rw [hq214]; rfl) | simp [hq214]) ?_
            refine rw_val (v := .bool (decide ((afE arm fail) = some 6))) (w' := w210) rfl rfl rfl rfl (run_as (guard_err_eql _ _ (afE arm fail) 6 _)) ?_
            refine rw_on (c := ((decide ((afE arm fail) = some 5)) == (arm == 0))) rfl rfl rfl (by first | (rw [hq214]; rfl) | simp [hq214]) ?_
            refine rw_val (v := .int .i64 arm) (w' := w210) rfl rfl rfl rfl rfl ?_
            refine rw_on (c := ((decide ((afE arm fail) = some 5)) == (arm == 0))) rfl rfl rfl (by first | (rw [hq214]; rfl) | simp [hq214]) ?_
            refine rw_val (v := .bool (arm != 0)) (w' := w210) rfl rfl rfl rfl (by simp [go_sem, sEv, sLook, nbeq, i64_w]) ?_
            refine rw_on (c := ((decide ((afE arm fail) = some 5)) == (arm == 0))) rfl rfl rfl (by first | (rw [hq214]; rfl) | simp [hq214]) ?_
            refine rw_val (v := .bool (arm != 0)) (w' := w210) rfl rfl rfl rfl rfl ?_
            rcases bcase (arm != 0) with cA0 | cA0
            · refine rw_off (c := (arm != 0)) rfl rfl rfl (by first | (rw [cA0]; rfl) | simp [cA0]) rfl rfl ?_
              refine rw_off (c := (arm != 0)) rfl rfl rfl (by first | (rw [cA0]; rfl) | simp [cA0]) rfl rfl ?_
              refine rw_on (c := ((decide ((afE arm fail) = some 5)) == (arm == 0))) rfl rfl rfl (by first | (rw [hq214]; rfl) | simp [hq214]) ?_
              refine rw_val (v := .bool false) (w' := w210) rfl rfl rfl rfl (by first | (simp [go_sem, sEv, sLook, nbeq, i64_w, cA0]; done) | (simp [go_sem, sEv, sLook, nbeq, i64_w] <;> omega) | (simp [go_sem, sEv, sLook, nbeq, i64_w]; intro h_; exact absurd (by omega) h_) | (rw [cA0])) ?_
              refine rw_on (c := ((decide ((afE arm fail) = some 5)) == (arm == 0))) rfl rfl rfl (by first | (rw [hq214]; rfl) | simp [hq214]) ?_
              refine rw_val (v := .bool ((decide ((afE arm fail) = some 6)) == false)) (w' := w210) rfl rfl rfl rfl (by first | (simp [go_sem, sEv, sLook, nbeq, i64_w]; done) | (simp [go_sem, sEv, sLook, nbeq, i64_w] <;> cases h0_ : decide ((afE arm fail) = some 6) <;> rfl)) ?_
              refine rw_val (v := .bool ((decide ((afE arm fail) = some 6)) == false)) (w' := w210) rfl rfl rfl rfl (by first | (simp [go_sem, sEv, sLook, nbeq, i64_w, hq214]; done) | (simp [go_sem, sEv, sLook, nbeq, i64_w] <;> omega) | (simp [go_sem, sEv, sLook, nbeq, i64_w]; intro h_; exact absurd (by omega) h_) | (rw [hq214])) ?_
              refine rw_val (v := .bool ((decide ((afE arm fail) = some 6)) == false)) (w' := w210) rfl rfl rfl rfl rfl ?_
              refine rw_end ?_
              refine w_weaken (G' := [(8, .bool ((decide ((afE arm fail) = some 6)) == false))]) ⟨rfl, trivial⟩ ?_
              have hq215 : ((decide ((afE arm fail) = some 6)) == false) = true := by exact af_eq6' cA0
              refine w_ret (post_ret1 rfl rfl ?_)
              exact ⟨by simp only [hq215], (chain hT205.1 hB212)⟩
            · refine rw_on (c := (arm != 0)) rfl rfl rfl (by first | (rw [cA0]; rfl) | simp [cA0]) ?_
              refine rw_val (v := .int .i64 fail) (w' := w210) rfl rfl rfl rfl rfl ?_
              refine rw_on (c := (arm != 0)) rfl rfl rfl (by first | (rw [cA0]; rfl) | simp [cA0]) ?_
              refine rw_val (v := .bool (fail == 0)) (w' := w210) rfl rfl rfl rfl (by simp [go_sem, sEv, sLook, nbeq, i64_w]) ?_
              refine rw_on (c := ((decide ((afE arm fail) = some 5)) == (arm == 0))) rfl rfl rfl (by first | (rw [hq214]; rfl) | simp [hq214]) ?_
              refine rw_val (v := .bool (fail == 0)) (w' := w210) rfl rfl rfl rfl (by first | (simp [go_sem, sEv, sLook, nbeq, i64_w, cA0]; done) | (simp [go_sem, sEv, sLook, nbeq, i64_w] <;> omega) | (simp [go_sem, sEv, sLook, nbeq, i64_w]; intro h_; exact absurd (by omega) h_) | (rw [cA0])) ?_
              refine rw_on (c := ((decide ((afE arm fail) = some 5)) == (arm == 0))) rfl rfl rfl (by first | (rw [hq214]; rfl) | simp [hq214]) ?_
              refine rw_val (v := .bool ((decide ((afE arm fail) = some 6)) == (fail == 0))) (w' := w210) rfl rfl rfl rfl (by first | (simp [go_sem, sEv, sLook, nbeq, i64_w]; done) | (simp [go_sem, sEv, sLook, nbeq, i64_w] <;> cases h0_ : decide ((afE arm fail) = some 6) <;> cases h1_ : (fail == 0) <;> rfl)) ?_
              refine rw_val (v := .bool ((decide ((afE arm fail) = some 6)) == (fail == 0))) (w' := w210) rfl rfl rfl rfl (by first | (simp [go_sem, sEv, sLook, nbeq, i64_w, hq214]; done) | (simp [go_sem, sEv, sLook, nbeq, i64_w] <;> omega) | (simp [go_sem, sEv, sLook, nbeq, i64_w]; intro h_; exact absurd (by omega) h_) | (rw [hq214])) ?_
              refine rw_val (v := .bool ((decide ((afE arm fail) = some 6)) == (fail == 0))) (w' := w210) rfl rfl rfl rfl rfl ?_
              refine rw_end ?_
              refine w_weaken (G' := [(8, .bool ((decide ((afE arm fail) = some 6)) == (fail == 0)))]) ⟨rfl, trivial⟩ ?_
              have hq216 : ((decide ((afE arm fail) = some 6)) == (fail == 0)) = true := by exact af_eq6 cA0
              refine w_ret (post_ret1 rfl rfl ?_)
              exact ⟨by simp only [hq216], (chain hT205.1 hB212)⟩
        · refine w_skip ?_
          refine w_seq ?_
          refine w_region ?_
          refine rw_val (v := .pointer (some ⟨g3, 0, none⟩)) (w' := w37) rfl rfl rfl rfl rfl ?_
          refine rw_val (v := .slice X1 l1.length d1) (w' := w37) rfl rfl rfl rfl rfl ?_
          have hgm_ := hT38_.2.2.1
          have hA224 : TapeAt w w37 g3 w37.heap.size (AF arm fail (l0 ++ [109, 111, 114, 101]) (l0.length : Int) 3) := by have h_ := hT38_; simpa [AF, pl, cArm, cFail] using h_
          have hl0_ := of_decide_eq_false cB0
          have hl1_ := of_decide_eq_false cB1
          refine rw_call rfl rfl rfl rfl (f := 18) (args := #[.pointer (some ⟨g3, 0, none⟩), .slice X1 l1.length d1]) (by simp [go_sem, sEv, sLook, nbeq, i64_w]) (replace_af w w37 g3 w37.heap.size arm fail _ _ _ hA224 bA bF (by omega) (by simp; try omega) (by simp; omega) _ l1 d1 (Kd.C_kept_came (Kd.heap_int _) h1 hT38_.1 (fun k hk => by omega)) (by omega)) ?_
          rintro e_ w217 ⟨rfl, ⟨s218, hT219, hk220, hX221, hU222⟩, hs223⟩
          refine ⟨_, rfl, ?_⟩
          have hs_w217 := hT219.1.size
          refine rw_val (v := errT (afE arm fail)) (w' := w217) rfl rfl rfl rfl rfl ?_
          refine rw_end ?_
          refine w_weaken (G' := [(0, .slice X0 l0.length d0), (1, .slice X1 l1.length d1), (2, .int .i64 arm), (3, .int .i64 fail), (8, .bool false), (9, .pointer (some ⟨g3, 0, none⟩)), (10, errT (afE arm fail))]) ⟨rfl, rfl, rfl, rfl, rfl, rfl, rfl, trivial⟩ ?_
          refine w_seq ?_
          refine w_region ?_
          refine rw_val (v := .slice X1 l1.length d1) (w' := w217) rfl rfl rfl rfl rfl ?_
          refine rw_val (v := .string (strOfNums l1)) (w' := w217) rfl rfl rfl rfl (run_as (run_str_of (P := Try.prog) (e := 5) (by kernel_rfl) (by kernel_rfl) (by kernel_rfl) (Kd.C_below h1 hT219.1))) ?_
          refine rw_val (v := .string (strOfNums l1)) (w' := w217) rfl rfl rfl rfl rfl ?_
          refine rw_end ?_
          refine w_seq ?_
          refine w_seq ?_
          refine w_region ?_
          refine rw_val (v := errT (afE arm fail)) (w' := w217) rfl rfl rfl rfl rfl ?_
          refine rw_val (v := .bool ((afE arm fail).isSome)) (w' := w217) rfl rfl rfl rfl (run_as (guard_err_neq _ (afE arm fail) _)) ?_
          refine rw_end ?_
          refine w_cond rfl rfl (fun cE => ?_) (fun cE => ?_)
          · refine w_seq ?_
            refine w_region ?_
            refine rw_val (v := .slice X0 l0.length d0) (w' := w217) rfl rfl rfl rfl rfl ?_
            refine rw_val (v := .string (strOfNums l0)) (w' := w217) rfl rfl rfl rfl (run_as (run_str_of (P := Try.prog) (e := 5) (by kernel_rfl) (by kernel_rfl) (by kernel_rfl) (Kd.C_below h0 hT219.1))) ?_
            refine rw_val (v := .string (strOfNums l0)) (w' := w217) rfl rfl rfl rfl rfl ?_
            refine rw_end ?_
            refine w_seq ?_
            rcases bcase (decide ((afE arm fail) = some 6)) with cD | cD
            · refine w_draw (M := [0, 0, 3, 7, 15, 31, 63, 15, 143, 399, 1023, 2047]) (ss := [Is (errT (afE arm fail)), Is (errT (some 6)), Is (.bool (decide ((afE arm fail) = some 6))), Is (.bool (decide ((afE arm fail) = some 6))), Is undef, Is undef, Is undef, Is undef, Is undef, Is undef, Is undef, Is (.bool false)]) rfl (by decide +kernel) ?_
              refine t_is (errT (afE arm fail)) rfl rfl rfl rfl (fun W_ hW_ F_ => rfl) ?_
              refine t_is (errT (some 6)) rfl rfl rfl rfl (fun W_ hW_ F_ => (by simp [go_sem, sEv, sLook, nbeq, i64_w, errT])) ?_
              refine t_is (.bool (decide ((afE arm fail) = some 6))) rfl rfl rfl rfl (fun W_ hW_ F_ => (run_as (guard_err_eql _ _ (afE arm fail) 6 _))) ?_
              refine t_is (.bool (decide ((afE arm fail) = some 6))) rfl rfl rfl rfl (fun W_ hW_ F_ => rfl) ?_
              refine t_off (c := decide ((afE arm fail) = some 6)) rfl rfl rfl (by first | (rw [cD]; rfl) | simp [cD]) rfl rfl ?_
              refine t_off (c := decide ((afE arm fail) = some 6)) rfl rfl rfl (by first | (rw [cD]; rfl) | simp [cD]) rfl rfl ?_
              refine t_off (c := decide ((afE arm fail) = some 6)) rfl rfl rfl (by first | (rw [cD]; rfl) | simp [cD]) rfl rfl ?_
              refine t_off (c := decide ((afE arm fail) = some 6)) rfl rfl rfl (by first | (rw [cD]; rfl) | simp [cD]) rfl rfl ?_
              refine t_off (c := decide ((afE arm fail) = some 6)) rfl rfl rfl (by first | (rw [cD]; rfl) | simp [cD]) rfl rfl ?_
              refine t_off (c := decide ((afE arm fail) = some 6)) rfl rfl rfl (by first | (rw [cD]; rfl) | simp [cD]) rfl rfl ?_
              refine t_off (c := decide ((afE arm fail) = some 6)) rfl rfl rfl (by first | (rw [cD]; rfl) | simp [cD]) rfl rfl ?_
              refine t_is (.bool false) rfl rfl rfl rfl (fun W_ hW_ F_ => by first | (simp [go_sem, sEv, sLook, nbeq, i64_w, cD]; done) | (simp [go_sem, sEv, sLook, nbeq, i64_w] <;> omega) | (simp [go_sem, sEv, sLook, nbeq, i64_w]; intro h_; exact absurd (by omega) h_) | (rw [cD])) ?_
              refine t_end ?_
              intro w225 hb226_ F227
              have hb226 := below_of_drew hb226_
              have hs_w225 := hb226.size
              refine w_weaken (G' := [(2, .int .i64 arm), (3, .int .i64 fail), (8, .bool false), (9, .pointer (some ⟨g3, 0, none⟩)), (10, errT (afE arm fail)), (11, .string (strOfNums l0)), (71, .bool false)]) ⟨rfl, rfl, rfl, rfl, rfl, rfl, rfl, trivial⟩ ?_
              refine w_cond_f rfl rfl rfl ?_
              refine w_skip ?_
              refine w_seq ?_
              refine w_region ?_
              refine rw_val (v := .pointer (some ⟨g3, 0, none⟩)) (w' := w225) rfl rfl rfl rfl rfl ?_
              refine rw_call rfl rfl rfl rfl (f := 14) (args := #[.pointer (some ⟨g3, 0, none⟩), .int .i64 0]) (by simp [go_sem, sEv, sLook, nbeq, i64_w]) (crash_af w w225 g3 w217.heap.size _ (TapeAt.on hT219 hb226) hk220 (l0 ++ [109, 111, 114, 101]) l0 (by rw [hX221, if_pos cE]) (by rw [hU222, if_pos cE]) (by simp)) ?_
              rintro e_ w228 ⟨rfl, hT229, hs230⟩
              refine ⟨.tuple #[], rfl, ?_⟩
              have hs_w228 := hT229.1.size
              refine rw_end ?_
              refine w_seq ?_
              refine w_region ?_
              refine rw_val (v := .pointer (some ⟨g3, 0, none⟩)) (w' := w228) rfl rfl rfl rfl rfl ?_
              refine rw_call rfl rfl rfl rfl (f := 15) (args := #[.pointer (some ⟨g3, 0, none⟩)]) (by simp [go_sem, sEv, sLook, nbeq, i64_w]) (read_T w w228 g3 w228.heap.size _ hT229 (pl_ok hk220.steps (by simp) (by have hl0_ := of_decide_eq_false cB0; have hl1_ := of_decide_eq_false cB1; omega))) ?_
              rintro e_ w234 ⟨A231, n232, c233, rfl, hO235, hB236⟩
              refine ⟨_, rfl, ?_⟩
              have hs_w234 := hB236.size
              have hL237 : Own .u8 5 w234 w.heap.size w228.heap.size A231 n232 c233 l0 := Own.lower hO235 (by omega)
              refine rw_val (v := .string (strOfNums l0)) (w' := w234) rfl rfl rfl rfl (run_as (run_str_of (P := Try.prog) (e := 5) (by kernel_rfl) (by kernel_rfl) (by kernel_rfl) (show (Kd.int .u8).C _ _ n232 l0 by rw [hL237.len]; exact (Own.C (hL237.on (Below.refl _ _)))))) ?_
              refine rw_val (v := .string (strOfNums l0)) (w' := w234) rfl rfl rfl rfl rfl ?_
              refine rw_val (v := .bool true) (w' := w234) rfl rfl rfl rfl (run_bool (run_as (run_str_eql 9 _ _ _)) (by simp)) ?_
              refine rw_val (v := .bool true) (w' := w234) rfl rfl rfl rfl rfl ?_
              refine rw_on (c := true) rfl rfl rfl rfl ?_
              refine rw_val (v := errT (afE arm fail)) (w' := w234) rfl rfl rfl rfl rfl ?_
              refine rw_on (c := true) rfl rfl rfl rfl ?_
              refine rw_val (v := errT (some 5)) (w' := w234) rfl rfl rfl rfl (by simp [go_sem, sEv, sLook, nbeq, i64_w, errT]) ?_
              refine rw_on (c := true) rfl rfl rfl rfl ?_
              refine rw_val (v := .bool (decide ((afE arm fail) = some 5))) (w' := w234) rfl rfl rfl rfl (run_as (guard_err_eql _ _ (afE arm fail) 5 _)) ?_
              refine rw_on (c := true) rfl rfl rfl rfl ?_
              refine rw_val (v := .int .i64 arm) (w' := w234) rfl rfl rfl rfl rfl ?_
              refine rw_on (c := true) rfl rfl rfl rfl ?_
              refine rw_val (v := .bool (arm == 0)) (w' := w234) rfl rfl rfl rfl (by simp [go_sem, sEv, sLook, nbeq, i64_w]) ?_
              refine rw_on (c := true) rfl rfl rfl rfl ?_
              refine rw_val (v := .bool ((decide ((afE arm fail) = some 5)) == (arm == 0))) (w' := w234) rfl rfl rfl rfl (by first | (simp [go_sem, sEv, sLook, nbeq, i64_w]; done) | (simp [go_sem, sEv, sLook, nbeq, i64_w] <;> cases h0_ : decide ((afE arm fail) = some 5) <;> cases h1_ : (arm == 0) <;> rfl)) ?_
              refine rw_val (v := .bool ((decide ((afE arm fail) = some 5)) == (arm == 0))) (w' := w234) rfl rfl rfl rfl (by simp [go_sem, sEv, sLook, nbeq, i64_w]) ?_
              refine rw_val (v := .bool ((decide ((afE arm fail) = some 5)) == (arm == 0))) (w' := w234) rfl rfl rfl rfl rfl ?_
              have hq238 : ((decide ((afE arm fail) = some 5)) == (arm == 0)) = true := by exact af_eq5 arm fail
              refine rw_on (c := ((decide ((afE arm fail) = some 5)) == (arm == 0))) rfl rfl rfl (by first | (rw [hq238]; rfl) | simp [hq238]) ?_
              refine rw_val (v := errT (afE arm fail)) (w' := w234) rfl rfl rfl rfl rfl ?_
              refine rw_on (c := ((decide ((afE arm fail) = some 5)) == (arm == 0))) rfl rfl rfl (by first | (rw [hq238]; rfl) | simp [hq238]) ?_
              refine rw_val (v := errT (some 6)) (w' := w234) rfl rfl rfl rfl (by simp [go_sem, sEv, sLook, nbeq, i64_w, errT]) ?_
              refine rw_on (c := ((decide ((afE arm fail) = some 5)) == (arm == 0))) rfl rfl rfl (by first | (rw [hq238]; rfl) | simp [hq238]) ?_
              refine rw_val (v := .bool (decide ((afE arm fail) = some 6))) (w' := w234) rfl rfl rfl rfl (run_as (guard_err_eql _ _ (afE arm fail) 6 _)) ?_
              refine rw_on (c := ((decide ((afE arm fail) = some 5)) == (arm == 0))) rfl rfl rfl (by first | (rw [hq238]; rfl) | simp [hq238]) ?_
              refine rw_val (v := .int .i64 arm) (w' := w234) rfl rfl rfl rfl rfl ?_
              refine rw_on (c := ((decide ((afE arm fail) = some 5)) == (arm == 0))) rfl rfl rfl (by first | (rw [hq238]; rfl) | simp [hq238]) ?_
              refine rw_val (v := .bool (arm != 0)) (w' := w234) rfl rfl rfl rfl (by simp [go_sem, sEv, sLook, nbeq, i64_w]) ?_
              refine rw_on (c := ((decide ((afE arm fail) = some 5)) == (arm == 0))) rfl rfl rfl (by first | (rw [hq238]; rfl) | simp [hq238]) ?_
              refine rw_val (v := .bool (arm != 0)) (w' := w234) rfl rfl rfl rfl rfl ?_
              rcases bcase (arm != 0) with cA0 | cA0
              · refine rw_off (c := (arm != 0)) rfl rfl rfl (by first | (rw [cA0]; rfl) | simp [cA0]) rfl rfl ?_
                refine rw_off (c := (arm != 0)) rfl rfl rfl (by first | (rw [cA0]; rfl) | simp [cA0]) rfl rfl ?_
                refine rw_on (c := ((decide ((afE arm fail) = some 5)) == (arm == 0))) rfl rfl rfl (by first | (rw [hq238]; rfl) | simp [hq238]) ?_
                refine rw_val (v := .bool false) (w' := w234) rfl rfl rfl rfl (by first | (simp [go_sem, sEv, sLook, nbeq, i64_w, cA0]; done) | (simp [go_sem, sEv, sLook, nbeq, i64_w] <;> omega) | (simp [go_sem, sEv, sLook, nbeq, i64_w]; intro h_; exact absurd (by omega) h_) | (rw [cA0])) ?_
                refine rw_on (c := ((decide ((afE arm fail) = some 5)) == (arm == 0))) rfl rfl rfl (by first | (rw [hq238]; rfl) | simp [hq238]) ?_
                refine rw_val (v := .bool ((decide ((afE arm fail) = some 6)) == false)) (w' := w234) rfl rfl rfl rfl (by first | (simp [go_sem, sEv, sLook, nbeq, i64_w]; done) | (simp [go_sem, sEv, sLook, nbeq, i64_w] <;> cases h0_ : decide ((afE arm fail) = some 6) <;> rfl)) ?_
                refine rw_val (v := .bool ((decide ((afE arm fail) = some 6)) == false)) (w' := w234) rfl rfl rfl rfl (by first | (simp [go_sem, sEv, sLook, nbeq, i64_w, hq238]; done) | (simp [go_sem, sEv, sLook, nbeq, i64_w] <;> omega) | (simp [go_sem, sEv, sLook, nbeq, i64_w]; intro h_; exact absurd (by omega) h_) | (rw [hq238])) ?_
                refine rw_val (v := .bool ((decide ((afE arm fail) = some 6)) == false)) (w' := w234) rfl rfl rfl rfl rfl ?_
                refine rw_end ?_
                refine w_weaken (G' := [(8, .bool ((decide ((afE arm fail) = some 6)) == false))]) ⟨rfl, trivial⟩ ?_
                have hq239 : ((decide ((afE arm fail) = some 6)) == false) = true := by exact af_eq6' cA0
                refine w_ret (post_ret1 rfl rfl ?_)
                exact ⟨by simp only [hq239], (chain hT229.1 hB236)⟩
              · refine rw_on (c := (arm != 0)) rfl rfl rfl (by first | (rw [cA0]; rfl) | simp [cA0]) ?_
                refine rw_val (v := .int .i64 fail) (w' := w234) rfl rfl rfl rfl rfl ?_
                refine rw_on (c := (arm != 0)) rfl rfl rfl (by first | (rw [cA0]; rfl) | simp [cA0]) ?_
                refine rw_val (v := .bool (fail == 0)) (w' := w234) rfl rfl rfl rfl (by simp [go_sem, sEv, sLook, nbeq, i64_w]) ?_
                refine rw_on (c := ((decide ((afE arm fail) = some 5)) == (arm == 0))) rfl rfl rfl (by first | (rw [hq238]; rfl) | simp [hq238]) ?_
                refine rw_val (v := .bool (fail == 0)) (w' := w234) rfl rfl rfl rfl (by first | (simp [go_sem, sEv, sLook, nbeq, i64_w, cA0]; done) | (simp [go_sem, sEv, sLook, nbeq, i64_w] <;> omega) | (simp [go_sem, sEv, sLook, nbeq, i64_w]; intro h_; exact absurd (by omega) h_) | (rw [cA0])) ?_
                refine rw_on (c := ((decide ((afE arm fail) = some 5)) == (arm == 0))) rfl rfl rfl (by first | (rw [hq238]; rfl) | simp [hq238]) ?_
                refine rw_val (v := .bool ((decide ((afE arm fail) = some 6)) == (fail == 0))) (w' := w234) rfl rfl rfl rfl (by first | (simp [go_sem, sEv, sLook, nbeq, i64_w]; done) | (simp [go_sem, sEv, sLook, nbeq, i64_w] <;> cases h0_ : decide ((afE arm fail) = some 6) <;> cases h1_ : (fail == 0) <;> rfl)) ?_
                refine rw_val (v := .bool ((decide ((afE arm fail) = some 6)) == (fail == 0))) (w' := w234) rfl rfl rfl rfl (by first | (simp [go_sem, sEv, sLook, nbeq, i64_w, hq238]; done) | (simp [go_sem, sEv, sLook, nbeq, i64_w] <;> omega) | (simp [go_sem, sEv, sLook, nbeq, i64_w]; intro h_; exact absurd (by omega) h_) | (rw [hq238])) ?_
                refine rw_val (v := .bool ((decide ((afE arm fail) = some 6)) == (fail == 0))) (w' := w234) rfl rfl rfl rfl rfl ?_
                refine rw_end ?_
                refine w_weaken (G' := [(8, .bool ((decide ((afE arm fail) = some 6)) == (fail == 0)))]) ⟨rfl, trivial⟩ ?_
                have hq240 : ((decide ((afE arm fail) = some 6)) == (fail == 0)) = true := by exact af_eq6 cA0
                refine w_ret (post_ret1 rfl rfl ?_)
                exact ⟨by simp only [hq240], (chain hT229.1 hB236)⟩
            · refine w_draw (M := [0, 0, 3, 7, 15, 31, 63, 15, 143, 399, 1023, 2047]) (ss := [Is (errT (afE arm fail)), Is (errT (some 6)), Is (.bool (decide ((afE arm fail) = some 6))), Is (.bool (decide ((afE arm fail) = some 6))), Is (.pointer (some ⟨g3, 0, none⟩)), OwnSpec w.heap.size w217.heap.size (l0 ++ [109, 111, 114, 101]), Is (.string (strOfNums (l0 ++ [109, 111, 114, 101]))), Is (.slice X0 l0.length d0), Is (.string (strOfNums l0)), Is (.string (strOfNums l0 ++ (⟨#[109, 111, 114, 101]⟩ : ByteArray))), Is (.bool false), Is (.bool false)]) rfl (by decide +kernel) ?_
              refine t_is (errT (afE arm fail)) rfl rfl rfl rfl (fun W_ hW_ F_ => rfl) ?_
              refine t_is (errT (some 6)) rfl rfl rfl rfl (fun W_ hW_ F_ => (by simp [go_sem, sEv, sLook, nbeq, i64_w, errT])) ?_
              refine t_is (.bool (decide ((afE arm fail) = some 6))) rfl rfl rfl rfl (fun W_ hW_ F_ => (run_as (guard_err_eql _ _ (afE arm fail) 6 _))) ?_
              refine t_is (.bool (decide ((afE arm fail) = some 6))) rfl rfl rfl rfl (fun W_ hW_ F_ => rfl) ?_
              refine t_gis (c := decide ((afE arm fail) = some 6)) (.pointer (some ⟨g3, 0, none⟩)) rfl rfl rfl (by first | (rw [cD]; rfl) | simp [cD]) rfl rfl rfl (fun W_ hW_ F_ => rfl) ?_
              refine t_gcall (c := decide ((afE arm fail) = some 6)) (f := 15) (args := #[.pointer (some ⟨g3, 0, none⟩)]) (OwnSpec w.heap.size w217.heap.size (l0 ++ [109, 111, 114, 101])) rfl rfl rfl (by first | (rw [cD]; rfl) | simp [cD]) rfl rfl rfl (fun W_ => by simp [go_sem, sEv, sLook, nbeq, i64_w]) (fun W_ hW_ F_ => ?_) ?_
              · have hs_ := (below_of_drew hW_).size
                have hX_ : s218.xs = (l0 ++ [109, 111, 114, 101]) := by rw [hX221, if_pos cE]
                have h_ := read_T w W_ g3 w217.heap.size _ (TapeAt.on hT219 (below_of_drew hW_)) hk220
                rw [hX_] at h_
                refine h_.mono ?_
                rintro e_ w_ ⟨A_, n_, c_, rfl, hO_, hb_⟩
                exact ⟨_, rfl, ⟨A_, n_, c_, rfl, hO_.lower (by omega) |>.mono hs_⟩, hb_⟩
              rintro _ ⟨A241, n242, c243, rfl⟩
              refine t_gis (c := decide ((afE arm fail) = some 6)) (.string (strOfNums (l0 ++ [109, 111, 114, 101]))) rfl rfl rfl (by first | (rw [cD]; rfl) | simp [cD]) rfl rfl rfl (fun W_ hW_ F_ => by have hO_ := ownspec_fact (F_ 5 _ _ rfl rfl); exact run_as (run_str_of (P := Try.prog) (e := 5) (by kernel_rfl) (by kernel_rfl) (by kernel_rfl) (show (Kd.int .u8).C W_ A241 n242 (l0 ++ [109, 111, 114, 101]) by rw [hO_.len]; exact hO_.C))) ?_
              refine t_gis (c := decide ((afE arm fail) = some 6)) (.slice X0 l0.length d0) rfl rfl rfl (by first | (rw [cD]; rfl) | simp [cD]) rfl rfl rfl (fun W_ hW_ F_ => rfl) ?_
              refine t_gis (c := decide ((afE arm fail) = some 6)) (.string (strOfNums l0)) rfl rfl rfl (by first | (rw [cD]; rfl) | simp [cD]) rfl rfl rfl (fun W_ hW_ F_ => run_as (run_str_of (P := Try.prog) (e := 5) (by kernel_rfl) (by kernel_rfl) (by kernel_rfl) (Kd.C_below h0 (chain hT219.1 (below_of_drew hW_))))) ?_
              refine t_gis (c := decide ((afE arm fail) = some 6)) (.string (strOfNums l0 ++ (⟨#[109, 111, 114, 101]⟩ : ByteArray))) rfl rfl rfl (by first | (rw [cD]; rfl) | simp [cD]) rfl rfl rfl (fun W_ hW_ F_ => by simp [go_sem, sEv, sLook, nbeq, i64_w]; have hl0_ := of_decide_eq_false cB0; rw [strOfNums_size]; omega) ?_
              refine t_gis (c := decide ((afE arm fail) = some 6)) (.bool false) rfl rfl rfl (by first | (rw [cD]; rfl) | simp [cD]) rfl rfl rfl (fun W_ hW_ F_ => (run_bool (run_as (run_str_neq 9 _ _ _)) (by rw [strOfNums_app]; simp; rfl))) ?_
              refine t_is (.bool false) rfl rfl rfl rfl (fun W_ hW_ F_ => by first | (simp [go_sem, sEv, sLook, nbeq, i64_w, cD]; done) | (simp [go_sem, sEv, sLook, nbeq, i64_w] <;> omega) | (simp [go_sem, sEv, sLook, nbeq, i64_w]; intro h_; exact absurd (by omega) h_) | (rw [cD])) ?_
              refine t_end ?_
              intro w244 hb245_ F246
              have hb245 := below_of_drew hb245_
              have hs_w244 := hb245.size
              refine w_weaken (G' := [(2, .int .i64 arm), (3, .int .i64 fail), (8, .bool false), (9, .pointer (some ⟨g3, 0, none⟩)), (10, errT (afE arm fail)), (11, .string (strOfNums l0)), (71, .bool false)]) ⟨rfl, rfl, rfl, rfl, rfl, rfl, rfl, trivial⟩ ?_
              refine w_cond_f rfl rfl rfl ?_
              refine w_skip ?_
              refine w_seq ?_
              refine w_region ?_
              refine rw_val (v := .pointer (some ⟨g3, 0, none⟩)) (w' := w244) rfl rfl rfl rfl rfl ?_
              refine rw_call rfl rfl rfl rfl (f := 14) (args := #[.pointer (some ⟨g3, 0, none⟩), .int .i64 0]) (by simp [go_sem, sEv, sLook, nbeq, i64_w]) (crash_af w w244 g3 w217.heap.size _ (TapeAt.on hT219 hb245) hk220 (l0 ++ [109, 111, 114, 101]) l0 (by rw [hX221, if_pos cE]) (by rw [hU222, if_pos cE]) (by simp)) ?_
              rintro e_ w247 ⟨rfl, hT248, hs249⟩
              refine ⟨.tuple #[], rfl, ?_⟩
              have hs_w247 := hT248.1.size
              refine rw_end ?_
              refine w_seq ?_
              refine w_region ?_
              refine rw_val (v := .pointer (some ⟨g3, 0, none⟩)) (w' := w247) rfl rfl rfl rfl rfl ?_
              refine rw_call rfl rfl rfl rfl (f := 15) (args := #[.pointer (some ⟨g3, 0, none⟩)]) (by simp [go_sem, sEv, sLook, nbeq, i64_w]) (read_T w w247 g3 w247.heap.size _ hT248 (pl_ok hk220.steps (by simp) (by have hl0_ := of_decide_eq_false cB0; have hl1_ := of_decide_eq_false cB1; omega))) ?_
              rintro e_ w253 ⟨A250, n251, c252, rfl, hO254, hB255⟩
              refine ⟨_, rfl, ?_⟩
              have hs_w253 := hB255.size
              have hL256 : Own .u8 5 w253 w.heap.size w247.heap.size A250 n251 c252 l0 := Own.lower hO254 (by omega)
              refine rw_val (v := .string (strOfNums l0)) (w' := w253) rfl rfl rfl rfl (run_as (run_str_of (P := Try.prog) (e := 5) (by kernel_rfl) (by kernel_rfl) (by kernel_rfl) (show (Kd.int .u8).C _ _ n251 l0 by rw [hL256.len]; exact (Own.C (hL256.on (Below.refl _ _)))))) ?_
              refine rw_val (v := .string (strOfNums l0)) (w' := w253) rfl rfl rfl rfl rfl ?_
              refine rw_val (v := .bool true) (w' := w253) rfl rfl rfl rfl (run_bool (run_as (run_str_eql 9 _ _ _)) (by simp)) ?_
              refine rw_val (v := .bool true) (w' := w253) rfl rfl rfl rfl rfl ?_
              refine rw_on (c := true) rfl rfl rfl rfl ?_
              refine rw_val (v := errT (afE arm fail)) (w' := w253) rfl rfl rfl rfl rfl ?_
              refine rw_on (c := true) rfl rfl rfl rfl ?_
              refine rw_val (v := errT (some 5)) (w' := w253) rfl rfl rfl rfl (by simp [go_sem, sEv, sLook, nbeq, i64_w, errT]) ?_
              refine rw_on (c := true) rfl rfl rfl rfl ?_
              refine rw_val (v := .bool (decide ((afE arm fail) = some 5))) (w' := w253) rfl rfl rfl rfl (run_as (guard_err_eql _ _ (afE arm fail) 5 _)) ?_
              refine rw_on (c := true) rfl rfl rfl rfl ?_
              refine rw_val (v := .int .i64 arm) (w' := w253) rfl rfl rfl rfl rfl ?_
              refine rw_on (c := true) rfl rfl rfl rfl ?_
              refine rw_val (v := .bool (arm == 0)) (w' := w253) rfl rfl rfl rfl (by simp [go_sem, sEv, sLook, nbeq, i64_w]) ?_
              refine rw_on (c := true) rfl rfl rfl rfl ?_
              refine rw_val (v := .bool ((decide ((afE arm fail) = some 5)) == (arm == 0))) (w' := w253) rfl rfl rfl rfl (by first | (simp [go_sem, sEv, sLook, nbeq, i64_w]; done) | (simp [go_sem, sEv, sLook, nbeq, i64_w] <;> cases h0_ : decide ((afE arm fail) = some 5) <;> cases h1_ : (arm == 0) <;> rfl)) ?_
              refine rw_val (v := .bool ((decide ((afE arm fail) = some 5)) == (arm == 0))) (w' := w253) rfl rfl rfl rfl (by simp [go_sem, sEv, sLook, nbeq, i64_w]) ?_
              refine rw_val (v := .bool ((decide ((afE arm fail) = some 5)) == (arm == 0))) (w' := w253) rfl rfl rfl rfl rfl ?_
              have hq257 : ((decide ((afE arm fail) = some 5)) == (arm == 0)) = true := by exact af_eq5 arm fail
              refine rw_on (c := ((decide ((afE arm fail) = some 5)) == (arm == 0))) rfl rfl rfl (by first | (rw [hq257]; rfl) | simp [hq257]) ?_
              refine rw_val (v := errT (afE arm fail)) (w' := w253) rfl rfl rfl rfl rfl ?_
              refine rw_on (c := ((decide ((afE arm fail) = some 5)) == (arm == 0))) rfl rfl rfl (by first | (rw [hq257]; rfl) | simp [hq257]) ?_
              refine rw_val (v := errT (some 6)) (w' := w253) rfl rfl rfl rfl (by simp [go_sem, sEv, sLook, nbeq, i64_w, errT]) ?_
              refine rw_on (c := ((decide ((afE arm fail) = some 5)) == (arm == 0))) rfl rfl rfl (by first | (rw [hq257]; rfl) | simp [hq257]) ?_
              refine rw_val (v := .bool (decide ((afE arm fail) = some 6))) (w' := w253) rfl rfl rfl rfl (run_as (guard_err_eql _ _ (afE arm fail) 6 _)) ?_
              refine rw_on (c := ((decide ((afE arm fail) = some 5)) == (arm == 0))) rfl rfl rfl (by first | (rw [hq257]; rfl) | simp [hq257]) ?_
              refine rw_val (v := .int .i64 arm) (w' := w253) rfl rfl rfl rfl rfl ?_
              refine rw_on (c := ((decide ((afE arm fail) = some 5)) == (arm == 0))) rfl rfl rfl (by first | (rw [hq257]; rfl) | simp [hq257]) ?_
              refine rw_val (v := .bool (arm != 0)) (w' := w253) rfl rfl rfl rfl (by simp [go_sem, sEv, sLook, nbeq, i64_w]) ?_
              refine rw_on (c := ((decide ((afE arm fail) = some 5)) == (arm == 0))) rfl rfl rfl (by first | (rw [hq257]; rfl) | simp [hq257]) ?_
              refine rw_val (v := .bool (arm != 0)) (w' := w253) rfl rfl rfl rfl rfl ?_
              rcases bcase (arm != 0) with cA0 | cA0
              · refine rw_off (c := (arm != 0)) rfl rfl rfl (by first | (rw [cA0]; rfl) | simp [cA0]) rfl rfl ?_
                refine rw_off (c := (arm != 0)) rfl rfl rfl (by first | (rw [cA0]; rfl) | simp [cA0]) rfl rfl ?_
                refine rw_on (c := ((decide ((afE arm fail) = some 5)) == (arm == 0))) rfl rfl rfl (by first | (rw [hq257]; rfl) | simp [hq257]) ?_
                refine rw_val (v := .bool false) (w' := w253) rfl rfl rfl rfl (by first | (simp [go_sem, sEv, sLook, nbeq, i64_w, cA0]; done) | (simp [go_sem, sEv, sLook, nbeq, i64_w] <;> omega) | (simp [go_sem, sEv, sLook, nbeq, i64_w]; intro h_; exact absurd (by omega) h_) | (rw [cA0])) ?_
                refine rw_on (c := ((decide ((afE arm fail) = some 5)) == (arm == 0))) rfl rfl rfl (by first | (rw [hq257]; rfl) | simp [hq257]) ?_
                refine rw_val (v := .bool ((decide ((afE arm fail) = some 6)) == false)) (w' := w253) rfl rfl rfl rfl (by first | (simp [go_sem, sEv, sLook, nbeq, i64_w]; done) | (simp [go_sem, sEv, sLook, nbeq, i64_w] <;> cases h0_ : decide ((afE arm fail) = some 6) <;> rfl)) ?_
                refine rw_val (v := .bool ((decide ((afE arm fail) = some 6)) == false)) (w' := w253) rfl rfl rfl rfl (by first | (simp [go_sem, sEv, sLook, nbeq, i64_w, hq257]; done) | (simp [go_sem, sEv, sLook, nbeq, i64_w] <;> omega) | (simp [go_sem, sEv, sLook, nbeq, i64_w]; intro h_; exact absurd (by omega) h_) | (rw [hq257])) ?_
                refine rw_val (v := .bool ((decide ((afE arm fail) = some 6)) == false)) (w' := w253) rfl rfl rfl rfl rfl ?_
                refine rw_end ?_
                refine w_weaken (G' := [(8, .bool ((decide ((afE arm fail) = some 6)) == false))]) ⟨rfl, trivial⟩ ?_
                have hq258 : ((decide ((afE arm fail) = some 6)) == false) = true := by exact af_eq6' cA0
                refine w_ret (post_ret1 rfl rfl ?_)
                exact ⟨by simp only [hq258], (chain hT248.1 hB255)⟩
              · refine rw_on (c := (arm != 0)) rfl rfl rfl (by first | (rw [cA0]; rfl) | simp [cA0]) ?_
                refine rw_val (v := .int .i64 fail) (w' := w253) rfl rfl rfl rfl rfl ?_
                refine rw_on (c := (arm != 0)) rfl rfl rfl (by first | (rw [cA0]; rfl) | simp [cA0]) ?_
                refine rw_val (v := .bool (fail == 0)) (w' := w253) rfl rfl rfl rfl (by simp [go_sem, sEv, sLook, nbeq, i64_w]) ?_
                refine rw_on (c := ((decide ((afE arm fail) = some 5)) == (arm == 0))) rfl rfl rfl (by first | (rw [hq257]; rfl) | simp [hq257]) ?_
                refine rw_val (v := .bool (fail == 0)) (w' := w253) rfl rfl rfl rfl (by first | (simp [go_sem, sEv, sLook, nbeq, i64_w, cA0]; done) | (simp [go_sem, sEv, sLook, nbeq, i64_w] <;> omega) | (simp [go_sem, sEv, sLook, nbeq, i64_w]; intro h_; exact absurd (by omega) h_) | (rw [cA0])) ?_
                refine rw_on (c := ((decide ((afE arm fail) = some 5)) == (arm == 0))) rfl rfl rfl (by first | (rw [hq257]; rfl) | simp [hq257]) ?_
                refine rw_val (v := .bool ((decide ((afE arm fail) = some 6)) == (fail == 0))) (w' := w253) rfl rfl rfl rfl (by first | (simp [go_sem, sEv, sLook, nbeq, i64_w]; done) | (simp [go_sem, sEv, sLook, nbeq, i64_w] <;> cases h0_ : decide ((afE arm fail) = some 6) <;> cases h1_ : (fail == 0) <;> rfl)) ?_
                refine rw_val (v := .bool ((decide ((afE arm fail) = some 6)) == (fail == 0))) (w' := w253) rfl rfl rfl rfl (by first | (simp [go_sem, sEv, sLook, nbeq, i64_w, hq257]; done) | (simp [go_sem, sEv, sLook, nbeq, i64_w] <;> omega) | (simp [go_sem, sEv, sLook, nbeq, i64_w]; intro h_; exact absurd (by omega) h_) | (rw [hq257])) ?_
                refine rw_val (v := .bool ((decide ((afE arm fail) = some 6)) == (fail == 0))) (w' := w253) rfl rfl rfl rfl rfl ?_
                refine rw_end ?_
                refine w_weaken (G' := [(8, .bool ((decide ((afE arm fail) = some 6)) == (fail == 0)))]) ⟨rfl, trivial⟩ ?_
                have hq259 : ((decide ((afE arm fail) = some 6)) == (fail == 0)) = true := by exact af_eq6 cA0
                refine w_ret (post_ret1 rfl rfl ?_)
                exact ⟨by simp only [hq259], (chain hT248.1 hB255)⟩
          · refine w_skip ?_
            refine w_seq ?_
            refine w_region ?_
            refine rw_val (v := .pointer (some ⟨g3, 0, none⟩)) (w' := w217) rfl rfl rfl rfl rfl ?_
            refine rw_call rfl rfl rfl rfl (f := 14) (args := #[.pointer (some ⟨g3, 0, none⟩), .int .i64 0]) (by simp [go_sem, sEv, sLook, nbeq, i64_w]) (crash_af w w217 g3 w217.heap.size _ hT219 hk220 l1 l1 (by rw [hX221, if_neg (by rw [cE]; decide)]) (by rw [hU222, if_neg (by rw [cE]; decide)]) (by simp)) ?_
            rintro e_ w260 ⟨rfl, hT261, hs262⟩
            refine ⟨.tuple #[], rfl, ?_⟩
            have hs_w260 := hT261.1.size
            refine rw_end ?_
            refine w_seq ?_
            refine w_region ?_
            refine rw_val (v := .pointer (some ⟨g3, 0, none⟩)) (w' := w260) rfl rfl rfl rfl rfl ?_
            refine rw_call rfl rfl rfl rfl (f := 15) (args := #[.pointer (some ⟨g3, 0, none⟩)]) (by simp [go_sem, sEv, sLook, nbeq, i64_w]) (read_T w w260 g3 w260.heap.size _ hT261 (pl_ok hk220.steps (by simp) (by have hl0_ := of_decide_eq_false cB0; have hl1_ := of_decide_eq_false cB1; omega))) ?_
            rintro e_ w266 ⟨A263, n264, c265, rfl, hO267, hB268⟩
            refine ⟨_, rfl, ?_⟩
            have hs_w266 := hB268.size
            have hL269 : Own .u8 5 w266 w.heap.size w260.heap.size A263 n264 c265 l1 := Own.lower hO267 (by omega)
            refine rw_val (v := .string (strOfNums l1)) (w' := w266) rfl rfl rfl rfl (run_as (run_str_of (P := Try.prog) (e := 5) (by kernel_rfl) (by kernel_rfl) (by kernel_rfl) (show (Kd.int .u8).C _ _ n264 l1 by rw [hL269.len]; exact (Own.C (hL269.on (Below.refl _ _)))))) ?_
            refine rw_val (v := .string (strOfNums l1)) (w' := w266) rfl rfl rfl rfl rfl ?_
            refine rw_val (v := .bool true) (w' := w266) rfl rfl rfl rfl (run_bool (run_as (run_str_eql 9 _ _ _)) (by simp)) ?_
            refine rw_val (v := .bool true) (w' := w266) rfl rfl rfl rfl rfl ?_
            refine rw_on (c := true) rfl rfl rfl rfl ?_
            refine rw_val (v := errT (afE arm fail)) (w' := w266) rfl rfl rfl rfl rfl ?_
            refine rw_on (c := true) rfl rfl rfl rfl ?_
            refine rw_val (v := errT (some 5)) (w' := w266) rfl rfl rfl rfl (by simp [go_sem, sEv, sLook, nbeq, i64_w, errT]) ?_
            refine rw_on (c := true) rfl rfl rfl rfl ?_
            refine rw_val (v := .bool (decide ((afE arm fail) = some 5))) (w' := w266) rfl rfl rfl rfl (run_as (guard_err_eql _ _ (afE arm fail) 5 _)) ?_
            refine rw_on (c := true) rfl rfl rfl rfl ?_
            refine rw_val (v := .int .i64 arm) (w' := w266) rfl rfl rfl rfl rfl ?_
            refine rw_on (c := true) rfl rfl rfl rfl ?_
            refine rw_val (v := .bool (arm == 0)) (w' := w266) rfl rfl rfl rfl (by simp [go_sem, sEv, sLook, nbeq, i64_w]) ?_
            refine rw_on (c := true) rfl rfl rfl rfl ?_
            refine rw_val (v := .bool ((decide ((afE arm fail) = some 5)) == (arm == 0))) (w' := w266) rfl rfl rfl rfl (by first | (simp [go_sem, sEv, sLook, nbeq, i64_w]; done) | (simp [go_sem, sEv, sLook, nbeq, i64_w] <;> cases h0_ : decide ((afE arm fail) = some 5) <;> cases h1_ : (arm == 0) <;> rfl)) ?_
            refine rw_val (v := .bool ((decide ((afE arm fail) = some 5)) == (arm == 0))) (w' := w266) rfl rfl rfl rfl (by simp [go_sem, sEv, sLook, nbeq, i64_w]) ?_
            refine rw_val (v := .bool ((decide ((afE arm fail) = some 5)) == (arm == 0))) (w' := w266) rfl rfl rfl rfl rfl ?_
            have hq270 : ((decide ((afE arm fail) = some 5)) == (arm == 0)) = true := by exact af_eq5 arm fail
            refine rw_on (c := ((decide ((afE arm fail) = some 5)) == (arm == 0))) rfl rfl rfl (by first | (rw [hq270]; rfl) | simp [hq270]) ?_
            refine rw_val (v := errT (afE arm fail)) (w' := w266) rfl rfl rfl rfl rfl ?_
            refine rw_on (c := ((decide ((afE arm fail) = some 5)) == (arm == 0))) rfl rfl rfl (by first | (rw [hq270]; rfl) | simp [hq270]) ?_
            refine rw_val (v := errT (some 6)) (w' := w266) rfl rfl rfl rfl (by simp [go_sem, sEv, sLook, nbeq, i64_w, errT]) ?_
            refine rw_on (c := ((decide ((afE arm fail) = some 5)) == (arm == 0))) rfl rfl rfl (by first | (rw [hq270]; rfl) | simp [hq270]) ?_
            refine rw_val (v := .bool (decide ((afE arm fail) = some 6))) (w' := w266) rfl rfl rfl rfl (run_as (guard_err_eql _ _ (afE arm fail) 6 _)) ?_
            refine rw_on (c := ((decide ((afE arm fail) = some 5)) == (arm == 0))) rfl rfl rfl (by first | (rw [hq270]; rfl) | simp [hq270]) ?_
            refine rw_val (v := .int .i64 arm) (w' := w266) rfl rfl rfl rfl rfl ?_
            refine rw_on (c := ((decide ((afE arm fail) = some 5)) == (arm == 0))) rfl rfl rfl (by first | (rw [hq270]; rfl) | simp [hq270]) ?_
            refine rw_val (v := .bool (arm != 0)) (w' := w266) rfl rfl rfl rfl (by simp [go_sem, sEv, sLook, nbeq, i64_w]) ?_
            refine rw_on (c := ((decide ((afE arm fail) = some 5)) == (arm == 0))) rfl rfl rfl (by first | (rw [hq270]; rfl) | simp [hq270]) ?_
            refine rw_val (v := .bool (arm != 0)) (w' := w266) rfl rfl rfl rfl rfl ?_
            rcases bcase (arm != 0) with cA0 | cA0
            · refine rw_off (c := (arm != 0)) rfl rfl rfl (by first | (rw [cA0]; rfl) | simp [cA0]) rfl rfl ?_
              refine rw_off (c := (arm != 0)) rfl rfl rfl (by first | (rw [cA0]; rfl) | simp [cA0]) rfl rfl ?_
              refine rw_on (c := ((decide ((afE arm fail) = some 5)) == (arm == 0))) rfl rfl rfl (by first | (rw [hq270]; rfl) | simp [hq270]) ?_
              refine rw_val (v := .bool false) (w' := w266) rfl rfl rfl rfl (by first | (simp [go_sem, sEv, sLook, nbeq, i64_w, cA0]; done) | (simp [go_sem, sEv, sLook, nbeq, i64_w] <;> omega) | (simp [go_sem, sEv, sLook, nbeq, i64_w]; intro h_; exact absurd (by omega) h_) | (rw [cA0])) ?_
              refine rw_on (c := ((decide ((afE arm fail) = some 5)) == (arm == 0))) rfl rfl rfl (by first | (rw [hq270]; rfl) | simp [hq270]) ?_
              refine rw_val (v := .bool ((decide ((afE arm fail) = some 6)) == false)) (w' := w266) rfl rfl rfl rfl (by first | (simp [go_sem, sEv, sLook, nbeq, i64_w]; done) | (simp [go_sem, sEv, sLook, nbeq, i64_w] <;> cases h0_ : decide ((afE arm fail) = some 6) <;> rfl)) ?_
              refine rw_val (v := .bool ((decide ((afE arm fail) = some 6)) == false)) (w' := w266) rfl rfl rfl rfl (by first | (simp [go_sem, sEv, sLook, nbeq, i64_w, hq270]; done) | (simp [go_sem, sEv, sLook, nbeq, i64_w] <;> omega) | (simp [go_sem, sEv, sLook, nbeq, i64_w]; intro h_; exact absurd (by omega) h_) | (rw [hq270])) ?_
              refine rw_val (v := .bool ((decide ((afE arm fail) = some 6)) == false)) (w' := w266) rfl rfl rfl rfl rfl ?_
              refine rw_end ?_
              refine w_weaken (G' := [(8, .bool ((decide ((afE arm fail) = some 6)) == false))]) ⟨rfl, trivial⟩ ?_
              have hq271 : ((decide ((afE arm fail) = some 6)) == false) = true := by exact af_eq6' cA0
              refine w_ret (post_ret1 rfl rfl ?_)
              exact ⟨by simp only [hq271], (chain hT261.1 hB268)⟩
            · refine rw_on (c := (arm != 0)) rfl rfl rfl (by first | (rw [cA0]; rfl) | simp [cA0]) ?_
              refine rw_val (v := .int .i64 fail) (w' := w266) rfl rfl rfl rfl rfl ?_
              refine rw_on (c := (arm != 0)) rfl rfl rfl (by first | (rw [cA0]; rfl) | simp [cA0]) ?_
              refine rw_val (v := .bool (fail == 0)) (w' := w266) rfl rfl rfl rfl (by simp [go_sem, sEv, sLook, nbeq, i64_w]) ?_
              refine rw_on (c := ((decide ((afE arm fail) = some 5)) == (arm == 0))) rfl rfl rfl (by first | (rw [hq270]; rfl) | simp [hq270]) ?_
              refine rw_val (v := .bool (fail == 0)) (w' := w266) rfl rfl rfl rfl (by first | (simp [go_sem, sEv, sLook, nbeq, i64_w, cA0]; done) | (simp [go_sem, sEv, sLook, nbeq, i64_w] <;> omega) | (simp [go_sem, sEv, sLook, nbeq, i64_w]; intro h_; exact absurd (by omega) h_) | (rw [cA0])) ?_
              refine rw_on (c := ((decide ((afE arm fail) = some 5)) == (arm == 0))) rfl rfl rfl (by first | (rw [hq270]; rfl) | simp [hq270]) ?_
              refine rw_val (v := .bool ((decide ((afE arm fail) = some 6)) == (fail == 0))) (w' := w266) rfl rfl rfl rfl (by first | (simp [go_sem, sEv, sLook, nbeq, i64_w]; done) | (simp [go_sem, sEv, sLook, nbeq, i64_w] <;> cases h0_ : decide ((afE arm fail) = some 6) <;> cases h1_ : (fail == 0) <;> rfl)) ?_
              refine rw_val (v := .bool ((decide ((afE arm fail) = some 6)) == (fail == 0))) (w' := w266) rfl rfl rfl rfl (by first | (simp [go_sem, sEv, sLook, nbeq, i64_w, hq270]; done) | (simp [go_sem, sEv, sLook, nbeq, i64_w] <;> omega) | (simp [go_sem, sEv, sLook, nbeq, i64_w]; intro h_; exact absurd (by omega) h_) | (rw [hq270])) ?_
              refine rw_val (v := .bool ((decide ((afE arm fail) = some 6)) == (fail == 0))) (w' := w266) rfl rfl rfl rfl rfl ?_
              refine rw_end ?_
              refine w_weaken (G' := [(8, .bool ((decide ((afE arm fail) = some 6)) == (fail == 0)))]) ⟨rfl, trivial⟩ ?_
              have hq272 : ((decide ((afE arm fail) = some 6)) == (fail == 0)) = true := by exact af_eq6 cA0
              refine w_ret (post_ret1 rfl rfl ?_)
              exact ⟨by simp only [hq272], (chain hT261.1 hB268)⟩
  · refine rw_off (c := decide (5000 < (l0.length : Int))) rfl rfl rfl (by first | (rw [cB0]; rfl) | simp [cB0]) rfl rfl ?_
    refine rw_off (c := decide (5000 < (l0.length : Int))) rfl rfl rfl (by first | (rw [cB0]; rfl) | simp [cB0]) rfl rfl ?_
    refine rw_off (c := decide (5000 < (l0.length : Int))) rfl rfl rfl (by first | (rw [cB0]; rfl) | simp [cB0]) rfl rfl ?_
    refine rw_val (v := .bool true) (w' := w1) rfl rfl rfl rfl (by first | (simp [go_sem, sEv, sLook, nbeq, i64_w, cB0]; done) | (simp [go_sem, sEv, sLook, nbeq, i64_w] <;> omega) | (simp [go_sem, sEv, sLook, nbeq, i64_w]; intro h_; exact absurd (by omega) h_) | (rw [cB0])) ?_
    refine rw_end ?_
    refine w_weaken (G' := [(0, .slice X0 l0.length d0), (1, .slice X1 l1.length d1), (2, .int .i64 arm), (3, .int .i64 fail), (8, .bool false), (21, .bool true)]) ⟨rfl, rfl, rfl, rfl, rfl, rfl, trivial⟩ ?_
    refine w_cond_t rfl rfl rfl ?_
    refine w_seq ?_
    refine w_region ?_
    refine rw_val (v := .bool true) (w' := w1) rfl rfl rfl rfl rfl ?_
    refine rw_end ?_
    refine w_ret (post_ret1 rfl rfl ?_)
    exact ⟨rfl, hb2⟩
set_option maxHeartbeats 4000000 in
theorem walkReplaces (w : World) (X0 X1 : Option Addr) (d0 d1 : Nat) (l0 l1 : List Int) (h0 : (Kd.int .u8).C w X0 l0.length l0) (h1 : (Kd.int .u8).C w X1 l1.length l1) (e0 : l0.length ≤ d0) (e1 : l1.length ≤ d1) (arm fail : Int) (bA : -9223372036854775808 ≤ arm ∧ arm ≤ 9223372036854775807) (bF : -9223372036854775808 ≤ fail ∧ fail ≤ 9223372036854775807) :
    Calls Try.prog 7 #[.agg #[.slice X0 l0.length d0, .slice X1 l1.length d1, .int .i64 arm, .int .i64 fail]] w fun e w' => e = .returned (.bool true) ∧ Below w.heap.size w w' := by
  refine calls_flow Try.func7 rfl 12 rfl (Nat.le_of_ble_eq_true rfl) [(0, .agg #[.slice X0 l0.length d0, .slice X1 l1.length d1, .int .i64 arm, .int .i64 fail])] ?_ ?_
  · intro t v h; exact args_look rfl t v h
  refine w_seq ?_
  refine w_region ?_
  refine rw_new (cs := #[.slice X0 l0.length d0, .slice X1 l1.length d1, .int .i64 arm, .int .i64 fail]) (t := 44) (fun g => .pointer (some ⟨g, 0, none⟩)) rfl rfl rfl rfl (by simp [go_sem, sEv, sLook, nbeq, i64_w]) ?_
  intro g1 w2 hg6 hz5 hb3 hk4
  have hs_w2 := hb3.size
  refine rw_val (v := .bool false) (w' := w2) rfl rfl rfl rfl rfl ?_
  refine rw_end ?_
  refine w_seq ?_
  refine w_region ?_
  refine rw_val (v := .pointer (some ⟨g1, 0, none⟩)) (w' := w2) rfl rfl rfl rfl (by simp [go_sem, sEv, sLook, nbeq, i64_w, Try.underlying44]) ?_
  refine rw_val (v := .slice X0 l0.length d0) (w' := w2) rfl rfl rfl rfl (by have eb_ := hk4; have e0_ := eb_.cellv (i := 0) (v := (.slice X0 l0.length d0 : Value)) rfl; simp [go_sem, sEv, sLook, nbeq, i64_w, e0_, Try.underlying27]) ?_
  refine rw_val (v := .pointer (some ⟨g1, 1, none⟩)) (w' := w2) rfl rfl rfl rfl (by simp [go_sem, sEv, sLook, nbeq, i64_w, Try.underlying44]) ?_
  refine rw_val (v := .slice X1 l1.length d1) (w' := w2) rfl rfl rfl rfl (by have eb_ := hk4; have e0_ := eb_.cellv (i := 1) (v := (.slice X1 l1.length d1 : Value)) rfl; simp [go_sem, sEv, sLook, nbeq, i64_w, e0_, Try.underlying27]) ?_
  refine rw_val (v := .pointer (some ⟨g1, 2, none⟩)) (w' := w2) rfl rfl rfl rfl (by simp [go_sem, sEv, sLook, nbeq, i64_w, Try.underlying44]) ?_
  refine rw_val (v := .int .i64 arm) (w' := w2) rfl rfl rfl rfl (by have eb_ := hk4; have e0_ := eb_.cellv (i := 2) (v := (.int .i64 arm : Value)) rfl; simp [go_sem, sEv, sLook, nbeq, i64_w, e0_]) ?_
  refine rw_val (v := .pointer (some ⟨g1, 3, none⟩)) (w' := w2) rfl rfl rfl rfl (by simp [go_sem, sEv, sLook, nbeq, i64_w, Try.underlying44]) ?_
  refine rw_val (v := .int .i64 fail) (w' := w2) rfl rfl rfl rfl (by have eb_ := hk4; have e0_ := eb_.cellv (i := 3) (v := (.int .i64 fail : Value)) rfl; simp [go_sem, sEv, sLook, nbeq, i64_w, e0_]) ?_
  refine rw_call rfl rfl rfl rfl (f := 24) (args := #[.slice X0 l0.length d0, .slice X1 l1.length d1, .int .i64 arm, .int .i64 fail]) (by simp [go_sem, sEv, sLook, nbeq, i64_w]) (replaces_calls w2 X0 X1 d0 d1 l0 l1 (Kd.C_below h0 hb3) (Kd.C_below h1 hb3) e0 e1 arm fail bA bF) ?_
  rintro e_ w7 ⟨rfl, hb8⟩
  refine ⟨_, rfl, ?_⟩
  have hs_w7 := hb8.size
  refine rw_val (v := .bool true) (w' := w7) rfl rfl rfl rfl rfl ?_
  refine rw_end ?_
  refine w_weaken (G' := [(2, .bool true)]) ⟨rfl, trivial⟩ ?_
  refine w_ret (post_ret1 rfl rfl ?_)
  exact ⟨rfl, (chain hb3 hb8)⟩
end Go.Proofs.Ytpbpeklbmmbigaa.Tp
