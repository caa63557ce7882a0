/- A tape has so many bytes at most: the walk. -/
import Derived.Test.YtpbpeklbmmbigaaTpFull
namespace Go.Proofs.Ytpbpeklbmmbigaa.Tp
open Go.RowKit Go.Proofs.YtpbpeklbmmbigaaW.PrintWords Go.Proofs.YtpbpeklbmmbigaaW.PrintLast Go.Proofs.YtpbpeklbmmbigaaW.PrintMore
open Go.Proofs.Ytpbpeklbmmbigaa.Flow
set_option linter.unusedVariables false
set_option linter.unusedSimpArgs false

set_option maxHeartbeats 4000000 in
theorem full_hi (k : Int) (n : Nat) (hmod : Int.tmod (IntKind.u64.wrap k) 5 = (n : Int)) (hn : 2 < n ∧ n < 5) (w : World) :
    Calls Try.prog 5 #[.int .i64 k] w fun e w' => e = .returned (.bool true) ∧ Below w.heap.size w w' := by
  refine calls_flow Try.func5 rfl 73 rfl (Nat.le_of_ble_eq_true rfl) [(0, .int .i64 k)] ?_ ?_
  · intro t v h; exact args_look rfl t v h
  refine w_seq ?_
  refine w_region ?_
  refine rw_val (v := .bool false) (w' := w) rfl rfl rfl rfl rfl ?_
  refine rw_end ?_
  refine w_seq ?_
  refine w_seq ?_
  refine w_region ?_
  refine rw_call rfl rfl rfl rfl (f := 10) (args := #[]) (by simp [go_sem, sEv, sLook, nbeq, i64_w]) (alive_calls w) ?_
  rintro e_ w1 ⟨rfl, hb2⟩
  refine ⟨_, rfl, ?_⟩
  have hs_w1 := hb2.size
  refine rw_val (v := .bool false) (w' := w1) rfl rfl rfl rfl (by simp [go_sem, sEv, sLook, nbeq, i64_w]) ?_
  refine rw_end ?_
  refine w_cond_f rfl rfl rfl ?_
  refine w_skip ?_
  refine w_seq ?_
  refine w_region ?_
  refine rw_val (v := .int .i64 k) (w' := w1) rfl rfl rfl rfl rfl ?_
  refine rw_val (v := .int .u64 (IntKind.u64.wrap (k))) (w' := w1) rfl rfl rfl rfl (by simp [go_sem, sEv, sLook, nbeq, i64_w, Try.underlying3, Try.underlying26]) ?_
  refine rw_val (v := .int .u64 (n : Int)) (w' := w1) rfl rfl rfl rfl (by simp [go_sem, sEv, sLook, nbeq, i64_w]; exact hmod) ?_
  refine rw_val (v := .int .i64 (n : Int)) (w' := w1) rfl rfl rfl rfl (by simp [go_sem, sEv, sLook, nbeq, i64_w]; exact wrap_id (by omega) (by omega)) ?_
  refine rw_val (v := .int .i64 (n : Int)) (w' := w1) rfl rfl rfl rfl rfl ?_
  refine rw_end ?_
  refine w_weaken (G' := [(0, .int .i64 (n : Int)), (2, .bool false)]) ⟨rfl, rfl, trivial⟩ ?_
  refine w_seq ?_
  refine w_region ?_
  refine rw_call rfl rfl rfl rfl (f := 11) (args := #[]) (by simp [go_sem, sEv, sLook, nbeq, i64_w]) (new_T w1) ?_
  rintro e_ w4 ⟨g3, rfl, hT5_, hs6⟩
  refine ⟨_, rfl, ?_⟩
  have hT5 : TapeAt w w4 g3 w4.heap.size (pl [] 0 0) := new_on hb2 hT5_
  have hs_w4 := hT5.1.size
  refine rw_val (v := .pointer (some ⟨g3, 0, none⟩)) (w' := w4) rfl rfl rfl rfl rfl ?_
  refine rw_end ?_
  refine w_seq ?_
  refine w_seq ?_
  refine w_region ?_
  refine rw_val (v := .pointer (some ⟨g3, 0, none⟩)) (w' := w4) rfl rfl rfl rfl rfl ?_
  obtain ⟨zs7, hz8, hN9⟩ := zeros (1048574)
  rw [← hz8] at hN9
  refine rw_new (cs := madeCells #[Value.int .u8 0] zs7.length) (t := 5) (fun g => .slice (some ⟨g, 0, none⟩) zs7.length zs7.length) rfl rfl rfl rfl (run_as (make_run _ _ zs7.length (by omega) (by omega))) ?_
  intro g10 w11 hg15 hZ14 hb12 hk13
  have hs_w11 := hb12.size
  refine rw_new (cs := #[.slice (some ⟨g10, 0, none⟩) zs7.length zs7.length]) (t := 27) (fun g => .slice (some ⟨g, 0, none⟩) 1 1) rfl rfl rfl rfl (by kernel_rfl) ?_
  intro g17 w18 hg22 hz21 hb19 hk20
  have hs_w18 := hb19.size
  refine rw_call rfl rfl rfl rfl (f := 12) (args := #[.pointer (some ⟨g3, 0, none⟩), .slice (some ⟨g17, 0, none⟩) 1 1]) (by simp [go_sem, sEv, sLook, nbeq, i64_w]) (append_pl w w18 g3 w4.heap.size [] 0 0 (TapeAt.on hT5 (chain hb12 hb19)) (by first | omega | (simp; done) | (simp; omega)) (by first | omega | (simp; done) | (simp; omega)) (by first | omega | (simp; done) | (simp; omega)) _ [zs7] 1 (rowsK1 (hk20) (fun hq => by omega) (Nat.le_refl _) (FB.K (FB.on (⟨_, hk13⟩ : FB w11 g10 5 _) hb19) hN9 (by first | omega | simp) (fun hq => by (try simp only at hq); omega))) (by simp) (by first | omega | (simp; done) | (simp; omega)) (by first | omega | (simp; done) | (simp; omega))) ?_
  rintro e_ w23 ⟨rfl, hT24, hs25⟩
  refine ⟨_, rfl, ?_⟩
  have hs_w23 := hT24.1.size
  have hT24_ : TapeAt w w23 g3 w23.heap.size (pl zs7 0 1) := by have h_ := hT24; simpa using h_
  refine rw_val (v := .bool ((none : Option Int).isSome)) (w' := w23) rfl rfl rfl rfl (run_as (guard_err_neq _ (none : Option Int) _)) ?_
  refine rw_end ?_
  refine w_weaken (G' := [(0, .int .i64 (n : Int)), (2, .bool false), (3, .pointer (some ⟨g3, 0, none⟩)), (17, .bool ((none : Option Int).isSome))]) ⟨rfl, rfl, rfl, rfl, trivial⟩ ?_
  have hq26 : ((none : Option Int).isSome) = false := by rfl
  refine w_cond_f rfl rfl hq26 ?_
  refine w_skip ?_
  refine w_seq ?_
  refine w_region ?_
  refine rw_val (v := .pointer (some ⟨g3, 0, none⟩)) (w' := w23) rfl rfl rfl rfl rfl ?_
  refine rw_val (v := .int .i64 (n : Int)) (w' := w23) rfl rfl rfl rfl rfl ?_
  obtain ⟨zs27, hz28, hN29⟩ := zeros (n)
  rw [← hz28] at hN29
  refine rw_new (cs := madeCells #[Value.int .u8 0] zs27.length) (t := 5) (fun g => .slice (some ⟨g, 0, none⟩) zs27.length zs27.length) rfl rfl rfl rfl (run_as (make_run _ _ zs27.length (by omega) (by omega))) ?_
  intro g30 w31 hg35 hZ34 hb32 hk33
  have hs_w31 := hb32.size
  refine rw_new (cs := #[.slice (some ⟨g30, 0, none⟩) zs27.length zs27.length]) (t := 27) (fun g => .slice (some ⟨g, 0, none⟩) 1 1) rfl rfl rfl rfl (by kernel_rfl) ?_
  intro g37 w38 hg42 hz41 hb39 hk40
  have hs_w38 := hb39.size
  refine rw_call rfl rfl rfl rfl (f := 12) (args := #[.pointer (some ⟨g3, 0, none⟩), .slice (some ⟨g37, 0, none⟩) 1 1]) (by simp [go_sem, sEv, sLook, nbeq, i64_w]) (append_full w w38 g3 w23.heap.size zs7 0 1 (TapeAt.on hT24_ (chain hb32 hb39)) (by first | omega | (simp; done) | (simp; omega)) (by first | omega | (simp; done) | (simp; omega)) (by first | omega | (simp; done) | (simp; omega)) _ [zs27] 1 (rowsK1 (hk40) (fun hq => by omega) (Nat.le_refl _) (FB.K (FB.on (⟨_, hk33⟩ : FB w31 g30 5 _) hb39) hN29 (by first | omega | simp) (fun hq => by (try simp only at hq); omega))) (by simp) (by first | omega | (simp; done) | (simp; omega)) (by first | omega | (simp; done) | (simp; omega))) ?_
  rintro e_ w43 ⟨rfl, hT44, hs45⟩
  refine ⟨_, rfl, ?_⟩
  have hs_w43 := hT44.1.size
  refine rw_val (v := errT (some 7)) (w' := w43) rfl rfl rfl rfl rfl ?_
  refine rw_end ?_
  refine w_weaken (G' := [(0, .int .i64 (n : Int)), (2, .bool false), (3, .pointer (some ⟨g3, 0, none⟩)), (4, errT (some 7))]) ⟨rfl, rfl, rfl, rfl, trivial⟩ ?_
  refine w_seq ?_
  refine w_region ?_
  refine rw_val (v := .pointer (some ⟨g3, 0, none⟩)) (w' := w43) rfl rfl rfl rfl rfl ?_
  refine rw_val (v := .int .i64 (n : Int)) (w' := w43) rfl rfl rfl rfl rfl ?_
  refine rw_val (v := .int .i64 (1048576 + n : Int)) (w' := w43) rfl rfl rfl rfl (by simp [go_sem, sEv, sLook, nbeq, i64_w]; exact wrap_id (by omega) (by omega)) ?_
  obtain ⟨zs46, hz47, hN48⟩ := zeros (1048576 + n)
  rw [← hz47] at hN48
  refine rw_new (cs := madeCells #[Value.int .u8 0] zs46.length) (t := 5) (fun g => .slice (some ⟨g, 0, none⟩) zs46.length zs46.length) rfl rfl rfl rfl (run_as (make_run _ _ zs46.length (by omega) (by omega))) ?_
  intro g49 w50 hg54 hZ53 hb51 hk52
  have hs_w50 := hb51.size
  have hgm_ := hT44.2.2.1
  refine rw_call rfl rfl rfl rfl (f := 18) (args := #[.pointer (some ⟨g3, 0, none⟩), .slice (some ⟨g49, 0, none⟩) zs46.length zs46.length]) (by simp [go_sem, sEv, sLook, nbeq, i64_w]) (replace_full w w50 g3 w43.heap.size zs7 0 1 (TapeAt.on hT44 hb51) (by first | omega | (simp; done) | (simp; omega)) (by first | omega | (simp; done) | (simp; omega)) (by first | omega | (simp; done) | (simp; omega)) _ zs46 zs46.length (FB.K (⟨_, hk52⟩ : FB w50 g49 5 _) hN48 (by first | omega | simp) (fun hq => by (try simp only at hq); omega)) (by omega)) ?_
  rintro e_ w56 ⟨rfl, hT57, hs58⟩
  refine ⟨_, rfl, ?_⟩
  have hs_w56 := hT57.1.size
  refine rw_val (v := errT (some 7)) (w' := w56) rfl rfl rfl rfl rfl ?_
  refine rw_end ?_
  refine w_weaken (G' := [(0, .int .i64 (n : Int)), (2, .bool false), (3, .pointer (some ⟨g3, 0, none⟩)), (4, errT (some 7)), (5, errT (some 7))]) ⟨rfl, rfl, rfl, rfl, rfl, trivial⟩ ?_
  refine w_seq ?_
  refine w_seq ?_
  refine w_region ?_
  refine rw_val (v := .int .i64 (n : Int)) (w' := w56) rfl rfl rfl rfl rfl ?_
  refine rw_val (v := .bool (decide (2 < (n : Int)))) (w' := w56) rfl rfl rfl rfl (by simp [go_sem, sEv, sLook, nbeq, i64_w]) ?_
  refine rw_end ?_
  have hq59 : (decide (2 < (n : Int))) = true := by simp; omega
  refine w_cond_t rfl rfl hq59 ?_
  refine w_seq ?_
  refine w_region ?_
  refine rw_val (v := errT (some 7)) (w' := w56) rfl rfl rfl rfl rfl ?_
  refine rw_val (v := errT (some 7)) (w' := w56) rfl rfl rfl rfl (by simp [go_sem, sEv, sLook, nbeq, i64_w, errT]) ?_
  refine rw_val (v := .bool true) (w' := w56) rfl rfl rfl rfl (run_bool (run_as (guard_err_eql _ _ (some 7) 7 _)) (by decide)) ?_
  refine rw_val (v := .bool true) (w' := w56) rfl rfl rfl rfl rfl ?_
  refine rw_on (c := true) rfl rfl rfl rfl ?_
  refine rw_val (v := errT (some 7)) (w' := w56) rfl rfl rfl rfl rfl ?_
  refine rw_on (c := true) rfl rfl rfl rfl ?_
  refine rw_val (v := errT (some 7)) (w' := w56) rfl rfl rfl rfl (by simp [go_sem, sEv, sLook, nbeq, i64_w, errT]) ?_
  refine rw_on (c := true) rfl rfl rfl rfl ?_
  refine rw_val (v := .bool true) (w' := w56) rfl rfl rfl rfl (run_bool (run_as (guard_err_eql _ _ (some 7) 7 _)) (by decide)) ?_
  refine rw_val (v := .bool true) (w' := w56) rfl rfl rfl rfl (by simp [go_sem, sEv, sLook, nbeq, i64_w]) ?_
  refine rw_val (v := .bool true) (w' := w56) rfl rfl rfl rfl rfl ?_
  refine rw_on (c := true) rfl rfl rfl rfl ?_
  refine rw_val (v := .pointer (some ⟨g3, 0, none⟩)) (w' := w56) rfl rfl rfl rfl rfl ?_
  refine rw_on (c := true) rfl rfl rfl rfl ?_
  refine rw_call rfl rfl rfl rfl (f := 19) (args := #[.pointer (some ⟨g3, 0, none⟩)]) (by simp [go_sem, sEv, sLook, nbeq, i64_w]) (steps_pl w w56 g3 w56.heap.size zs7 0 1 hT57 (by first | omega | (simp; done) | (simp; omega)) (by first | omega | (simp; done) | (simp; omega)) (by first | omega | (simp; done) | (simp; omega))) ?_
  rintro e_ w60 ⟨rfl, rfl⟩
  refine ⟨_, rfl, ?_⟩
  refine rw_on (c := true) rfl rfl rfl rfl ?_
  refine rw_val (v := .bool true) (w' := w56) rfl rfl rfl rfl (by simp [go_sem, sEv, sLook, nbeq, i64_w]) ?_
  refine rw_val (v := .bool true) (w' := w56) rfl rfl rfl rfl (by simp [go_sem, sEv, sLook, nbeq, i64_w]) ?_
  refine rw_val (v := .bool true) (w' := w56) rfl rfl rfl rfl rfl ?_
  refine rw_end ?_
  refine w_weaken (G' := [(0, .int .i64 (n : Int)), (2, .bool true), (3, .pointer (some ⟨g3, 0, none⟩)), (4, errT (some 7)), (5, errT (some 7))]) ⟨rfl, rfl, rfl, rfl, rfl, trivial⟩ ?_
  refine w_ret (post_ret1 rfl rfl ?_)
  exact ⟨rfl, hT57.1⟩
set_option maxHeartbeats 4000000 in
theorem full_mid (k : Int) (n : Nat) (hmod : Int.tmod (IntKind.u64.wrap k) 5 = (n : Int)) (hn : 0 < n ∧ n ≤ 2) (w : World) :
    Calls Try.prog 5 #[.int .i64 k] w fun e w' => e = .returned (.bool true) ∧ Below w.heap.size w w' := by
  refine calls_flow Try.func5 rfl 73 rfl (Nat.le_of_ble_eq_true rfl) [(0, .int .i64 k)] ?_ ?_
  · intro t v h; exact args_look rfl t v h
  refine w_seq ?_
  refine w_region ?_
  refine rw_val (v := .bool false) (w' := w) rfl rfl rfl rfl rfl ?_
  refine rw_end ?_
  refine w_seq ?_
  refine w_seq ?_
  refine w_region ?_
  refine rw_call rfl rfl rfl rfl (f := 10) (args := #[]) (by simp [go_sem, sEv, sLook, nbeq, i64_w]) (alive_calls w) ?_
  rintro e_ w1 ⟨rfl, hb2⟩
  refine ⟨_, rfl, ?_⟩
  have hs_w1 := hb2.size
  refine rw_val (v := .bool false) (w' := w1) rfl rfl rfl rfl (by simp [go_sem, sEv, sLook, nbeq, i64_w]) ?_
  refine rw_end ?_
  refine w_cond_f rfl rfl rfl ?_
  refine w_skip ?_
  refine w_seq ?_
  refine w_region ?_
  refine rw_val (v := .int .i64 k) (w' := w1) rfl rfl rfl rfl rfl ?_
  refine rw_val (v := .int .u64 (IntKind.u64.wrap (k))) (w' := w1) rfl rfl rfl rfl (by simp [go_sem, sEv, sLook, nbeq, i64_w, Try.underlying3, Try.underlying26]) ?_
  refine rw_val (v := .int .u64 (n : Int)) (w' := w1) rfl rfl rfl rfl (by simp [go_sem, sEv, sLook, nbeq, i64_w]; exact hmod) ?_
  refine rw_val (v := .int .i64 (n : Int)) (w' := w1) rfl rfl rfl rfl (by simp [go_sem, sEv, sLook, nbeq, i64_w]; exact wrap_id (by omega) (by omega)) ?_
  refine rw_val (v := .int .i64 (n : Int)) (w' := w1) rfl rfl rfl rfl rfl ?_
  refine rw_end ?_
  refine w_weaken (G' := [(0, .int .i64 (n : Int)), (2, .bool false)]) ⟨rfl, rfl, trivial⟩ ?_
  refine w_seq ?_
  refine w_region ?_
  refine rw_call rfl rfl rfl rfl (f := 11) (args := #[]) (by simp [go_sem, sEv, sLook, nbeq, i64_w]) (new_T w1) ?_
  rintro e_ w4 ⟨g3, rfl, hT5_, hs6⟩
  refine ⟨_, rfl, ?_⟩
  have hT5 : TapeAt w w4 g3 w4.heap.size (pl [] 0 0) := new_on hb2 hT5_
  have hs_w4 := hT5.1.size
  refine rw_val (v := .pointer (some ⟨g3, 0, none⟩)) (w' := w4) rfl rfl rfl rfl rfl ?_
  refine rw_end ?_
  refine w_seq ?_
  refine w_seq ?_
  refine w_region ?_
  refine rw_val (v := .pointer (some ⟨g3, 0, none⟩)) (w' := w4) rfl rfl rfl rfl rfl ?_
  obtain ⟨zs7, hz8, hN9⟩ := zeros (1048574)
  rw [← hz8] at hN9
  refine rw_new (cs := madeCells #[Value.int .u8 0] zs7.length) (t := 5) (fun g => .slice (some ⟨g, 0, none⟩) zs7.length zs7.length) rfl rfl rfl rfl (run_as (make_run _ _ zs7.length (by omega) (by omega))) ?_
  intro g10 w11 hg15 hZ14 hb12 hk13
  have hs_w11 := hb12.size
  refine rw_new (cs := #[.slice (some ⟨g10, 0, none⟩) zs7.length zs7.length]) (t := 27) (fun g => .slice (some ⟨g, 0, none⟩) 1 1) rfl rfl rfl rfl (by kernel_rfl) ?_
  intro g17 w18 hg22 hz21 hb19 hk20
  have hs_w18 := hb19.size
  refine rw_call rfl rfl rfl rfl (f := 12) (args := #[.pointer (some ⟨g3, 0, none⟩), .slice (some ⟨g17, 0, none⟩) 1 1]) (by simp [go_sem, sEv, sLook, nbeq, i64_w]) (append_pl w w18 g3 w4.heap.size [] 0 0 (TapeAt.on hT5 (chain hb12 hb19)) (by first | omega | (simp; done) | (simp; omega)) (by first | omega | (simp; done) | (simp; omega)) (by first | omega | (simp; done) | (simp; omega)) _ [zs7] 1 (rowsK1 (hk20) (fun hq => by omega) (Nat.le_refl _) (FB.K (FB.on (⟨_, hk13⟩ : FB w11 g10 5 _) hb19) hN9 (by first | omega | simp) (fun hq => by (try simp only at hq); omega))) (by simp) (by first | omega | (simp; done) | (simp; omega)) (by first | omega | (simp; done) | (simp; omega))) ?_
  rintro e_ w23 ⟨rfl, hT24, hs25⟩
  refine ⟨_, rfl, ?_⟩
  have hs_w23 := hT24.1.size
  have hT24_ : TapeAt w w23 g3 w23.heap.size (pl zs7 0 1) := by have h_ := hT24; simpa using h_
  refine rw_val (v := .bool ((none : Option Int).isSome)) (w' := w23) rfl rfl rfl rfl (run_as (guard_err_neq _ (none : Option Int) _)) ?_
  refine rw_end ?_
  refine w_weaken (G' := [(0, .int .i64 (n : Int)), (2, .bool false), (3, .pointer (some ⟨g3, 0, none⟩)), (17, .bool ((none : Option Int).isSome))]) ⟨rfl, rfl, rfl, rfl, trivial⟩ ?_
  have hq26 : ((none : Option Int).isSome) = false := by rfl
  refine w_cond_f rfl rfl hq26 ?_
  refine w_skip ?_
  refine w_seq ?_
  refine w_region ?_
  refine rw_val (v := .pointer (some ⟨g3, 0, none⟩)) (w' := w23) rfl rfl rfl rfl rfl ?_
  refine rw_val (v := .int .i64 (n : Int)) (w' := w23) rfl rfl rfl rfl rfl ?_
  obtain ⟨zs27, hz28, hN29⟩ := zeros (n)
  rw [← hz28] at hN29
  refine rw_new (cs := madeCells #[Value.int .u8 0] zs27.length) (t := 5) (fun g => .slice (some ⟨g, 0, none⟩) zs27.length zs27.length) rfl rfl rfl rfl (run_as (make_run _ _ zs27.length (by omega) (by omega))) ?_
  intro g30 w31 hg35 hZ34 hb32 hk33
  have hs_w31 := hb32.size
  refine rw_new (cs := #[.slice (some ⟨g30, 0, none⟩) zs27.length zs27.length]) (t := 27) (fun g => .slice (some ⟨g, 0, none⟩) 1 1) rfl rfl rfl rfl (by kernel_rfl) ?_
  intro g37 w38 hg42 hz41 hb39 hk40
  have hs_w38 := hb39.size
  refine rw_call rfl rfl rfl rfl (f := 12) (args := #[.pointer (some ⟨g3, 0, none⟩), .slice (some ⟨g37, 0, none⟩) 1 1]) (by simp [go_sem, sEv, sLook, nbeq, i64_w]) (append_pl w w38 g3 w23.heap.size zs7 0 1 (TapeAt.on hT24_ (chain hb32 hb39)) (by first | omega | (simp; done) | (simp; omega)) (by first | omega | (simp; done) | (simp; omega)) (by first | omega | (simp; done) | (simp; omega)) _ [zs27] 1 (rowsK1 (hk40) (fun hq => by omega) (Nat.le_refl _) (FB.K (FB.on (⟨_, hk33⟩ : FB w31 g30 5 _) hb39) hN29 (by first | omega | simp) (fun hq => by (try simp only at hq); omega))) (by simp) (by first | omega | (simp; done) | (simp; omega)) (by first | omega | (simp; done) | (simp; omega))) ?_
  rintro e_ w43 ⟨rfl, hT44, hs45⟩
  refine ⟨_, rfl, ?_⟩
  have hs_w43 := hT44.1.size
  have hT44_ : TapeAt w w43 g3 w43.heap.size (pl (zs7 ++ zs27) 0 2) := by have h_ := hT44; simpa using h_
  refine rw_val (v := errT none) (w' := w43) rfl rfl rfl rfl rfl ?_
  refine rw_end ?_
  refine w_weaken (G' := [(0, .int .i64 (n : Int)), (2, .bool false), (3, .pointer (some ⟨g3, 0, none⟩)), (4, errT none)]) ⟨rfl, rfl, rfl, rfl, trivial⟩ ?_
  refine w_seq ?_
  refine w_region ?_
  refine rw_val (v := .pointer (some ⟨g3, 0, none⟩)) (w' := w43) rfl rfl rfl rfl rfl ?_
  refine rw_val (v := .int .i64 (n : Int)) (w' := w43) rfl rfl rfl rfl rfl ?_
  refine rw_val (v := .int .i64 (1048576 + n : Int)) (w' := w43) rfl rfl rfl rfl (by simp [go_sem, sEv, sLook, nbeq, i64_w]; exact wrap_id (by omega) (by omega)) ?_
  obtain ⟨zs46, hz47, hN48⟩ := zeros (1048576 + n)
  rw [← hz47] at hN48
  refine rw_new (cs := madeCells #[Value.int .u8 0] zs46.length) (t := 5) (fun g => .slice (some ⟨g, 0, none⟩) zs46.length zs46.length) rfl rfl rfl rfl (run_as (make_run _ _ zs46.length (by omega) (by omega))) ?_
  intro g49 w50 hg54 hZ53 hb51 hk52
  have hs_w50 := hb51.size
  have hgm_ := hT44_.2.2.1
  refine rw_call rfl rfl rfl rfl (f := 18) (args := #[.pointer (some ⟨g3, 0, none⟩), .slice (some ⟨g49, 0, none⟩) zs46.length zs46.length]) (by simp [go_sem, sEv, sLook, nbeq, i64_w]) (replace_full w w50 g3 w43.heap.size (zs7 ++ zs27) 0 2 (TapeAt.on hT44_ hb51) (by first | omega | (simp; done) | (simp; omega)) (by first | omega | (simp; done) | (simp; omega)) (by first | omega | (simp; done) | (simp; omega)) _ zs46 zs46.length (FB.K (⟨_, hk52⟩ : FB w50 g49 5 _) hN48 (by first | omega | simp) (fun hq => by (try simp only at hq); omega)) (by omega)) ?_
  rintro e_ w56 ⟨rfl, hT57, hs58⟩
  refine ⟨_, rfl, ?_⟩
  have hs_w56 := hT57.1.size
  refine rw_val (v := errT (some 7)) (w' := w56) rfl rfl rfl rfl rfl ?_
  refine rw_end ?_
  refine w_weaken (G' := [(0, .int .i64 (n : Int)), (2, .bool false), (3, .pointer (some ⟨g3, 0, none⟩)), (4, errT none), (5, errT (some 7))]) ⟨rfl, rfl, rfl, rfl, rfl, trivial⟩ ?_
  refine w_seq ?_
  refine w_seq ?_
  refine w_region ?_
  refine rw_val (v := .int .i64 (n : Int)) (w' := w56) rfl rfl rfl rfl rfl ?_
  refine rw_val (v := .bool (decide (2 < (n : Int)))) (w' := w56) rfl rfl rfl rfl (by simp [go_sem, sEv, sLook, nbeq, i64_w]) ?_
  refine rw_end ?_
  have hq59 : (decide (2 < (n : Int))) = false := by simp; omega
  refine w_cond_f rfl rfl hq59 ?_
  refine w_skip ?_
  refine w_seq ?_
  refine w_region ?_
  refine rw_val (v := errT none) (w' := w56) rfl rfl rfl rfl rfl ?_
  refine rw_val (v := .bool ((none : Option Int).isNone)) (w' := w56) rfl rfl rfl rfl (run_as (guard_err_eq0 _ (none : Option Int) _)) ?_
  refine rw_val (v := .bool ((none : Option Int).isNone)) (w' := w56) rfl rfl rfl rfl rfl ?_
  have hq60 : ((none : Option Int).isNone) = true := by rfl
  refine rw_on (c := (none : Option Int).isNone) rfl rfl rfl (by first | (rw [hq60]; rfl) | simp [hq60]) ?_
  refine rw_val (v := errT (some 7)) (w' := w56) rfl rfl rfl rfl rfl ?_
  refine rw_on (c := (none : Option Int).isNone) rfl rfl rfl (by first | (rw [hq60]; rfl) | simp [hq60]) ?_
  refine rw_val (v := .bool ((some 7).isNone)) (w' := w56) rfl rfl rfl rfl (run_as (guard_err_eq0 _ (some 7) _)) ?_
  refine rw_on (c := (none : Option Int).isNone) rfl rfl rfl (by first | (rw [hq60]; rfl) | simp [hq60]) ?_
  refine rw_val (v := .int .i64 (n : Int)) (w' := w56) rfl rfl rfl rfl rfl ?_
  refine rw_on (c := (none : Option Int).isNone) rfl rfl rfl (by first | (rw [hq60]; rfl) | simp [hq60]) ?_
  refine rw_val (v := .bool ((n : Int) == 0)) (w' := w56) rfl rfl rfl rfl (by simp [go_sem, sEv, sLook, nbeq, i64_w]) ?_
  refine rw_on (c := (none : Option Int).isNone) rfl rfl rfl (by first | (rw [hq60]; rfl) | simp [hq60]) ?_
  refine rw_val (v := .bool (((some 7).isNone) == ((n : Int) == 0))) (w' := w56) rfl rfl rfl rfl (by first | (simp [go_sem, sEv, sLook, nbeq, i64_w]; done) | (simp [go_sem, sEv, sLook, nbeq, i64_w] <;> cases h0_ : (some 7).isNone <;> cases h1_ : ((n : Int) == 0) <;> rfl)) ?_
  refine rw_val (v := .bool (((some 7).isNone) == ((n : Int) == 0))) (w' := w56) rfl rfl rfl rfl (by first | (simp [go_sem, sEv, sLook, nbeq, i64_w, hq60]; done) | (simp [go_sem, sEv, sLook, nbeq, i64_w] <;> omega) | (simp [go_sem, sEv, sLook, nbeq, i64_w]; intro h_; exact absurd (by omega) h_)) ?_
  refine rw_val (v := .bool (((some 7).isNone) == ((n : Int) == 0))) (w' := w56) rfl rfl rfl rfl rfl ?_
  have hq61 : (((some 7).isNone) == ((n : Int) == 0)) = true := by have h0_ : ((n : Int) == 0) = false := (by simp; omega); rw [h0_]; rfl
  refine rw_on (c := (((some 7).isNone) == ((n : Int) == 0))) rfl rfl rfl (by first | (rw [hq61]; rfl) | simp [hq61]) ?_
  refine rw_val (v := .pointer (some ⟨g3, 0, none⟩)) (w' := w56) rfl rfl rfl rfl rfl ?_
  refine rw_on (c := (((some 7).isNone) == ((n : Int) == 0))) rfl rfl rfl (by first | (rw [hq61]; rfl) | simp [hq61]) ?_
  refine rw_call rfl rfl rfl rfl (f := 13) (args := #[.pointer (some ⟨g3, 0, none⟩)]) (by simp [go_sem, sEv, sLook, nbeq, i64_w]) (sync_pl w w56 g3 w56.heap.size (zs7 ++ zs27) 0 2 hT57 (by first | omega | (simp; done) | (simp; omega)) (by first | omega | (simp; done) | (simp; omega)) (by first | omega | (simp; done) | (simp; omega))) ?_
  rintro e_ w62 ⟨rfl, hT63, hs64⟩
  refine ⟨_, rfl, ?_⟩
  have hs_w62 := hT63.1.size
  have hT63_ : TapeAt w w62 g3 w62.heap.size (pl (zs7 ++ zs27) ((zs7 ++ zs27).length : Int) 3) := by have h_ := hT63; simpa using h_
  refine rw_on (c := (((some 7).isNone) == ((n : Int) == 0))) rfl rfl rfl (by first | (rw [hq61]; rfl) | simp [hq61]) ?_
  refine rw_val (v := .bool ((none : Option Int).isNone)) (w' := w62) rfl rfl rfl rfl (run_as (guard_err_eq0 _ (none : Option Int) _)) ?_
  refine rw_val (v := .bool ((none : Option Int).isNone)) (w' := w62) rfl rfl rfl rfl (by first | (simp [go_sem, sEv, sLook, nbeq, i64_w, hq61]; done) | (simp [go_sem, sEv, sLook, nbeq, i64_w] <;> omega) | (simp [go_sem, sEv, sLook, nbeq, i64_w]; intro h_; exact absurd (by omega) h_)) ?_
  refine rw_val (v := .bool ((none : Option Int).isNone)) (w' := w62) rfl rfl rfl rfl rfl ?_
  refine rw_on (c := (none : Option Int).isNone) rfl rfl rfl (by first | (rw [hq60]; rfl) | simp [hq60]) ?_
  refine rw_val (v := .pointer (some ⟨g3, 0, none⟩)) (w' := w62) rfl rfl rfl rfl rfl ?_
  refine rw_on (c := (none : Option Int).isNone) rfl rfl rfl (by first | (rw [hq60]; rfl) | simp [hq60]) ?_
  refine rw_call rfl rfl rfl rfl (f := 16) (args := #[.pointer (some ⟨g3, 0, none⟩)]) (by simp [go_sem, sEv, sLook, nbeq, i64_w]) (sure_pl w w62 g3 w62.heap.size (zs7 ++ zs27) ((zs7 ++ zs27).length : Int) 3 hT63_ (by first | omega | (simp; done) | (simp; omega)) (by first | omega | (simp; done) | (simp; omega)) (by first | omega | (simp; done) | (simp; omega))) ?_
  rintro e_ w65 ⟨rfl, rfl⟩
  refine ⟨_, rfl, ?_⟩
  refine rw_on (c := (none : Option Int).isNone) rfl rfl rfl (by first | (rw [hq60]; rfl) | simp [hq60]) ?_
  refine rw_val (v := .int .i64 (n : Int)) (w' := w62) rfl rfl rfl rfl rfl ?_
  refine rw_on (c := (none : Option Int).isNone) rfl rfl rfl (by first | (rw [hq60]; rfl) | simp [hq60]) ?_
  refine rw_val (v := .int .i64 (1048574 + n : Int)) (w' := w62) rfl rfl rfl rfl (by simp [go_sem, sEv, sLook, nbeq, i64_w]; exact wrap_id (by omega) (by omega)) ?_
  refine rw_on (c := (none : Option Int).isNone) rfl rfl rfl (by first | (rw [hq60]; rfl) | simp [hq60]) ?_
  refine rw_val (v := .bool (((zs7 ++ zs27).length : Int) == (1048574 + n : Int))) (w' := w62) rfl rfl rfl rfl (by simp [go_sem, sEv, sLook, nbeq, i64_w]) ?_
  refine rw_val (v := .bool (((zs7 ++ zs27).length : Int) == (1048574 + n : Int))) (w' := w62) rfl rfl rfl rfl (by first | (simp [go_sem, sEv, sLook, nbeq, i64_w, hq60]; done) | (simp [go_sem, sEv, sLook, nbeq, i64_w] <;> omega) | (simp [go_sem, sEv, sLook, nbeq, i64_w]; intro h_; exact absurd (by omega) h_)) ?_
  refine rw_val (v := .bool (((zs7 ++ zs27).length : Int) == (1048574 + n : Int))) (w' := w62) rfl rfl rfl rfl rfl ?_
  have hq66 : (((zs7 ++ zs27).length : Int) == (1048574 + n : Int)) = true := by simp; omega
  refine rw_off (c := (((zs7 ++ zs27).length : Int) == (1048574 + n : Int))) rfl rfl rfl (by first | (rw [hq66]; rfl) | simp [hq66]) rfl rfl ?_
  refine rw_off (c := (((zs7 ++ zs27).length : Int) == (1048574 + n : Int))) rfl rfl rfl (by first | (rw [hq66]; rfl) | simp [hq66]) rfl rfl ?_
  refine rw_off (c := (((zs7 ++ zs27).length : Int) == (1048574 + n : Int))) rfl rfl rfl (by first | (rw [hq66]; rfl) | simp [hq66]) rfl rfl ?_
  refine rw_offu rfl rfl rfl rfl rfl ?_
  refine rw_offu rfl rfl rfl rfl rfl ?_
  refine rw_offu rfl rfl rfl rfl rfl ?_
  refine rw_off (c := (((zs7 ++ zs27).length : Int) == (1048574 + n : Int))) rfl rfl rfl (by first | (rw [hq66]; rfl) | simp [hq66]) rfl rfl ?_
  refine rw_val (v := .bool true) (w' := w62) rfl rfl rfl rfl (by first | (simp [go_sem, sEv, sLook, nbeq, i64_w, hq66]; done) | (simp [go_sem, sEv, sLook, nbeq, i64_w] <;> omega) | (simp [go_sem, sEv, sLook, nbeq, i64_w]; intro h_; exact absurd (by omega) h_)) ?_
  refine rw_val (v := .bool true) (w' := w62) rfl rfl rfl rfl rfl ?_
  refine rw_end ?_
  refine w_weaken (G' := [(2, .bool true)]) ⟨rfl, trivial⟩ ?_
  refine w_ret (post_ret1 rfl rfl ?_)
  exact ⟨rfl, hT63_.1⟩
set_option maxHeartbeats 4000000 in
theorem full_zero (k : Int) (n : Nat) (hmod : Int.tmod (IntKind.u64.wrap k) 5 = (n : Int)) (hn : n = 0) (w : World) :
    Calls Try.prog 5 #[.int .i64 k] w fun e w' => e = .returned (.bool true) ∧ Below w.heap.size w w' := by
  refine calls_flow Try.func5 rfl 73 rfl (Nat.le_of_ble_eq_true rfl) [(0, .int .i64 k)] ?_ ?_
  · intro t v h; exact args_look rfl t v h
  refine w_seq ?_
  refine w_region ?_
  refine rw_val (v := .bool false) (w' := w) rfl rfl rfl rfl rfl ?_
  refine rw_end ?_
  refine w_seq ?_
  refine w_seq ?_
  refine w_region ?_
  refine rw_call rfl rfl rfl rfl (f := 10) (args := #[]) (by simp [go_sem, sEv, sLook, nbeq, i64_w]) (alive_calls w) ?_
  rintro e_ w1 ⟨rfl, hb2⟩
  refine ⟨_, rfl, ?_⟩
  have hs_w1 := hb2.size
  refine rw_val (v := .bool false) (w' := w1) rfl rfl rfl rfl (by simp [go_sem, sEv, sLook, nbeq, i64_w]) ?_
  refine rw_end ?_
  refine w_cond_f rfl rfl rfl ?_
  refine w_skip ?_
  refine w_seq ?_
  refine w_region ?_
  refine rw_val (v := .int .i64 k) (w' := w1) rfl rfl rfl rfl rfl ?_
  refine rw_val (v := .int .u64 (IntKind.u64.wrap (k))) (w' := w1) rfl rfl rfl rfl (by simp [go_sem, sEv, sLook, nbeq, i64_w, Try.underlying3, Try.underlying26]) ?_
  refine rw_val (v := .int .u64 (n : Int)) (w' := w1) rfl rfl rfl rfl (by simp [go_sem, sEv, sLook, nbeq, i64_w]; exact hmod) ?_
  refine rw_val (v := .int .i64 (n : Int)) (w' := w1) rfl rfl rfl rfl (by simp [go_sem, sEv, sLook, nbeq, i64_w]; exact wrap_id (by omega) (by omega)) ?_
  refine rw_val (v := .int .i64 (n : Int)) (w' := w1) rfl rfl rfl rfl rfl ?_
  refine rw_end ?_
  refine w_weaken (G' := [(0, .int .i64 (n : Int)), (2, .bool false)]) ⟨rfl, rfl, trivial⟩ ?_
  refine w_seq ?_
  refine w_region ?_
  refine rw_call rfl rfl rfl rfl (f := 11) (args := #[]) (by simp [go_sem, sEv, sLook, nbeq, i64_w]) (new_T w1) ?_
  rintro e_ w4 ⟨g3, rfl, hT5_, hs6⟩
  refine ⟨_, rfl, ?_⟩
  have hT5 : TapeAt w w4 g3 w4.heap.size (pl [] 0 0) := new_on hb2 hT5_
  have hs_w4 := hT5.1.size
  refine rw_val (v := .pointer (some ⟨g3, 0, none⟩)) (w' := w4) rfl rfl rfl rfl rfl ?_
  refine rw_end ?_
  refine w_seq ?_
  refine w_seq ?_
  refine w_region ?_
  refine rw_val (v := .pointer (some ⟨g3, 0, none⟩)) (w' := w4) rfl rfl rfl rfl rfl ?_
  obtain ⟨zs7, hz8, hN9⟩ := zeros (1048574)
  rw [← hz8] at hN9
  refine rw_new (cs := madeCells #[Value.int .u8 0] zs7.length) (t := 5) (fun g => .slice (some ⟨g, 0, none⟩) zs7.length zs7.length) rfl rfl rfl rfl (run_as (make_run _ _ zs7.length (by omega) (by omega))) ?_
  intro g10 w11 hg15 hZ14 hb12 hk13
  have hs_w11 := hb12.size
  refine rw_new (cs := #[.slice (some ⟨g10, 0, none⟩) zs7.length zs7.length]) (t := 27) (fun g => .slice (some ⟨g, 0, none⟩) 1 1) rfl rfl rfl rfl (by kernel_rfl) ?_
  intro g17 w18 hg22 hz21 hb19 hk20
  have hs_w18 := hb19.size
  refine rw_call rfl rfl rfl rfl (f := 12) (args := #[.pointer (some ⟨g3, 0, none⟩), .slice (some ⟨g17, 0, none⟩) 1 1]) (by simp [go_sem, sEv, sLook, nbeq, i64_w]) (append_pl w w18 g3 w4.heap.size [] 0 0 (TapeAt.on hT5 (chain hb12 hb19)) (by first | omega | (simp; done) | (simp; omega)) (by first | omega | (simp; done) | (simp; omega)) (by first | omega | (simp; done) | (simp; omega)) _ [zs7] 1 (rowsK1 (hk20) (fun hq => by omega) (Nat.le_refl _) (FB.K (FB.on (⟨_, hk13⟩ : FB w11 g10 5 _) hb19) hN9 (by first | omega | simp) (fun hq => by (try simp only at hq); omega))) (by simp) (by first | omega | (simp; done) | (simp; omega)) (by first | omega | (simp; done) | (simp; omega))) ?_
  rintro e_ w23 ⟨rfl, hT24, hs25⟩
  refine ⟨_, rfl, ?_⟩
  have hs_w23 := hT24.1.size
  have hT24_ : TapeAt w w23 g3 w23.heap.size (pl zs7 0 1) := by have h_ := hT24; simpa using h_
  refine rw_val (v := .bool ((none : Option Int).isSome)) (w' := w23) rfl rfl rfl rfl (run_as (guard_err_neq _ (none : Option Int) _)) ?_
  refine rw_end ?_
  refine w_weaken (G' := [(0, .int .i64 (n : Int)), (2, .bool false), (3, .pointer (some ⟨g3, 0, none⟩)), (17, .bool ((none : Option Int).isSome))]) ⟨rfl, rfl, rfl, rfl, trivial⟩ ?_
  have hq26 : ((none : Option Int).isSome) = false := by rfl
  refine w_cond_f rfl rfl hq26 ?_
  refine w_skip ?_
  refine w_seq ?_
  refine w_region ?_
  refine rw_val (v := .pointer (some ⟨g3, 0, none⟩)) (w' := w23) rfl rfl rfl rfl rfl ?_
  refine rw_val (v := .int .i64 (n : Int)) (w' := w23) rfl rfl rfl rfl rfl ?_
  obtain ⟨zs27, hz28, hN29⟩ := zeros (n)
  rw [← hz28] at hN29
  refine rw_new (cs := madeCells #[Value.int .u8 0] zs27.length) (t := 5) (fun g => .slice (some ⟨g, 0, none⟩) zs27.length zs27.length) rfl rfl rfl rfl (run_as (make_run _ _ zs27.length (by omega) (by omega))) ?_
  intro g30 w31 hg35 hZ34 hb32 hk33
  have hs_w31 := hb32.size
  refine rw_new (cs := #[.slice (some ⟨g30, 0, none⟩) zs27.length zs27.length]) (t := 27) (fun g => .slice (some ⟨g, 0, none⟩) 1 1) rfl rfl rfl rfl (by kernel_rfl) ?_
  intro g37 w38 hg42 hz41 hb39 hk40
  have hs_w38 := hb39.size
  refine rw_call rfl rfl rfl rfl (f := 12) (args := #[.pointer (some ⟨g3, 0, none⟩), .slice (some ⟨g37, 0, none⟩) 1 1]) (by simp [go_sem, sEv, sLook, nbeq, i64_w]) (append_pl w w38 g3 w23.heap.size zs7 0 1 (TapeAt.on hT24_ (chain hb32 hb39)) (by first | omega | (simp; done) | (simp; omega)) (by first | omega | (simp; done) | (simp; omega)) (by first | omega | (simp; done) | (simp; omega)) _ [zs27] 1 (rowsK1 (hk40) (fun hq => by omega) (Nat.le_refl _) (FB.K (FB.on (⟨_, hk33⟩ : FB w31 g30 5 _) hb39) hN29 (by first | omega | simp) (fun hq => by (try simp only at hq); omega))) (by simp) (by first | omega | (simp; done) | (simp; omega)) (by first | omega | (simp; done) | (simp; omega))) ?_
  rintro e_ w43 ⟨rfl, hT44, hs45⟩
  refine ⟨_, rfl, ?_⟩
  have hs_w43 := hT44.1.size
  have hT44_ : TapeAt w w43 g3 w43.heap.size (pl (zs7 ++ zs27) 0 2) := by have h_ := hT44; simpa using h_
  refine rw_val (v := errT none) (w' := w43) rfl rfl rfl rfl rfl ?_
  refine rw_end ?_
  refine w_weaken (G' := [(0, .int .i64 (n : Int)), (2, .bool false), (3, .pointer (some ⟨g3, 0, none⟩)), (4, errT none)]) ⟨rfl, rfl, rfl, rfl, trivial⟩ ?_
  refine w_seq ?_
  refine w_region ?_
  refine rw_val (v := .pointer (some ⟨g3, 0, none⟩)) (w' := w43) rfl rfl rfl rfl rfl ?_
  refine rw_val (v := .int .i64 (n : Int)) (w' := w43) rfl rfl rfl rfl rfl ?_
  refine rw_val (v := .int .i64 (1048576 + n : Int)) (w' := w43) rfl rfl rfl rfl (by simp [go_sem, sEv, sLook, nbeq, i64_w]; exact wrap_id (by omega) (by omega)) ?_
  obtain ⟨zs46, hz47, hN48⟩ := zeros (1048576 + n)
  rw [← hz47] at hN48
  refine rw_new (cs := madeCells #[Value.int .u8 0] zs46.length) (t := 5) (fun g => .slice (some ⟨g, 0, none⟩) zs46.length zs46.length) rfl rfl rfl rfl (run_as (make_run _ _ zs46.length (by omega) (by omega))) ?_
  intro g49 w50 hg54 hZ53 hb51 hk52
  have hs_w50 := hb51.size
  have hgm_ := hT44_.2.2.1
  refine rw_call rfl rfl rfl rfl (f := 18) (args := #[.pointer (some ⟨g3, 0, none⟩), .slice (some ⟨g49, 0, none⟩) zs46.length zs46.length]) (by simp [go_sem, sEv, sLook, nbeq, i64_w]) (replace_pl w w50 g3 w43.heap.size (zs7 ++ zs27) 0 2 (TapeAt.on hT44_ hb51) (by first | omega | (simp; done) | (simp; omega)) (by first | omega | (simp; done) | (simp; omega)) (by first | omega | (simp; done) | (simp; omega)) _ zs46 zs46.length (FB.K (⟨_, hk52⟩ : FB w50 g49 5 _) hN48 (by first | omega | simp) (fun hq => by (try simp only at hq); omega)) (by omega)) ?_
  rintro e_ w56 ⟨rfl, hT57, hs58⟩
  refine ⟨_, rfl, ?_⟩
  have hs_w56 := hT57.1.size
  have hT57_ : TapeAt w w56 g3 w56.heap.size (pl zs46 (zs46.length : Int) 3) := by have h_ := hT57; simpa using h_
  refine rw_val (v := errT none) (w' := w56) rfl rfl rfl rfl rfl ?_
  refine rw_end ?_
  refine w_weaken (G' := [(0, .int .i64 (n : Int)), (2, .bool false), (3, .pointer (some ⟨g3, 0, none⟩)), (4, errT none), (5, errT none)]) ⟨rfl, rfl, rfl, rfl, rfl, trivial⟩ ?_
  refine w_seq ?_
  refine w_seq ?_
  refine w_region ?_
  refine rw_val (v := .int .i64 (n : Int)) (w' := w56) rfl rfl rfl rfl rfl ?_
  refine rw_val (v := .bool (decide (2 < (n : Int)))) (w' := w56) rfl rfl rfl rfl (by simp [go_sem, sEv, sLook, nbeq, i64_w]) ?_
  refine rw_end ?_
  have hq59 : (decide (2 < (n : Int))) = false := by simp; omega
  refine w_cond_f rfl rfl hq59 ?_
  refine w_skip ?_
  refine w_seq ?_
  refine w_region ?_
  refine rw_val (v := errT none) (w' := w56) rfl rfl rfl rfl rfl ?_
  refine rw_val (v := .bool ((none : Option Int).isNone)) (w' := w56) rfl rfl rfl rfl (run_as (guard_err_eq0 _ (none : Option Int) _)) ?_
  refine rw_val (v := .bool ((none : Option Int).isNone)) (w' := w56) rfl rfl rfl rfl rfl ?_
  have hq60 : ((none : Option Int).isNone) = true := by rfl
  refine rw_on (c := (none : Option Int).isNone) rfl rfl rfl (by first | (rw [hq60]; rfl) | simp [hq60]) ?_
  refine rw_val (v := errT none) (w' := w56) rfl rfl rfl rfl rfl ?_
  refine rw_on (c := (none : Option Int).isNone) rfl rfl rfl (by first | (rw [hq60]; rfl) | simp [hq60]) ?_
  refine rw_val (v := .bool ((none : Option Int).isNone)) (w' := w56) rfl rfl rfl rfl (run_as (guard_err_eq0 _ (none : Option Int) _)) ?_
  refine rw_on (c := (none : Option Int).isNone) rfl rfl rfl (by first | (rw [hq60]; rfl) | simp [hq60]) ?_
  refine rw_val (v := .int .i64 (n : Int)) (w' := w56) rfl rfl rfl rfl rfl ?_
  refine rw_on (c := (none : Option Int).isNone) rfl rfl rfl (by first | (rw [hq60]; rfl) | simp [hq60]) ?_
  refine rw_val (v := .bool ((n : Int) == 0)) (w' := w56) rfl rfl rfl rfl (by simp [go_sem, sEv, sLook, nbeq, i64_w]) ?_
  refine rw_on (c := (none : Option Int).isNone) rfl rfl rfl (by first | (rw [hq60]; rfl) | simp [hq60]) ?_
  refine rw_val (v := .bool (((none : Option Int).isNone) == ((n : Int) == 0))) (w' := w56) rfl rfl rfl rfl (by first | (simp [go_sem, sEv, sLook, nbeq, i64_w]; done) | (simp [go_sem, sEv, sLook, nbeq, i64_w] <;> cases h0_ : (none : Option Int).isNone <;> cases h1_ : ((n : Int) == 0) <;> rfl)) ?_
  refine rw_val (v := .bool (((none : Option Int).isNone) == ((n : Int) == 0))) (w' := w56) rfl rfl rfl rfl (by first | (simp [go_sem, sEv, sLook, nbeq, i64_w, hq60]; done) | (simp [go_sem, sEv, sLook, nbeq, i64_w] <;> omega) | (simp [go_sem, sEv, sLook, nbeq, i64_w]; intro h_; exact absurd (by omega) h_)) ?_
  refine rw_val (v := .bool (((none : Option Int).isNone) == ((n : Int) == 0))) (w' := w56) rfl rfl rfl rfl rfl ?_
  have hq61 : (((none : Option Int).isNone) == ((n : Int) == 0)) = true := by have h0_ : ((n : Int) == 0) = true := (by simp; omega); rw [h0_]; rfl
  refine rw_on (c := (((none : Option Int).isNone) == ((n : Int) == 0))) rfl rfl rfl (by first | (rw [hq61]; rfl) | simp [hq61]) ?_
  refine rw_val (v := .pointer (some ⟨g3, 0, none⟩)) (w' := w56) rfl rfl rfl rfl rfl ?_
  refine rw_on (c := (((none : Option Int).isNone) == ((n : Int) == 0))) rfl rfl rfl (by first | (rw [hq61]; rfl) | simp [hq61]) ?_
  refine rw_call rfl rfl rfl rfl (f := 13) (args := #[.pointer (some ⟨g3, 0, none⟩)]) (by simp [go_sem, sEv, sLook, nbeq, i64_w]) (sync_pl w w56 g3 w56.heap.size zs46 (zs46.length : Int) 3 hT57_ (by first | omega | (simp; done) | (simp; omega)) (by first | omega | (simp; done) | (simp; omega)) (by first | omega | (simp; done) | (simp; omega))) ?_
  rintro e_ w62 ⟨rfl, hT63, hs64⟩
  refine ⟨_, rfl, ?_⟩
  have hs_w62 := hT63.1.size
  have hT63_ : TapeAt w w62 g3 w62.heap.size (pl zs46 ((zs46).length : Int) 4) := by have h_ := hT63; simpa using h_
  refine rw_on (c := (((none : Option Int).isNone) == ((n : Int) == 0))) rfl rfl rfl (by first | (rw [hq61]; rfl) | simp [hq61]) ?_
  refine rw_val (v := .bool ((none : Option Int).isNone)) (w' := w62) rfl rfl rfl rfl (run_as (guard_err_eq0 _ (none : Option Int) _)) ?_
  refine rw_val (v := .bool ((none : Option Int).isNone)) (w' := w62) rfl rfl rfl rfl (by first | (simp [go_sem, sEv, sLook, nbeq, i64_w, hq61]; done) | (simp [go_sem, sEv, sLook, nbeq, i64_w] <;> omega) | (simp [go_sem, sEv, sLook, nbeq, i64_w]; intro h_; exact absurd (by omega) h_)) ?_
  refine rw_val (v := .bool ((none : Option Int).isNone)) (w' := w62) rfl rfl rfl rfl rfl ?_
  refine rw_on (c := (none : Option Int).isNone) rfl rfl rfl (by first | (rw [hq60]; rfl) | simp [hq60]) ?_
  refine rw_val (v := .pointer (some ⟨g3, 0, none⟩)) (w' := w62) rfl rfl rfl rfl rfl ?_
  refine rw_on (c := (none : Option Int).isNone) rfl rfl rfl (by first | (rw [hq60]; rfl) | simp [hq60]) ?_
  refine rw_call rfl rfl rfl rfl (f := 16) (args := #[.pointer (some ⟨g3, 0, none⟩)]) (by simp [go_sem, sEv, sLook, nbeq, i64_w]) (sure_pl w w62 g3 w62.heap.size zs46 ((zs46).length : Int) 4 hT63_ (by first | omega | (simp; done) | (simp; omega)) (by first | omega | (simp; done) | (simp; omega)) (by first | omega | (simp; done) | (simp; omega))) ?_
  rintro e_ w65 ⟨rfl, rfl⟩
  refine ⟨_, rfl, ?_⟩
  refine rw_on (c := (none : Option Int).isNone) rfl rfl rfl (by first | (rw [hq60]; rfl) | simp [hq60]) ?_
  refine rw_val (v := .int .i64 (n : Int)) (w' := w62) rfl rfl rfl rfl rfl ?_
  refine rw_on (c := (none : Option Int).isNone) rfl rfl rfl (by first | (rw [hq60]; rfl) | simp [hq60]) ?_
  refine rw_val (v := .int .i64 (1048574 + n : Int)) (w' := w62) rfl rfl rfl rfl (by simp [go_sem, sEv, sLook, nbeq, i64_w]; exact wrap_id (by omega) (by omega)) ?_
  refine rw_on (c := (none : Option Int).isNone) rfl rfl rfl (by first | (rw [hq60]; rfl) | simp [hq60]) ?_
  refine rw_val (v := .bool (((zs46).length : Int) == (1048574 + n : Int))) (w' := w62) rfl rfl rfl rfl (by simp [go_sem, sEv, sLook, nbeq, i64_w]) ?_
  refine rw_val (v := .bool (((zs46).length : Int) == (1048574 + n : Int))) (w' := w62) rfl rfl rfl rfl (by first | (simp [go_sem, sEv, sLook, nbeq, i64_w, hq60]; done) | (simp [go_sem, sEv, sLook, nbeq, i64_w] <;> omega) | (simp [go_sem, sEv, sLook, nbeq, i64_w]; intro h_; exact absurd (by omega) h_)) ?_
  refine rw_val (v := .bool (((zs46).length : Int) == (1048574 + n : Int))) (w' := w62) rfl rfl rfl rfl rfl ?_
  have hq66 : (((zs46).length : Int) == (1048574 + n : Int)) = false := by simp; omega
  refine rw_on (c := (((zs46).length : Int) == (1048574 + n : Int))) rfl rfl rfl (by first | (rw [hq66]; rfl) | simp [hq66]) ?_
  refine rw_val (v := .int .i64 (n : Int)) (w' := w62) rfl rfl rfl rfl rfl ?_
  refine rw_on (c := (((zs46).length : Int) == (1048574 + n : Int))) rfl rfl rfl (by first | (rw [hq66]; rfl) | simp [hq66]) ?_
  refine rw_val (v := .bool ((n : Int) == 0)) (w' := w62) rfl rfl rfl rfl (by simp [go_sem, sEv, sLook, nbeq, i64_w]) ?_
  refine rw_on (c := (((zs46).length : Int) == (1048574 + n : Int))) rfl rfl rfl (by first | (rw [hq66]; rfl) | simp [hq66]) ?_
  refine rw_val (v := .bool ((n : Int) == 0)) (w' := w62) rfl rfl rfl rfl rfl ?_
  have hq67 : ((n : Int) == 0) = true := by simp; omega
  refine rw_on (c := ((n : Int) == 0)) rfl rfl rfl (by first | (rw [hq67]; rfl) | simp [hq67]) ?_
  refine rw_val (v := .pointer (some ⟨g3, 0, none⟩)) (w' := w62) rfl rfl rfl rfl rfl ?_
  refine rw_on (c := ((n : Int) == 0)) rfl rfl rfl (by first | (rw [hq67]; rfl) | simp [hq67]) ?_
  refine rw_call rfl rfl rfl rfl (f := 16) (args := #[.pointer (some ⟨g3, 0, none⟩)]) (by simp [go_sem, sEv, sLook, nbeq, i64_w]) (sure_pl w w62 g3 w62.heap.size zs46 ((zs46).length : Int) 4 hT63_ (by first | omega | (simp; done) | (simp; omega)) (by first | omega | (simp; done) | (simp; omega)) (by first | omega | (simp; done) | (simp; omega))) ?_
  rintro e_ w68 ⟨rfl, rfl⟩
  refine ⟨_, rfl, ?_⟩
  refine rw_on (c := ((n : Int) == 0)) rfl rfl rfl (by first | (rw [hq67]; rfl) | simp [hq67]) ?_
  refine rw_val (v := .bool (((zs46).length : Int) == 1048576)) (w' := w62) rfl rfl rfl rfl (by simp [go_sem, sEv, sLook, nbeq, i64_w]) ?_
  refine rw_on (c := (((zs46).length : Int) == (1048574 + n : Int))) rfl rfl rfl (by first | (rw [hq66]; rfl) | simp [hq66]) ?_
  refine rw_val (v := .bool (((zs46).length : Int) == 1048576)) (w' := w62) rfl rfl rfl rfl (by first | (simp [go_sem, sEv, sLook, nbeq, i64_w, hq67]; done) | (simp [go_sem, sEv, sLook, nbeq, i64_w] <;> omega) | (simp [go_sem, sEv, sLook, nbeq, i64_w]; intro h_; exact absurd (by omega) h_)) ?_
  refine rw_val (v := .bool (((zs46).length : Int) == 1048576)) (w' := w62) rfl rfl rfl rfl (by first | (simp [go_sem, sEv, sLook, nbeq, i64_w, hq66]; done) | (simp [go_sem, sEv, sLook, nbeq, i64_w] <;> omega) | (simp [go_sem, sEv, sLook, nbeq, i64_w]; intro h_; exact absurd (by omega) h_)) ?_
  refine rw_val (v := .bool (((zs46).length : Int) == 1048576)) (w' := w62) rfl rfl rfl rfl rfl ?_
  refine rw_end ?_
  refine w_weaken (G' := [(2, .bool (((zs46).length : Int) == 1048576))]) ⟨rfl, trivial⟩ ?_
  have hq69 : (((zs46).length : Int) == 1048576) = true := by simp; omega
  refine w_ret (post_ret1 rfl rfl ?_)
  exact ⟨by simp only [hq69], hT63_.1⟩

theorem walkFull (k : Int) (w : World) : Calls Try.prog 5 #[.int .i64 k] w fun e w' => e = .returned (.bool true) ∧ Below w.heap.size w w' := by
  have h0 : 0 ≤ IntKind.u64.wrap k := by rw [u64_wrap]; omega
  obtain ⟨n, hn⟩ := Int.eq_ofNat_of_zero_le (show 0 ≤ Int.tmod (IntKind.u64.wrap k) 5 by rw [Int.tmod_eq_emod_of_nonneg h0]; omega)
  have h5 : n < 5 := by rw [Int.tmod_eq_emod_of_nonneg h0] at hn; omega
  by_cases h2 : 2 < n
  · exact full_hi k n hn ⟨h2, h5⟩ w
  · by_cases h3 : n = 0
    · exact full_zero k n hn h3 w
    · exact full_mid k n hn ⟨by omega, by omega⟩ w
end Go.Proofs.Ytpbpeklbmmbigaa.Tp
