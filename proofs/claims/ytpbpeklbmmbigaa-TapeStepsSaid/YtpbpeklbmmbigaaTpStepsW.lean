/- Just so many steps as it is armed with: the walk. -/
import Derived.Test.YtpbpeklbmmbigaaTpSteps
namespace Go.Proofs.Ytpbpeklbmmbigaa.Tp
open Go.RowKit Go.Proofs.YtpbpeklbmmbigaaW.PrintWords Go.Proofs.YtpbpeklbmmbigaaW.PrintLast Go.Proofs.YtpbpeklbmmbigaaW.PrintMore
open Go.Proofs.Ytpbpeklbmmbigaa.Flow
set_option linter.unusedVariables false
set_option linter.unusedSimpArgs false

set_option maxHeartbeats 4000000 in
theorem steps_nat (ka kf kc : Int) (a f c : Nat) (ha_ : Int.tmod (IntKind.u64.wrap ka) 40 = (a : Int)) (hf_ : Int.tmod (IntKind.u64.wrap kf) 40 = (f : Int)) (hc_ : Int.tmod (IntKind.u64.wrap kc) 60 = (c : Int)) (hla : a < 40) (hlf : f < 40) (hlc : c < 60) (w : World) :
    Calls Try.prog 6 #[.int .i64 ka, .int .i64 kf, .int .i64 kc] w fun e w' => e = .returned (.bool true) ∧ Below w.heap.size w w' := by
  refine calls_flow Try.func6 rfl 86 rfl (Nat.le_of_ble_eq_true rfl) [(0, .int .i64 ka), (1, .int .i64 kf), (2, .int .i64 kc)] ?_ ?_
  · intro t v h; exact args_look rfl t v h
  refine w_seq ?_
  refine w_region ?_
  refine rw_val (v := .bool false) (w' := w) rfl rfl rfl rfl rfl ?_
  refine rw_end ?_
  refine w_seq ?_
  refine w_seq ?_
  refine w_region ?_
  refine rw_call rfl rfl rfl rfl (f := 10) (args := #[]) (by simp [go_sem, sEv, sLook, nbeq, i64_w]) (alive_calls w) ?_
  rintro e_ w1 ⟨rfl, hb2⟩
  refine ⟨_, rfl, ?_⟩
  have hs_w1 := hb2.size
  refine rw_val (v := .bool false) (w' := w1) rfl rfl rfl rfl (by simp [go_sem, sEv, sLook, nbeq, i64_w]) ?_
  refine rw_end ?_
  refine w_cond_f rfl rfl rfl ?_
  refine w_skip ?_
  refine w_seq ?_
  refine w_region ?_
  refine rw_val (v := .int .i64 ka) (w' := w1) rfl rfl rfl rfl rfl ?_
  refine rw_val (v := .int .u64 (IntKind.u64.wrap (ka))) (w' := w1) rfl rfl rfl rfl (by simp [go_sem, sEv, sLook, nbeq, i64_w, Try.underlying3, Try.underlying26]) ?_
  refine rw_val (v := .int .u64 (a : Int)) (w' := w1) rfl rfl rfl rfl (by simp [go_sem, sEv, sLook, nbeq, i64_w]; exact ha_) ?_
  refine rw_val (v := .int .i64 (a : Int)) (w' := w1) rfl rfl rfl rfl (by simp [go_sem, sEv, sLook, nbeq, i64_w]; exact wrap_id (by omega) (by omega)) ?_
  refine rw_val (v := .int .i64 kf) (w' := w1) rfl rfl rfl rfl rfl ?_
  refine rw_val (v := .int .u64 (IntKind.u64.wrap (kf))) (w' := w1) rfl rfl rfl rfl (by simp [go_sem, sEv, sLook, nbeq, i64_w, Try.underlying3, Try.underlying26]) ?_
  refine rw_val (v := .int .u64 (f : Int)) (w' := w1) rfl rfl rfl rfl (by simp [go_sem, sEv, sLook, nbeq, i64_w]; exact hf_) ?_
  refine rw_val (v := .int .i64 (f : Int)) (w' := w1) rfl rfl rfl rfl (by simp [go_sem, sEv, sLook, nbeq, i64_w]; exact wrap_id (by omega) (by omega)) ?_
  refine rw_val (v := .int .i64 kc) (w' := w1) rfl rfl rfl rfl rfl ?_
  refine rw_val (v := .int .u64 (IntKind.u64.wrap (kc))) (w' := w1) rfl rfl rfl rfl (by simp [go_sem, sEv, sLook, nbeq, i64_w, Try.underlying3, Try.underlying26]) ?_
  refine rw_val (v := .int .u64 (c : Int)) (w' := w1) rfl rfl rfl rfl (by simp [go_sem, sEv, sLook, nbeq, i64_w]; exact hc_) ?_
  refine rw_val (v := .int .i64 (c : Int)) (w' := w1) rfl rfl rfl rfl (by simp [go_sem, sEv, sLook, nbeq, i64_w]; exact wrap_id (by omega) (by omega)) ?_
  refine rw_val (v := .int .i64 (a : Int)) (w' := w1) rfl rfl rfl rfl rfl ?_
  refine rw_val (v := .int .i64 (f : Int)) (w' := w1) rfl rfl rfl rfl rfl ?_
  refine rw_val (v := .int .i64 (c : Int)) (w' := w1) rfl rfl rfl rfl rfl ?_
  refine rw_end ?_
  refine w_weaken (G' := [(0, .int .i64 (a : Int)), (1, .int .i64 (f : Int)), (2, .int .i64 (c : Int)), (6, .bool false)]) ⟨rfl, rfl, rfl, rfl, trivial⟩ ?_
  refine w_seq ?_
  refine w_region ?_
  refine rw_call rfl rfl rfl rfl (f := 11) (args := #[]) (by simp [go_sem, sEv, sLook, nbeq, i64_w]) (new_T w1) ?_
  rintro e_ w4 ⟨g3, rfl, hT5_, hs6⟩
  refine ⟨_, rfl, ?_⟩
  have hT5 : TapeAt w w4 g3 w4.heap.size (pl [] 0 0) := new_on hb2 hT5_
  have hs_w4 := hT5.1.size
  refine rw_val (v := .pointer (some ⟨g3, 0, none⟩)) (w' := w4) rfl rfl rfl rfl rfl ?_
  refine rw_end ?_
  refine w_seq ?_
  refine w_seq ?_
  refine w_region ?_
  refine rw_val (v := .pointer (some ⟨g3, 0, none⟩)) (w' := w4) rfl rfl rfl rfl rfl ?_
  refine rw_val (v := .int .i64 (a : Int)) (w' := w4) rfl rfl rfl rfl rfl ?_
  refine rw_call rfl rfl rfl rfl (f := 20) (args := #[.pointer (some ⟨g3, 0, none⟩), .int .i64 (a : Int)]) (by simp [go_sem, sEv, sLook, nbeq, i64_w]) (arm_T w w4 g3 w4.heap.size _ hT5 (pl_ok (by simp) (by simp) (by simp)) (a : Int) (by simp)) ?_
  rintro e_ w7 ⟨rfl, hT8, hs9⟩
  refine ⟨.nilIface, rfl, ?_⟩
  have hs_w7 := hT8.1.size
  refine rw_val (v := .bool ((none : Option Int).isSome)) (w' := w7) rfl rfl rfl rfl (run_as (guard_err_neq _ (none : Option Int) _)) ?_
  refine rw_val (v := .bool ((none : Option Int).isSome)) (w' := w7) rfl rfl rfl rfl rfl ?_
  have hq10 : ((none : Option Int).isSome) = false := by rfl
  refine rw_on (c := (none : Option Int).isSome) rfl rfl rfl (by simp [hq10]) ?_
  refine rw_val (v := .pointer (some ⟨g3, 0, none⟩)) (w' := w7) rfl rfl rfl rfl rfl ?_
  refine rw_on (c := (none : Option Int).isSome) rfl rfl rfl (by simp [hq10]) ?_
  refine rw_val (v := .int .i64 (f : Int)) (w' := w7) rfl rfl rfl rfl rfl ?_
  refine rw_on (c := (none : Option Int).isSome) rfl rfl rfl (by simp [hq10]) ?_
  refine rw_call rfl rfl rfl rfl (f := 21) (args := #[.pointer (some ⟨g3, 0, none⟩), .int .i64 (f : Int)]) (by simp [go_sem, sEv, sLook, nbeq, i64_w]) (fail_T w w7 g3 w7.heap.size _ hT8 ⟨by simp [pl], by simp [pl]; omega, by simp [pl], by simp [pl], by simp [pl]⟩ (f : Int) (by simp)) ?_
  rintro e_ w11 ⟨rfl, hT12, hs13⟩
  refine ⟨.nilIface, rfl, ?_⟩
  have hs_w11 := hT12.1.size
  have hT12_ : TapeAt w w11 g3 w11.heap.size ⟨[], 0, 0, true, (a : Int), true, (f : Int), false⟩ := hT12
  refine rw_on (c := (none : Option Int).isSome) rfl rfl rfl (by simp [hq10]) ?_
  refine rw_val (v := .bool ((none : Option Int).isSome)) (w' := w11) rfl rfl rfl rfl (run_as (guard_err_neq _ (none : Option Int) _)) ?_
  refine rw_val (v := .bool ((none : Option Int).isSome)) (w' := w11) rfl rfl rfl rfl (by simp [go_sem, sEv, sLook, nbeq, i64_w, hq10]) ?_
  refine rw_end ?_
  refine w_weaken (G' := [(0, .int .i64 (a : Int)), (1, .int .i64 (f : Int)), (2, .int .i64 (c : Int)), (6, .bool false), (7, .pointer (some ⟨g3, 0, none⟩)), (37, .bool ((none : Option Int).isSome))]) ⟨rfl, rfl, rfl, rfl, rfl, rfl, trivial⟩ ?_
  refine w_cond_f rfl rfl hq10 ?_
  refine w_skip ?_
  refine w_seq ?_
  refine w_seq ?_
  refine w_region ?_
  refine rw_val (v := .int .i64 0) (w' := w11) rfl rfl rfl rfl rfl ?_
  refine rw_end ?_
  refine w_block ?_
  refine w_loop (fun m_ G W_ => ∃ (i m : Nat) (s : TS), i + m_ = c ∧ TapeAt w W_ g3 m s ∧ Inv a f i s ∧ G = [(0, .int .i64 (a : Int)), (1, .int .i64 (f : Int)), (2, .int .i64 (c : Int)), (6, .bool false), (7, .pointer (some ⟨g3, 0, none⟩)), (8, .int .i64 (i : Int))]) c [(0, .int .i64 (a : Int)), (1, .int .i64 (f : Int)), (2, .int .i64 (c : Int)), (6, .bool false), (7, .pointer (some ⟨g3, 0, none⟩)), (8, .int .i64 0)] ⟨0, _, _, by omega, hT12_, inv_start a f (by omega) (by omega), rfl⟩ ⟨rfl, rfl, rfl, rfl, rfl, rfl, trivial⟩ ?_
  rintro m_ G w_ ⟨i, mm, s_, him, hT_, hI, rfl⟩
  have hs_w_ := hT_.1.size
  have hg_w_ := hT_.2.2.1.2
  refine w_seq ?_
  refine w_seq ?_
  refine w_region ?_
  refine rw_val (v := .int .i64 (i : Int)) (w' := w_) rfl rfl rfl rfl rfl ?_
  refine rw_val (v := .int .i64 (c : Int)) (w' := w_) rfl rfl rfl rfl rfl ?_
  refine rw_val (v := .bool (decide ((i : Int) < (c : Int)))) (w' := w_) rfl rfl rfl rfl (by simp [go_sem, sEv, sLook, nbeq, i64_w]) ?_
  refine rw_end ?_
  refine w_cond rfl rfl (fun cL => ?_) (fun cL => ?_)
  · refine w_skip ?_
    refine w_seq ?_
    refine w_block ?_
    refine w_seq ?_
    refine w_region ?_
    refine rw_val (v := .pointer (some ⟨g3, 0, none⟩)) (w' := w_) rfl rfl rfl rfl rfl ?_
    refine rw_val (v := .int .i64 (i : Int)) (w' := w_) rfl rfl rfl rfl rfl ?_
    refine rw_val (v := .int .u8 (IntKind.u8.wrap ((i : Int)))) (w' := w_) rfl rfl rfl rfl (by simp [go_sem, sEv, sLook, nbeq, i64_w, Try.underlying3, Try.underlying5]) ?_
    refine rw_new (cs := #[.int .u8 (IntKind.u8.wrap ((i : Int)))]) (t := 5) (fun g => .slice (some ⟨g, 0, none⟩) 1 1) rfl rfl rfl rfl (by kernel_rfl) ?_
    intro g14 w15 hg19 hz18 hb16 hk17
    have hs_w15 := hb16.size
    have hO20 : Nums .u8 #[.int .u8 (IntKind.u8.wrap ((i : Int)))] [IntKind.u8.wrap ((i : Int))] := (fun j hj => by
      match j, hj with
      | 0, _ => rfl
      | j + 1, hj => simp only [List.length_cons, List.length_nil] at hj; omega)
    refine rw_new (cs := #[.slice (some ⟨g14, 0, none⟩) 1 1]) (t := 27) (fun g => .slice (some ⟨g, 0, none⟩) 1 1) rfl rfl rfl rfl (by kernel_rfl) ?_
    intro g21 w22 hg26 hz25 hb23 hk24
    have hs_w22 := hb23.size
    have hgm_ := (TapeAt.on hT_ (chain hb16 hb23)).2.2.1
    refine rw_call rfl rfl rfl rfl (f := 12) (args := #[.pointer (some ⟨g3, 0, none⟩), .slice (some ⟨g21, 0, none⟩) 1 1]) (by simp [go_sem, sEv, sLook, nbeq, i64_w]) (append_inv w w22 g3 mm a f i _ (TapeAt.on hT_ (chain hb16 hb23)) hI (by omega) _ _ 1 (rowsK1 (hk24) (fun hq => by omega) (by simp) (FB.K (FB.on (⟨_, hk17⟩ : FB w15 g14 5 _) hb23) hO20 (by first | omega | simp) (fun hq => by (try simp only at hq); omega)))) ?_
    rintro e_ w27 ⟨rfl, ⟨s28, hT29, hI30⟩, hs31⟩
    refine ⟨_, rfl, ?_⟩
    have hs_w27 := hT29.1.size
    refine rw_val (v := errT (want a f i)) (w' := w27) rfl rfl rfl rfl rfl ?_
    refine rw_end ?_
    refine w_weaken (G' := [(0, .int .i64 (a : Int)), (1, .int .i64 (f : Int)), (2, .int .i64 (c : Int)), (6, .bool false), (7, .pointer (some ⟨g3, 0, none⟩)), (8, .int .i64 (i : Int)), (9, errT (want a f i))]) ⟨rfl, rfl, rfl, rfl, rfl, rfl, rfl, trivial⟩ ?_
    refine w_seq ?_
    refine w_region ?_
    refine rw_val (v := .int .i64 0) (w' := w27) rfl rfl rfl rfl rfl ?_
    refine rw_end ?_
    refine w_seq ?_
    refine w_seq ?_
    refine w_region ?_
    refine rw_val (v := .int .i64 (i : Int)) (w' := w27) rfl rfl rfl rfl rfl ?_
    refine rw_val (v := .int .i64 (a : Int)) (w' := w27) rfl rfl rfl rfl rfl ?_
    refine rw_val (v := .bool (decide ((a : Int) ≤ (i : Int)))) (w' := w27) rfl rfl rfl rfl (by simp [go_sem, sEv, sLook, nbeq, i64_w]) ?_
    refine rw_end ?_
    refine w_cond rfl rfl (fun cA => ?_) (fun cA => ?_)
    · refine w_region ?_
      refine rw_val (v := .int .i64 5) (w' := w27) rfl rfl rfl rfl rfl ?_
      refine rw_end ?_
      refine w_seq ?_
      refine w_region ?_
      refine rw_val (v := errT (want a f i)) (w' := w27) rfl rfl rfl rfl rfl ?_
      refine rw_call rfl rfl rfl rfl (f := 22) (args := #[errT (want a f i)]) (by simp [go_sem, sEv, sLook, nbeq, i64_w]) (num_T (want a f i) want_ne w27) ?_
      rintro e_ w32 ⟨rfl, hb33⟩
      refine ⟨_, rfl, ?_⟩
      have hs_w32 := hb33.size
      refine rw_val (v := .int .i64 5) (w' := w32) rfl rfl rfl rfl rfl ?_
      refine rw_val (v := .bool (((want a f i).getD 0) != 5)) (w' := w32) rfl rfl rfl rfl (by simp [go_sem, sEv, sLook, nbeq, i64_w]) ?_
      refine rw_end ?_
      refine w_weaken (G' := [(0, .int .i64 (a : Int)), (1, .int .i64 (f : Int)), (2, .int .i64 (c : Int)), (6, .bool false), (7, .pointer (some ⟨g3, 0, none⟩)), (8, .int .i64 (i : Int)), (58, .bool (((want a f i).getD 0) != 5))]) ⟨rfl, rfl, rfl, rfl, rfl, rfl, rfl, trivial⟩ ?_
      have hq34 : (((want a f i).getD 0) != 5) = false := by exact want5 cA
      refine w_cond_f rfl rfl hq34 ?_
      refine w_skip ?_
      refine w_blk ?_
      refine w_region ?_
      refine rw_val (v := .int .i64 (i : Int)) (w' := w32) rfl rfl rfl rfl rfl ?_
      refine rw_val (v := .int .i64 ((i + 1 : Nat) : Int)) (w' := w32) rfl rfl rfl rfl (by simp [go_sem, sEv, sLook, nbeq, i64_w]; have l_ := of_decide_eq_true cL; exact wrap_id (by omega) (by omega)) ?_
      refine rw_val (v := .int .i64 ((i + 1 : Nat) : Int)) (w' := w32) rfl rfl rfl rfl rfl ?_
      refine rw_end ?_
      have l_ := of_decide_eq_true cL
      exact w_back (m_ - 1) [(0, .int .i64 (a : Int)), (1, .int .i64 (f : Int)), (2, .int .i64 (c : Int)), (6, .bool false), (7, .pointer (some ⟨g3, 0, none⟩)), (8, .int .i64 ((i + 1 : Nat) : Int))] (by omega) ⟨rfl, rfl, rfl, rfl, rfl, rfl, trivial⟩ ⟨i + 1, _, _, by omega, (TapeAt.on hT29 hb33), hI30, rfl⟩
    · refine w_seq ?_
      refine w_region ?_
      refine rw_val (v := .int .i64 (i : Int)) (w' := w27) rfl rfl rfl rfl rfl ?_
      refine rw_val (v := .int .i64 (f : Int)) (w' := w27) rfl rfl rfl rfl rfl ?_
      refine rw_val (v := .bool ((i : Int) == (f : Int))) (w' := w27) rfl rfl rfl rfl (by simp [go_sem, sEv, sLook, nbeq, i64_w]) ?_
      refine rw_end ?_
      refine w_cond rfl rfl (fun cF => ?_) (fun cF => ?_)
      · refine w_region ?_
        refine rw_val (v := .int .i64 6) (w' := w27) rfl rfl rfl rfl rfl ?_
        refine rw_end ?_
        refine w_seq ?_
        refine w_region ?_
        refine rw_val (v := errT (want a f i)) (w' := w27) rfl rfl rfl rfl rfl ?_
        refine rw_call rfl rfl rfl rfl (f := 22) (args := #[errT (want a f i)]) (by simp [go_sem, sEv, sLook, nbeq, i64_w]) (num_T (want a f i) want_ne w27) ?_
        rintro e_ w35 ⟨rfl, hb36⟩
        refine ⟨_, rfl, ?_⟩
        have hs_w35 := hb36.size
        refine rw_val (v := .int .i64 6) (w' := w35) rfl rfl rfl rfl rfl ?_
        refine rw_val (v := .bool (((want a f i).getD 0) != 6)) (w' := w35) rfl rfl rfl rfl (by simp [go_sem, sEv, sLook, nbeq, i64_w]) ?_
        refine rw_end ?_
        refine w_weaken (G' := [(0, .int .i64 (a : Int)), (1, .int .i64 (f : Int)), (2, .int .i64 (c : Int)), (6, .bool false), (7, .pointer (some ⟨g3, 0, none⟩)), (8, .int .i64 (i : Int)), (58, .bool (((want a f i).getD 0) != 6))]) ⟨rfl, rfl, rfl, rfl, rfl, rfl, rfl, trivial⟩ ?_
        have hq37 : (((want a f i).getD 0) != 6) = false := by exact want6 cA cF
        refine w_cond_f rfl rfl hq37 ?_
        refine w_skip ?_
        refine w_blk ?_
        refine w_region ?_
        refine rw_val (v := .int .i64 (i : Int)) (w' := w35) rfl rfl rfl rfl rfl ?_
        refine rw_val (v := .int .i64 ((i + 1 : Nat) : Int)) (w' := w35) rfl rfl rfl rfl (by simp [go_sem, sEv, sLook, nbeq, i64_w]; have l_ := of_decide_eq_true cL; exact wrap_id (by omega) (by omega)) ?_
        refine rw_val (v := .int .i64 ((i + 1 : Nat) : Int)) (w' := w35) rfl rfl rfl rfl rfl ?_
        refine rw_end ?_
        have l_ := of_decide_eq_true cL
        exact w_back (m_ - 1) [(0, .int .i64 (a : Int)), (1, .int .i64 (f : Int)), (2, .int .i64 (c : Int)), (6, .bool false), (7, .pointer (some ⟨g3, 0, none⟩)), (8, .int .i64 ((i + 1 : Nat) : Int))] (by omega) ⟨rfl, rfl, rfl, rfl, rfl, rfl, trivial⟩ ⟨i + 1, _, _, by omega, (TapeAt.on hT29 hb36), hI30, rfl⟩
      · refine w_skip ?_
        refine w_seq ?_
        refine w_region ?_
        refine rw_val (v := errT (want a f i)) (w' := w27) rfl rfl rfl rfl rfl ?_
        refine rw_call rfl rfl rfl rfl (f := 22) (args := #[errT (want a f i)]) (by simp [go_sem, sEv, sLook, nbeq, i64_w]) (num_T (want a f i) want_ne w27) ?_
        rintro e_ w38 ⟨rfl, hb39⟩
        refine ⟨_, rfl, ?_⟩
        have hs_w38 := hb39.size
        refine rw_val (v := .int .i64 0) (w' := w38) rfl rfl rfl rfl rfl ?_
        refine rw_val (v := .bool (((want a f i).getD 0) != 0)) (w' := w38) rfl rfl rfl rfl (by simp [go_sem, sEv, sLook, nbeq, i64_w]) ?_
        refine rw_end ?_
        refine w_weaken (G' := [(0, .int .i64 (a : Int)), (1, .int .i64 (f : Int)), (2, .int .i64 (c : Int)), (6, .bool false), (7, .pointer (some ⟨g3, 0, none⟩)), (8, .int .i64 (i : Int)), (58, .bool (((want a f i).getD 0) != 0))]) ⟨rfl, rfl, rfl, rfl, rfl, rfl, rfl, trivial⟩ ?_
        have hq40 : (((want a f i).getD 0) != 0) = false := by exact want0 cA cF
        refine w_cond_f rfl rfl hq40 ?_
        refine w_skip ?_
        refine w_blk ?_
        refine w_region ?_
        refine rw_val (v := .int .i64 (i : Int)) (w' := w38) rfl rfl rfl rfl rfl ?_
        refine rw_val (v := .int .i64 ((i + 1 : Nat) : Int)) (w' := w38) rfl rfl rfl rfl (by simp [go_sem, sEv, sLook, nbeq, i64_w]; have l_ := of_decide_eq_true cL; exact wrap_id (by omega) (by omega)) ?_
        refine rw_val (v := .int .i64 ((i + 1 : Nat) : Int)) (w' := w38) rfl rfl rfl rfl rfl ?_
        refine rw_end ?_
        have l_ := of_decide_eq_true cL
        exact w_back (m_ - 1) [(0, .int .i64 (a : Int)), (1, .int .i64 (f : Int)), (2, .int .i64 (c : Int)), (6, .bool false), (7, .pointer (some ⟨g3, 0, none⟩)), (8, .int .i64 ((i + 1 : Nat) : Int))] (by omega) ⟨rfl, rfl, rfl, rfl, rfl, rfl, trivial⟩ ⟨i + 1, _, _, by omega, (TapeAt.on hT29 hb39), hI30, rfl⟩
  · have l_ := of_decide_eq_false cL
    have hIc_ : Inv a f c s_ := by have e_ : i = c := (by omega); rw [← e_]; exact hI
    refine w_exit rfl ?_
    refine w_seq ?_
    refine w_region ?_
    refine rw_val (v := .int .i64 (a : Int)) (w' := w_) rfl rfl rfl rfl rfl ?_
    refine rw_val (v := .int .i64 (c : Int)) (w' := w_) rfl rfl rfl rfl rfl ?_
    refine rw_val (v := .int .i64 ((min a c : Nat) : Int)) (w' := w_) rfl rfl rfl rfl (by simp [go_sem, sEv, sLook, nbeq, i64_w, max2_int, min2_int, max_two, min_two] <;> omega) ?_
    refine rw_val (v := .int .i64 ((min a c : Nat) : Int)) (w' := w_) rfl rfl rfl rfl rfl ?_
    refine rw_end ?_
    refine w_weaken (G' := [(0, .int .i64 (a : Int)), (1, .int .i64 (f : Int)), (2, .int .i64 (c : Int)), (6, .bool false), (7, .pointer (some ⟨g3, 0, none⟩)), (11, .int .i64 ((min a c : Nat) : Int))]) ⟨rfl, rfl, rfl, rfl, rfl, rfl, trivial⟩ ?_
    refine w_seq ?_
    refine w_region ?_
    refine rw_val (v := .int .i64 0) (w' := w_) rfl rfl rfl rfl rfl ?_
    refine rw_end ?_
    refine w_seq ?_
    refine w_seq ?_
    refine w_region ?_
    refine rw_val (v := .int .i64 (f : Int)) (w' := w_) rfl rfl rfl rfl rfl ?_
    refine rw_val (v := .int .i64 ((min a c : Nat) : Int)) (w' := w_) rfl rfl rfl rfl rfl ?_
    refine rw_val (v := .bool (decide ((f : Int) < ((min a c : Nat) : Int)))) (w' := w_) rfl rfl rfl rfl (by simp [go_sem, sEv, sLook, nbeq, i64_w]) ?_
    refine rw_end ?_
    refine w_cond rfl rfl (fun cM => ?_) (fun cM => ?_)
    · refine w_region ?_
      refine rw_val (v := .int .i64 1) (w' := w_) rfl rfl rfl rfl rfl ?_
      refine rw_end ?_
      refine w_seq ?_
      refine w_region ?_
      refine rw_val (v := .pointer (some ⟨g3, 0, none⟩)) (w' := w_) rfl rfl rfl rfl rfl ?_
      refine rw_call rfl rfl rfl rfl (f := 19) (args := #[.pointer (some ⟨g3, 0, none⟩)]) (by simp [go_sem, sEv, sLook, nbeq, i64_w]) (steps_inv w w_ g3 mm a f c _ hT_ hIc_ (by omega)) ?_
      rintro e_ w41 ⟨rfl, rfl⟩
      refine ⟨_, rfl, ?_⟩
      refine rw_val (v := .int .i64 ((min a c : Nat) : Int)) (w' := w_) rfl rfl rfl rfl rfl ?_
      refine rw_val (v := .bool true) (w' := w_) rfl rfl rfl rfl (by simp [go_sem, sEv, sLook, nbeq, i64_w]) ?_
      refine rw_val (v := .bool true) (w' := w_) rfl rfl rfl rfl rfl ?_
      refine rw_on (c := true) rfl rfl rfl rfl ?_
      refine rw_val (v := .pointer (some ⟨g3, 0, none⟩)) (w' := w_) rfl rfl rfl rfl rfl ?_
      refine rw_on (c := true) rfl rfl rfl rfl ?_
      refine rw_call rfl rfl rfl rfl (f := 15) (args := #[.pointer (some ⟨g3, 0, none⟩)]) (by simp [go_sem, sEv, sLook, nbeq, i64_w]) (read_T w w_ g3 mm _ hT_ hIc_.ok) ?_
      rintro e_ w45 ⟨A42, n43, c44, rfl, hO46, hB47⟩
      refine ⟨_, rfl, ?_⟩
      have hs_w45 := hB47.size
      have hL48 : Own .u8 5 w45 w.heap.size w_.heap.size A42 n43 c44 s_.xs := Own.lower hO46 (by omega)
      refine rw_on (c := true) rfl rfl rfl rfl ?_
      refine rw_val (v := .int .i64 (n43 : Int)) (w' := w45) rfl rfl rfl rfl (by simp [go_sem, sEv, sLook, nbeq, i64_w]) ?_
      refine rw_on (c := true) rfl rfl rfl rfl ?_
      refine rw_val (v := .int .i64 ((min a c : Nat) : Int)) (w' := w45) rfl rfl rfl rfl rfl ?_
      refine rw_on (c := true) rfl rfl rfl rfl ?_
      refine rw_val (v := .int .i64 1) (w' := w45) rfl rfl rfl rfl rfl ?_
      refine rw_on (c := true) rfl rfl rfl rfl ?_
      refine rw_val (v := .int .i64 (((min a c : Nat) : Int) - 1)) (w' := w45) rfl rfl rfl rfl (by simp [go_sem, sEv, sLook, nbeq, i64_w]; exact wrap_id (by omega) (by omega)) ?_
      refine rw_on (c := true) rfl rfl rfl rfl ?_
      refine rw_val (v := .bool ((n43 : Int) == (((min a c : Nat) : Int) - 1))) (w' := w45) rfl rfl rfl rfl (by simp [go_sem, sEv, sLook, nbeq, i64_w]) ?_
      refine rw_val (v := .bool ((n43 : Int) == (((min a c : Nat) : Int) - 1))) (w' := w45) rfl rfl rfl rfl (by simp [go_sem, sEv, sLook, nbeq, i64_w]) ?_
      refine rw_val (v := .bool ((n43 : Int) == (((min a c : Nat) : Int) - 1))) (w' := w45) rfl rfl rfl rfl rfl ?_
      have hq49 : ((n43 : Int) == (((min a c : Nat) : Int) - 1)) = true := by have q1_ := hL48.len; have q2_ := hIc_.len; have q3_ := of_decide_eq_true cM; split at q2_ <;> simp <;> omega
      refine rw_on (c := ((n43 : Int) == (((min a c : Nat) : Int) - 1))) rfl rfl rfl (by simp [hq49]) ?_
      refine rw_val (v := .pointer (some ⟨g3, 0, none⟩)) (w' := w45) rfl rfl rfl rfl rfl ?_
      refine rw_on (c := ((n43 : Int) == (((min a c : Nat) : Int) - 1))) rfl rfl rfl (by simp [hq49]) ?_
      refine rw_call rfl rfl rfl rfl (f := 23) (args := #[.pointer (some ⟨g3, 0, none⟩)]) (by simp [go_sem, sEv, sLook, nbeq, i64_w]) (down_inv w w45 g3 mm a f c _ (TapeAt.on hT_ hB47) hIc_ (by omega)) ?_
      rintro e_ w50 ⟨rfl, rfl⟩
      refine ⟨_, rfl, ?_⟩
      refine rw_on (c := ((n43 : Int) == (((min a c : Nat) : Int) - 1))) rfl rfl rfl (by simp [hq49]) ?_
      refine rw_val (v := .int .i64 (c : Int)) (w' := w45) rfl rfl rfl rfl rfl ?_
      refine rw_on (c := ((n43 : Int) == (((min a c : Nat) : Int) - 1))) rfl rfl rfl (by simp [hq49]) ?_
      refine rw_val (v := .int .i64 (a : Int)) (w' := w45) rfl rfl rfl rfl rfl ?_
      refine rw_on (c := ((n43 : Int) == (((min a c : Nat) : Int) - 1))) rfl rfl rfl (by simp [hq49]) ?_
      refine rw_val (v := .bool (decide ((a : Int) < (c : Int)))) (w' := w45) rfl rfl rfl rfl (by simp [go_sem, sEv, sLook, nbeq, i64_w]) ?_
      refine rw_on (c := ((n43 : Int) == (((min a c : Nat) : Int) - 1))) rfl rfl rfl (by simp [hq49]) ?_
      refine rw_val (v := .bool true) (w' := w45) rfl rfl rfl rfl (by simp [go_sem, sEv, sLook, nbeq, i64_w]) ?_
      refine rw_val (v := .bool true) (w' := w45) rfl rfl rfl rfl (by simp [go_sem, sEv, sLook, nbeq, i64_w, hq49]) ?_
      refine rw_val (v := .bool true) (w' := w45) rfl rfl rfl rfl rfl ?_
      refine rw_end ?_
      refine w_weaken (G' := [(6, .bool true)]) ⟨rfl, trivial⟩ ?_
      refine w_ret (post_ret1 rfl rfl ?_)
      exact ⟨rfl, (chain hT_.1 hB47)⟩
    · refine w_skip ?_
      refine w_seq ?_
      refine w_region ?_
      refine rw_val (v := .pointer (some ⟨g3, 0, none⟩)) (w' := w_) rfl rfl rfl rfl rfl ?_
      refine rw_call rfl rfl rfl rfl (f := 19) (args := #[.pointer (some ⟨g3, 0, none⟩)]) (by simp [go_sem, sEv, sLook, nbeq, i64_w]) (steps_inv w w_ g3 mm a f c _ hT_ hIc_ (by omega)) ?_
      rintro e_ w51 ⟨rfl, rfl⟩
      refine ⟨_, rfl, ?_⟩
      refine rw_val (v := .int .i64 ((min a c : Nat) : Int)) (w' := w_) rfl rfl rfl rfl rfl ?_
      refine rw_val (v := .bool true) (w' := w_) rfl rfl rfl rfl (by simp [go_sem, sEv, sLook, nbeq, i64_w]) ?_
      refine rw_val (v := .bool true) (w' := w_) rfl rfl rfl rfl rfl ?_
      refine rw_on (c := true) rfl rfl rfl rfl ?_
      refine rw_val (v := .pointer (some ⟨g3, 0, none⟩)) (w' := w_) rfl rfl rfl rfl rfl ?_
      refine rw_on (c := true) rfl rfl rfl rfl ?_
      refine rw_call rfl rfl rfl rfl (f := 15) (args := #[.pointer (some ⟨g3, 0, none⟩)]) (by simp [go_sem, sEv, sLook, nbeq, i64_w]) (read_T w w_ g3 mm _ hT_ hIc_.ok) ?_
      rintro e_ w55 ⟨A52, n53, c54, rfl, hO56, hB57⟩
      refine ⟨_, rfl, ?_⟩
      have hs_w55 := hB57.size
      have hL58 : Own .u8 5 w55 w.heap.size w_.heap.size A52 n53 c54 s_.xs := Own.lower hO56 (by omega)
      refine rw_on (c := true) rfl rfl rfl rfl ?_
      refine rw_val (v := .int .i64 (n53 : Int)) (w' := w55) rfl rfl rfl rfl (by simp [go_sem, sEv, sLook, nbeq, i64_w]) ?_
      refine rw_on (c := true) rfl rfl rfl rfl ?_
      refine rw_val (v := .int .i64 ((min a c : Nat) : Int)) (w' := w55) rfl rfl rfl rfl rfl ?_
      refine rw_on (c := true) rfl rfl rfl rfl ?_
      refine rw_val (v := .int .i64 0) (w' := w55) rfl rfl rfl rfl rfl ?_
      refine rw_on (c := true) rfl rfl rfl rfl ?_
      refine rw_val (v := .int .i64 ((min a c : Nat) : Int)) (w' := w55) rfl rfl rfl rfl (by simp [go_sem, sEv, sLook, nbeq, i64_w]; exact wrap_id (by omega) (by omega)) ?_
      refine rw_on (c := true) rfl rfl rfl rfl ?_
      refine rw_val (v := .bool ((n53 : Int) == ((min a c : Nat) : Int))) (w' := w55) rfl rfl rfl rfl (by simp [go_sem, sEv, sLook, nbeq, i64_w]) ?_
      refine rw_val (v := .bool ((n53 : Int) == ((min a c : Nat) : Int))) (w' := w55) rfl rfl rfl rfl (by simp [go_sem, sEv, sLook, nbeq, i64_w]) ?_
      refine rw_val (v := .bool ((n53 : Int) == ((min a c : Nat) : Int))) (w' := w55) rfl rfl rfl rfl rfl ?_
      have hq59 : ((n53 : Int) == ((min a c : Nat) : Int)) = true := by have q1_ := hL58.len; have q2_ := hIc_.len; have q3_ := of_decide_eq_false cM; split at q2_ <;> simp <;> omega
      refine rw_on (c := ((n53 : Int) == ((min a c : Nat) : Int))) rfl rfl rfl (by simp [hq59]) ?_
      refine rw_val (v := .pointer (some ⟨g3, 0, none⟩)) (w' := w55) rfl rfl rfl rfl rfl ?_
      refine rw_on (c := ((n53 : Int) == ((min a c : Nat) : Int))) rfl rfl rfl (by simp [hq59]) ?_
      refine rw_call rfl rfl rfl rfl (f := 23) (args := #[.pointer (some ⟨g3, 0, none⟩)]) (by simp [go_sem, sEv, sLook, nbeq, i64_w]) (down_inv w w55 g3 mm a f c _ (TapeAt.on hT_ hB57) hIc_ (by omega)) ?_
      rintro e_ w60 ⟨rfl, rfl⟩
      refine ⟨_, rfl, ?_⟩
      refine rw_on (c := ((n53 : Int) == ((min a c : Nat) : Int))) rfl rfl rfl (by simp [hq59]) ?_
      refine rw_val (v := .int .i64 (c : Int)) (w' := w55) rfl rfl rfl rfl rfl ?_
      refine rw_on (c := ((n53 : Int) == ((min a c : Nat) : Int))) rfl rfl rfl (by simp [hq59]) ?_
      refine rw_val (v := .int .i64 (a : Int)) (w' := w55) rfl rfl rfl rfl rfl ?_
      refine rw_on (c := ((n53 : Int) == ((min a c : Nat) : Int))) rfl rfl rfl (by simp [hq59]) ?_
      refine rw_val (v := .bool (decide ((a : Int) < (c : Int)))) (w' := w55) rfl rfl rfl rfl (by simp [go_sem, sEv, sLook, nbeq, i64_w]) ?_
      refine rw_on (c := ((n53 : Int) == ((min a c : Nat) : Int))) rfl rfl rfl (by simp [hq59]) ?_
      refine rw_val (v := .bool true) (w' := w55) rfl rfl rfl rfl (by simp [go_sem, sEv, sLook, nbeq, i64_w]) ?_
      refine rw_val (v := .bool true) (w' := w55) rfl rfl rfl rfl (by simp [go_sem, sEv, sLook, nbeq, i64_w, hq59]) ?_
      refine rw_val (v := .bool true) (w' := w55) rfl rfl rfl rfl rfl ?_
      refine rw_end ?_
      refine w_weaken (G' := [(6, .bool true)]) ⟨rfl, trivial⟩ ?_
      refine w_ret (post_ret1 rfl rfl ?_)
      exact ⟨rfl, (chain hT_.1 hB57)⟩

theorem mod_nat (k : Int) (m : Nat) (hm : 0 < m) : ∃ n : Nat, Int.tmod (IntKind.u64.wrap k) (m : Int) = (n : Int) ∧ n < m := by
  have h0 : 0 ≤ IntKind.u64.wrap k := by rw [u64_wrap]; omega
  have h1 := Int.emod_nonneg (IntKind.u64.wrap k) (show (m : Int) ≠ 0 by omega)
  have h2 := Int.emod_lt_of_pos (IntKind.u64.wrap k) (show 0 < (m : Int) by omega)
  rw [Int.tmod_eq_emod_of_nonneg h0]
  obtain ⟨n, hn⟩ := Int.eq_ofNat_of_zero_le h1
  exact ⟨n, hn, by omega⟩
theorem walkSteps (ka kf kc : Int) (w : World) : Calls Try.prog 6 #[.int .i64 ka, .int .i64 kf, .int .i64 kc] w fun e w' => e = .returned (.bool true) ∧ Below w.heap.size w w' := by
  obtain ⟨a, h1, h2⟩ := mod_nat ka 40 (by omega)
  obtain ⟨f, h3, h4⟩ := mod_nat kf 40 (by omega)
  obtain ⟨c, h5, h6⟩ := mod_nat kc 60 (by omega)
  exact steps_nat ka kf kc a f c h1 h3 h5 h2 h4 h6 w
end Go.Proofs.Ytpbpeklbmmbigaa.Tp
