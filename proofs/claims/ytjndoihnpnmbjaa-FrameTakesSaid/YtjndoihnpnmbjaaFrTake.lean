/- The number that bytes begin with: the walks. -/
import Derived.Test.YtjndoihnpnmbjaaFrPlain5
import Derived.Test.YtjndoihnpnmbjaaFrNone
namespace Go.Proofs.Ytjndoihnpnmbjaa.PFrameSums
open Go.RowKit Go.Proofs.YtjndoihnpnmbjaaW.PrintWords Go.Proofs.YtjndoihnpnmbjaaW.PrintLast Go.Proofs.YtjndoihnpnmbjaaW.PrintMore
open Go.Proofs.Ytjndoihnpnmbjaa.Flow
set_option linter.unusedVariables false
set_option linter.unusedSimpArgs false

set_option maxHeartbeats 4000000 in
theorem take_calls (w : World) (A0 : Option Addr) (c0 : Nat) (b : List Int) (hC : (Kd.int .u8).C w A0 b.length b) (hc : b.length ≤ c0) (hb : Bytes b) :
    Calls Try.prog 38 #[.slice A0 b.length c0] w fun e w' => e = .returned (.tuple #[.int .i64 (takeP b).1, .int .i64 (((takeP b).2 : Nat) : Int)]) ∧ Below w.heap.size w w' := by
  refine calls_flow Try.func38 rfl 45 rfl (Nat.le_of_ble_eq_true rfl) [(0, .slice A0 b.length c0)] ?_ ?_
  · intro t v h; exact args_look rfl t v h
  refine w_seq ?_
  refine w_region ?_
  refine rw_val (v := .int .i64 0) (w' := w) rfl rfl rfl rfl rfl ?_
  refine rw_val (v := .int .i64 0) (w' := w) rfl rfl rfl rfl rfl ?_
  refine rw_end ?_
  refine w_seq ?_
  refine w_seq ?_
  refine w_region ?_
  refine rw_val (v := .slice A0 b.length c0) (w' := w) rfl rfl rfl rfl rfl ?_
  refine rw_val (v := .int .i64 (b.length : Int)) (w' := w) rfl rfl rfl rfl (by simp [go_sem, sEv, sLook, nbeq, i64_w, -List.length_flatten]) ?_
  refine rw_val (v := .bool ((b.length : Int) == 0)) (w' := w) rfl rfl rfl rfl (by simp [go_sem, sEv, sLook, nbeq, i64_w, -List.length_flatten]) ?_
  refine rw_val (v := .bool ((b.length : Int) == 0)) (w' := w) rfl rfl rfl rfl rfl ?_
  rcases bcase ((b.length : Int) == 0) with cN | cN
  · refine rw_on (c := ((b.length : Int) == 0)) rfl rfl rfl (by first | (rw [cN]; rfl) | simp [cN]) ?_
    refine rw_val (v := .slice A0 b.length c0) (w' := w) rfl rfl rfl rfl rfl ?_
    refine rw_on (c := ((b.length : Int) == 0)) rfl rfl rfl (by first | (rw [cN]; rfl) | simp [cN]) ?_
    have cN_ : b.length ≠ 0 := by simpa using cN
    obtain ⟨ad, hA_, hcell_⟩ := Kd.at_int hC 0 (by omega) (by omega)
    subst hA_
    rw [show (0 : Int).toNat = 0 from rfl, Flow.add_zero] at hcell_
    have hr_ := rd_range hb 0 (by omega)
    rw [show ((0 : Nat) : Int) = 0 from rfl] at hr_
    refine rw_val (v := .pointer (some ad)) (w' := w) rfl rfl rfl rfl (by have hp_ : 0 < b.length := (by omega); have hp2_ : b ≠ [] := (fun h_ => by rw [h_] at hp_; simp at hp_); first | (simp [go_sem, sEv, sLook, nbeq, i64_w, -List.length_flatten, Try.underlying22, Flow.add_zero, hp_]; done) | (simp [go_sem, sEv, sLook, nbeq, i64_w, -List.length_flatten, Try.underlying22, Flow.add_zero, hp2_]; done) | (simp [go_sem, sEv, sLook, nbeq, i64_w, -List.length_flatten, Try.underlying22, Flow.add_zero]; exact hp2_)) ?_
    refine rw_on (c := ((b.length : Int) == 0)) rfl rfl rfl (by first | (rw [cN]; rfl) | simp [cN]) ?_
    refine rw_val (v := .int .u8 (rd b 0)) (w' := w) rfl rfl rfl rfl (by simp [go_sem, sEv, sLook, nbeq, i64_w, -List.length_flatten, hcell_]) ?_
    refine rw_on (c := ((b.length : Int) == 0)) rfl rfl rfl (by first | (rw [cN]; rfl) | simp [cN]) ?_
    refine rw_val (v := .bool (decide (8 < (rd b 0)))) (w' := w) rfl rfl rfl rfl (by simp [go_sem, sEv, sLook, nbeq, i64_w, -List.length_flatten]) ?_
    refine rw_val (v := .bool (decide (8 < (rd b 0)))) (w' := w) rfl rfl rfl rfl (by first | (simp [go_sem, sEv, sLook, nbeq, i64_w, -List.length_flatten, cN]; done) | (simp [go_sem, sEv, sLook, nbeq, i64_w, -List.length_flatten] <;> omega) | (simp [go_sem, sEv, sLook, nbeq, i64_w, -List.length_flatten]; intro h_; exact absurd (by omega) h_) | (rw [cN]; simp [go_sem, sEv, sLook, nbeq, i64_w, -List.length_flatten]; done)) ?_
    refine rw_val (v := .bool (decide (8 < (rd b 0)))) (w' := w) rfl rfl rfl rfl rfl ?_
    rcases bcase (decide (8 < (rd b 0))) with c8 | c8
    · refine rw_on (c := decide (8 < (rd b 0))) rfl rfl rfl (by first | (rw [c8]; rfl) | simp [c8]) ?_
      refine rw_val (v := .slice (some ad) b.length c0) (w' := w) rfl rfl rfl rfl rfl ?_
      refine rw_on (c := decide (8 < (rd b 0))) rfl rfl rfl (by first | (rw [c8]; rfl) | simp [c8]) ?_
      refine rw_val (v := .pointer (some ad)) (w' := w) rfl rfl rfl rfl (by have hp_ : 0 < b.length := (by omega); have hp2_ : b ≠ [] := (fun h_ => by rw [h_] at hp_; simp at hp_); first | (simp [go_sem, sEv, sLook, nbeq, i64_w, -List.length_flatten, Try.underlying22, Flow.add_zero, hp_]; done) | (simp [go_sem, sEv, sLook, nbeq, i64_w, -List.length_flatten, Try.underlying22, Flow.add_zero, hp2_]; done) | (simp [go_sem, sEv, sLook, nbeq, i64_w, -List.length_flatten, Try.underlying22, Flow.add_zero]; exact hp2_)) ?_
      refine rw_on (c := decide (8 < (rd b 0))) rfl rfl rfl (by first | (rw [c8]; rfl) | simp [c8]) ?_
      refine rw_val (v := .int .u8 (rd b 0)) (w' := w) rfl rfl rfl rfl (by simp [go_sem, sEv, sLook, nbeq, i64_w, -List.length_flatten, hcell_]) ?_
      refine rw_on (c := decide (8 < (rd b 0))) rfl rfl rfl (by first | (rw [c8]; rfl) | simp [c8]) ?_
      refine rw_val (v := .int .i64 (rd b 0)) (w' := w) rfl rfl rfl rfl (by simp [go_sem, sEv, sLook, nbeq, i64_w, -List.length_flatten]; exact wrap_id (by omega) (by omega)) ?_
      refine rw_on (c := decide (8 < (rd b 0))) rfl rfl rfl (by first | (rw [c8]; rfl) | simp [c8]) ?_
      refine rw_val (v := .slice (some ad) b.length c0) (w' := w) rfl rfl rfl rfl rfl ?_
      refine rw_on (c := decide (8 < (rd b 0))) rfl rfl rfl (by first | (rw [c8]; rfl) | simp [c8]) ?_
      refine rw_val (v := .int .i64 (b.length : Int)) (w' := w) rfl rfl rfl rfl (by simp [go_sem, sEv, sLook, nbeq, i64_w, -List.length_flatten]) ?_
      refine rw_on (c := decide (8 < (rd b 0))) rfl rfl rfl (by first | (rw [c8]; rfl) | simp [c8]) ?_
      refine rw_val (v := .int .i64 ((b.length : Int) - 1)) (w' := w) rfl rfl rfl rfl (by simp [go_sem, sEv, sLook, nbeq, i64_w, -List.length_flatten]; have h_ := hC.2.1; exact wrap_id (by omega) (by omega)) ?_
      refine rw_on (c := decide (8 < (rd b 0))) rfl rfl rfl (by first | (rw [c8]; rfl) | simp [c8]) ?_
      refine rw_val (v := .bool (decide (((b.length : Int) - 1) < (rd b 0)))) (w' := w) rfl rfl rfl rfl (by simp [go_sem, sEv, sLook, nbeq, i64_w, -List.length_flatten]) ?_
      refine rw_val (v := .bool (decide (((b.length : Int) - 1) < (rd b 0)))) (w' := w) rfl rfl rfl rfl (by first | (simp [go_sem, sEv, sLook, nbeq, i64_w, -List.length_flatten, c8]; done) | (simp [go_sem, sEv, sLook, nbeq, i64_w, -List.length_flatten] <;> omega) | (simp [go_sem, sEv, sLook, nbeq, i64_w, -List.length_flatten]; intro h_; exact absurd (by omega) h_) | (rw [c8]; simp [go_sem, sEv, sLook, nbeq, i64_w, -List.length_flatten]; done)) ?_
      refine rw_end ?_
      refine w_weaken (G' := [(0, .slice (some ad) b.length c0), (2, .int .i64 0), (3, .int .i64 0), (23, .bool (decide (((b.length : Int) - 1) < (rd b 0))))]) ⟨rfl, rfl, rfl, rfl, trivial⟩ ?_
      refine w_cond rfl rfl (fun c3 => ?_) (fun c3 => ?_)
      · refine w_seq ?_
        refine w_region ?_
        refine rw_val (v := .int .i64 0) (w' := w) rfl rfl rfl rfl rfl ?_
        refine rw_val (v := .int .i64 0) (w' := w) rfl rfl rfl rfl rfl ?_
        refine rw_end ?_
        refine w_ret (post_ret2 rfl rfl rfl ?_)
        have e_ : takeP b = (0, 0) := by
          unfold takeP
          rw [if_neg (by simpa using cN)]
          rw [if_neg (of_decide_eq_false c8)]
          rw [if_pos (of_decide_eq_true c3)]
        exact ⟨by rw [e_]; rfl, (Below.refl _ _)⟩
      · refine w_skip ?_
        refine w_seq ?_
        refine w_region ?_
        refine rw_val (v := .slice (some ad) b.length c0) (w' := w) rfl rfl rfl rfl rfl ?_
        refine rw_val (v := .pointer (some ad)) (w' := w) rfl rfl rfl rfl (by have hp_ : 0 < b.length := (by omega); have hp2_ : b ≠ [] := (fun h_ => by rw [h_] at hp_; simp at hp_); first | (simp [go_sem, sEv, sLook, nbeq, i64_w, -List.length_flatten, Try.underlying22, Flow.add_zero, hp_]; done) | (simp [go_sem, sEv, sLook, nbeq, i64_w, -List.length_flatten, Try.underlying22, Flow.add_zero, hp2_]; done) | (simp [go_sem, sEv, sLook, nbeq, i64_w, -List.length_flatten, Try.underlying22, Flow.add_zero]; exact hp2_)) ?_
        refine rw_val (v := .int .u8 (rd b 0)) (w' := w) rfl rfl rfl rfl (by simp [go_sem, sEv, sLook, nbeq, i64_w, -List.length_flatten, hcell_]) ?_
        refine rw_val (v := .int .i64 (rd b 0)) (w' := w) rfl rfl rfl rfl (by simp [go_sem, sEv, sLook, nbeq, i64_w, -List.length_flatten]; exact wrap_id (by omega) (by omega)) ?_
        refine rw_val (v := .int .i64 (rd b 0)) (w' := w) rfl rfl rfl rfl rfl ?_
        refine rw_end ?_
        refine w_weaken (G' := [(0, .slice (some ad) b.length c0), (2, .int .i64 0), (3, .int .i64 0), (4, .int .i64 (rd b 0))]) ⟨rfl, rfl, rfl, rfl, trivial⟩ ?_
        refine w_seq ?_
        refine w_seq ?_
        refine w_region ?_
        refine rw_val (v := .int .i64 (rd b 0)) (w' := w) rfl rfl rfl rfl rfl ?_
        refine rw_val (v := .bool (decide (0 < (rd b 0)))) (w' := w) rfl rfl rfl rfl (by simp [go_sem, sEv, sLook, nbeq, i64_w, -List.length_flatten]) ?_
        refine rw_val (v := .bool (decide (0 < (rd b 0)))) (w' := w) rfl rfl rfl rfl rfl ?_
        rcases bcase (decide (0 < (rd b 0))) with cZ | cZ
        · refine rw_off (c := decide (0 < (rd b 0))) rfl rfl rfl (by first | (rw [cZ]; rfl) | simp [cZ]) rfl rfl ?_
          refine rw_off (c := decide (0 < (rd b 0))) rfl rfl rfl (by first | (rw [cZ]; rfl) | simp [cZ]) rfl rfl ?_
          refine rw_off (c := decide (0 < (rd b 0))) rfl rfl rfl (by first | (rw [cZ]; rfl) | simp [cZ]) rfl rfl ?_
          refine rw_off (c := decide (0 < (rd b 0))) rfl rfl rfl (by first | (rw [cZ]; rfl) | simp [cZ]) rfl rfl ?_
          refine rw_off (c := decide (0 < (rd b 0))) rfl rfl rfl (by first | (rw [cZ]; rfl) | simp [cZ]) rfl rfl ?_
          refine rw_val (v := .bool false) (w' := w) rfl rfl rfl rfl (by first | (simp [go_sem, sEv, sLook, nbeq, i64_w, -List.length_flatten, cZ]; done) | (simp [go_sem, sEv, sLook, nbeq, i64_w, -List.length_flatten] <;> omega) | (simp [go_sem, sEv, sLook, nbeq, i64_w, -List.length_flatten]; intro h_; exact absurd (by omega) h_) | (rw [cZ]; simp [go_sem, sEv, sLook, nbeq, i64_w, -List.length_flatten]; done)) ?_
          refine rw_end ?_
          refine w_weaken (G' := [(0, .slice (some ad) b.length c0), (2, .int .i64 0), (3, .int .i64 0), (4, .int .i64 (rd b 0)), (36, .bool false)]) ⟨rfl, rfl, rfl, rfl, rfl, trivial⟩ ?_
          refine w_cond_f rfl rfl rfl ?_
          refine w_skip ?_
          refine w_seq ?_
          refine w_region ?_
          refine rw_val (v := .slice (some ad) b.length c0) (w' := w) rfl rfl rfl rfl rfl ?_
          refine rw_val (v := .int .i64 (rd b 0)) (w' := w) rfl rfl rfl rfl rfl ?_
          refine rw_val (v := .int .i64 ((1 + (rd b 0).toNat : Nat) : Int)) (w' := w) rfl rfl rfl rfl (by simp [go_sem, sEv, sLook, nbeq, i64_w, -List.length_flatten]; have c8_ := of_decide_eq_false c8; rw [wrap_id (by omega) (by omega)]; omega) ?_
          have c3b_ := of_decide_eq_false c3
          have c8b_ := of_decide_eq_false c8
          have hP1 := (mid_C hC 1 (1 + (rd b 0).toNat) (by omega) (by omega) (show b.length ≤ c0 by have q_ := hc; have q2_ : b.length = b.length := rfl; omega))
          have hc2 : ((b.take (1 + (rd b 0).toNat)).drop 1).length ≤ (c0 - 1) := by have q_ := hc; have q2_ : b.length = b.length := rfl; simp only [List.length_take, List.length_drop]; omega
          refine rw_val (v := .slice (adr (some ad) c0 1) (((b.take (1 + (rd b 0).toNat)).drop 1).length) (c0 - 1)) (w' := w) rfl rfl rfl rfl (run_as (run_mid (e := 5) (by kernel_rfl) (fun _ => by kernel_rfl) 1 (1 + (rd b 0).toNat) _ _ (by first | rfl | (simp; done) | omega) (by first | rfl | (simp; done) | omega) rfl (by omega) (by omega) hc _)) ?_
          refine rw_call rfl rfl rfl rfl (f := 41) (args := #[.slice (adr (some ad) c0 1) (((b.take (1 + (rd b 0).toNat)).drop 1).length) (c0 - 1)]) (by simp [go_sem, sEv, sLook, nbeq, i64_w, -List.length_flatten]) (high_calls w _ _ ((b.take (1 + (rd b 0).toNat)).drop 1) (Kd.C_below hP1 (Below.refl _ _)) hc2 ((hb.take _).drop _) (by simp only [List.length_take, List.length_drop]; omega)) ?_
          rintro e_ w3 ⟨rfl, hb4_⟩
          refine ⟨_, rfl, ?_⟩
          have hb4 := hb4_.below
          have hs_w3 := hb4.size
          have hv64_ : valN ((b.take (1 + (rd b 0).toNat)).drop 1) < 18446744073709551616 := by
            have hx_ := valN_lt ((b.take (1 + (rd b 0).toNat)).drop 1) ((hb.take _).drop _)
            have hxl_ : ((b.take (1 + (rd b 0).toNat)).drop 1).length ≤ 8 := by simp only [List.length_take, List.length_drop]; omega
            have h9_ : 2 ^ (8 * ((b.take (1 + (rd b 0).toNat)).drop 1).length) ≤ 2 ^ 64 := Nat.pow_le_pow_right (by omega) (by omega)
            exact Nat.lt_of_lt_of_le hx_ h9_
          refine rw_call rfl rfl rfl rfl (f := 42) (args := #[.int .u64 ((valN ((b.take (1 + (rd b 0).toNat)).drop 1) : Nat) : Int)]) (by simp [go_sem, sEv, sLook, nbeq, i64_w, -List.length_flatten]) (frame_back.calls _ _ w3 (back_f (valN ((b.take (1 + (rd b 0).toNat)).drop 1)) hv64_)) ?_
          rintro e_ w5 ⟨rfl, hb6_⟩
          refine ⟨_, rfl, ?_⟩
          have hb6 := hb6_.below
          have hs_w5 := hb6.size
          refine rw_val (v := .int .i64 (rd b 0)) (w' := w5) rfl rfl rfl rfl rfl ?_
          refine rw_val (v := .int .i64 ((1 + (rd b 0).toNat : Nat) : Int)) (w' := w5) rfl rfl rfl rfl (by simp [go_sem, sEv, sLook, nbeq, i64_w, -List.length_flatten]; have c8_ := of_decide_eq_false c8; rw [wrap_id (by omega) (by omega)]; omega) ?_
          refine rw_val (v := .int .i64 (bk (valN ((b.take (1 + (rd b 0).toNat)).drop 1)))) (w' := w5) rfl rfl rfl rfl rfl ?_
          refine rw_val (v := .int .i64 ((1 + (rd b 0).toNat : Nat) : Int)) (w' := w5) rfl rfl rfl rfl rfl ?_
          refine rw_end ?_
          refine w_weaken (G' := [(2, .int .i64 (bk (valN ((b.take (1 + (rd b 0).toNat)).drop 1)))), (3, .int .i64 ((1 + (rd b 0).toNat : Nat) : Int))]) ⟨rfl, rfl, trivial⟩ ?_
          refine w_ret (post_ret2 rfl rfl rfl ?_)
          have e_ : takeP b = (bk (valN ((b.take (1 + (rd b 0).toNat)).drop 1)), 1 + (rd b 0).toNat) := by
            unfold takeP
            rw [if_neg (by simpa using cN)]
            rw [if_neg (of_decide_eq_false c8)]
            rw [if_neg (of_decide_eq_false c3)]
            rw [if_neg (fun h_ => of_decide_eq_false cZ h_.1)]
          exact ⟨by rw [e_], (chain hb4 hb6)⟩
        · refine rw_on (c := decide (0 < (rd b 0))) rfl rfl rfl (by first | (rw [cZ]; rfl) | simp [cZ]) ?_
          refine rw_val (v := .slice (some ad) b.length c0) (w' := w) rfl rfl rfl rfl rfl ?_
          refine rw_on (c := decide (0 < (rd b 0))) rfl rfl rfl (by first | (rw [cZ]; rfl) | simp [cZ]) ?_
          refine rw_val (v := .int .i64 (rd b 0)) (w' := w) rfl rfl rfl rfl rfl ?_
          refine rw_on (c := decide (0 < (rd b 0))) rfl rfl rfl (by first | (rw [cZ]; rfl) | simp [cZ]) ?_
          have c3_ := of_decide_eq_false c3
          have cZ_ := of_decide_eq_true cZ
          obtain ⟨ad2, hA2_, hcell2_⟩ := Kd.at_int hC (rd b 0) (by omega) (by omega)
          obtain rfl := Option.some.inj hA2_
          refine rw_val (v := .pointer (some (ad.add (rd b 0).toNat))) (w' := w) rfl rfl rfl rfl (by simp [go_sem, sEv, sLook, nbeq, i64_w, -List.length_flatten, Try.underlying22]; omega) ?_
          refine rw_on (c := decide (0 < (rd b 0))) rfl rfl rfl (by first | (rw [cZ]; rfl) | simp [cZ]) ?_
          refine rw_val (v := .int .u8 (rd b (rd b 0))) (w' := w) rfl rfl rfl rfl (by simp [go_sem, sEv, sLook, nbeq, i64_w, -List.length_flatten, hcell2_]) ?_
          refine rw_on (c := decide (0 < (rd b 0))) rfl rfl rfl (by first | (rw [cZ]; rfl) | simp [cZ]) ?_
          refine rw_val (v := .bool ((rd b (rd b 0)) == 0)) (w' := w) rfl rfl rfl rfl (by simp [go_sem, sEv, sLook, nbeq, i64_w, -List.length_flatten]) ?_
          refine rw_val (v := .bool ((rd b (rd b 0)) == 0)) (w' := w) rfl rfl rfl rfl (by first | (simp [go_sem, sEv, sLook, nbeq, i64_w, -List.length_flatten, cZ]; done) | (simp [go_sem, sEv, sLook, nbeq, i64_w, -List.length_flatten] <;> omega) | (simp [go_sem, sEv, sLook, nbeq, i64_w, -List.length_flatten]; intro h_; exact absurd (by omega) h_) | (rw [cZ]; simp [go_sem, sEv, sLook, nbeq, i64_w, -List.length_flatten]; done)) ?_
          refine rw_end ?_
          refine w_weaken (G' := [(0, .slice (some ad) b.length c0), (2, .int .i64 0), (3, .int .i64 0), (4, .int .i64 (rd b 0)), (36, .bool ((rd b (rd b 0)) == 0))]) ⟨rfl, rfl, rfl, rfl, rfl, trivial⟩ ?_
          refine w_cond rfl rfl (fun cT => ?_) (fun cT => ?_)
          · refine w_seq ?_
            refine w_region ?_
            refine rw_val (v := .int .i64 0) (w' := w) rfl rfl rfl rfl rfl ?_
            refine rw_val (v := .int .i64 0) (w' := w) rfl rfl rfl rfl rfl ?_
            refine rw_end ?_
            refine w_ret (post_ret2 rfl rfl rfl ?_)
            have e_ : takeP b = (0, 0) := by
              unfold takeP
              rw [if_neg (by simpa using cN)]
              rw [if_neg (of_decide_eq_false c8)]
              rw [if_neg (of_decide_eq_false c3)]
              rw [if_pos ⟨of_decide_eq_true cZ, by simpa using cT⟩]
            exact ⟨by rw [e_]; rfl, (Below.refl _ _)⟩
          · refine w_skip ?_
            refine w_seq ?_
            refine w_region ?_
            refine rw_val (v := .slice (some ad) b.length c0) (w' := w) rfl rfl rfl rfl rfl ?_
            refine rw_val (v := .int .i64 (rd b 0)) (w' := w) rfl rfl rfl rfl rfl ?_
            refine rw_val (v := .int .i64 ((1 + (rd b 0).toNat : Nat) : Int)) (w' := w) rfl rfl rfl rfl (by simp [go_sem, sEv, sLook, nbeq, i64_w, -List.length_flatten]; have c8_ := of_decide_eq_false c8; rw [wrap_id (by omega) (by omega)]; omega) ?_
            have c3b_ := of_decide_eq_false c3
            have c8b_ := of_decide_eq_false c8
            have hP7 := (mid_C hC 1 (1 + (rd b 0).toNat) (by omega) (by omega) (show b.length ≤ c0 by have q_ := hc; have q2_ : b.length = b.length := rfl; omega))
            have hc8 : ((b.take (1 + (rd b 0).toNat)).drop 1).length ≤ (c0 - 1) := by have q_ := hc; have q2_ : b.length = b.length := rfl; simp only [List.length_take, List.length_drop]; omega
            refine rw_val (v := .slice (adr (some ad) c0 1) (((b.take (1 + (rd b 0).toNat)).drop 1).length) (c0 - 1)) (w' := w) rfl rfl rfl rfl (run_as (run_mid (e := 5) (by kernel_rfl) (fun _ => by kernel_rfl) 1 (1 + (rd b 0).toNat) _ _ (by first | rfl | (simp; done) | omega) (by first | rfl | (simp; done) | omega) rfl (by omega) (by omega) hc _)) ?_
            refine rw_call rfl rfl rfl rfl (f := 41) (args := #[.slice (adr (some ad) c0 1) (((b.take (1 + (rd b 0).toNat)).drop 1).length) (c0 - 1)]) (by simp [go_sem, sEv, sLook, nbeq, i64_w, -List.length_flatten]) (high_calls w _ _ ((b.take (1 + (rd b 0).toNat)).drop 1) (Kd.C_below hP7 (Below.refl _ _)) hc8 ((hb.take _).drop _) (by simp only [List.length_take, List.length_drop]; omega)) ?_
            rintro e_ w9 ⟨rfl, hb10_⟩
            refine ⟨_, rfl, ?_⟩
            have hb10 := hb10_.below
            have hs_w9 := hb10.size
            have hv64_ : valN ((b.take (1 + (rd b 0).toNat)).drop 1) < 18446744073709551616 := by
              have hx_ := valN_lt ((b.take (1 + (rd b 0).toNat)).drop 1) ((hb.take _).drop _)
              have hxl_ : ((b.take (1 + (rd b 0).toNat)).drop 1).length ≤ 8 := by simp only [List.length_take, List.length_drop]; omega
              have h9_ : 2 ^ (8 * ((b.take (1 + (rd b 0).toNat)).drop 1).length) ≤ 2 ^ 64 := Nat.pow_le_pow_right (by omega) (by omega)
              exact Nat.lt_of_lt_of_le hx_ h9_
            refine rw_call rfl rfl rfl rfl (f := 42) (args := #[.int .u64 ((valN ((b.take (1 + (rd b 0).toNat)).drop 1) : Nat) : Int)]) (by simp [go_sem, sEv, sLook, nbeq, i64_w, -List.length_flatten]) (frame_back.calls _ _ w9 (back_f (valN ((b.take (1 + (rd b 0).toNat)).drop 1)) hv64_)) ?_
            rintro e_ w11 ⟨rfl, hb12_⟩
            refine ⟨_, rfl, ?_⟩
            have hb12 := hb12_.below
            have hs_w11 := hb12.size
            refine rw_val (v := .int .i64 (rd b 0)) (w' := w11) rfl rfl rfl rfl rfl ?_
            refine rw_val (v := .int .i64 ((1 + (rd b 0).toNat : Nat) : Int)) (w' := w11) rfl rfl rfl rfl (by simp [go_sem, sEv, sLook, nbeq, i64_w, -List.length_flatten]; have c8_ := of_decide_eq_false c8; rw [wrap_id (by omega) (by omega)]; omega) ?_
            refine rw_val (v := .int .i64 (bk (valN ((b.take (1 + (rd b 0).toNat)).drop 1)))) (w' := w11) rfl rfl rfl rfl rfl ?_
            refine rw_val (v := .int .i64 ((1 + (rd b 0).toNat : Nat) : Int)) (w' := w11) rfl rfl rfl rfl rfl ?_
            refine rw_end ?_
            refine w_weaken (G' := [(2, .int .i64 (bk (valN ((b.take (1 + (rd b 0).toNat)).drop 1)))), (3, .int .i64 ((1 + (rd b 0).toNat : Nat) : Int))]) ⟨rfl, rfl, trivial⟩ ?_
            refine w_ret (post_ret2 rfl rfl rfl ?_)
            have e_ : takeP b = (bk (valN ((b.take (1 + (rd b 0).toNat)).drop 1)), 1 + (rd b 0).toNat) := by
              unfold takeP
              rw [if_neg (by simpa using cN)]
              rw [if_neg (of_decide_eq_false c8)]
              rw [if_neg (of_decide_eq_false c3)]
              rw [if_neg (fun h_ => absurd h_.2 (by simpa using cT))]
            exact ⟨by rw [e_], (chain hb10 hb12)⟩
    · refine rw_off (c := decide (8 < (rd b 0))) rfl rfl rfl (by first | (rw [c8]; rfl) | simp [c8]) rfl rfl ?_
      refine rw_off (c := decide (8 < (rd b 0))) rfl rfl rfl (by first | (rw [c8]; rfl) | simp [c8]) rfl rfl ?_
      refine rw_off (c := decide (8 < (rd b 0))) rfl rfl rfl (by first | (rw [c8]; rfl) | simp [c8]) rfl rfl ?_
      refine rw_off (c := decide (8 < (rd b 0))) rfl rfl rfl (by first | (rw [c8]; rfl) | simp [c8]) rfl rfl ?_
      refine rw_off (c := decide (8 < (rd b 0))) rfl rfl rfl (by first | (rw [c8]; rfl) | simp [c8]) rfl rfl ?_
      refine rw_off (c := decide (8 < (rd b 0))) rfl rfl rfl (by first | (rw [c8]; rfl) | simp [c8]) rfl rfl ?_
      refine rw_off (c := decide (8 < (rd b 0))) rfl rfl rfl (by first | (rw [c8]; rfl) | simp [c8]) rfl rfl ?_
      refine rw_off (c := decide (8 < (rd b 0))) rfl rfl rfl (by first | (rw [c8]; rfl) | simp [c8]) rfl rfl ?_
      refine rw_val (v := .bool true) (w' := w) rfl rfl rfl rfl (by first | (simp [go_sem, sEv, sLook, nbeq, i64_w, -List.length_flatten, c8]; done) | (simp [go_sem, sEv, sLook, nbeq, i64_w, -List.length_flatten] <;> omega) | (simp [go_sem, sEv, sLook, nbeq, i64_w, -List.length_flatten]; intro h_; exact absurd (by omega) h_) | (rw [c8]; simp [go_sem, sEv, sLook, nbeq, i64_w, -List.length_flatten]; done)) ?_
      refine rw_end ?_
      refine w_weaken (G' := [(0, .slice (some ad) b.length c0), (2, .int .i64 0), (3, .int .i64 0), (23, .bool true)]) ⟨rfl, rfl, rfl, rfl, trivial⟩ ?_
      refine w_cond_t rfl rfl rfl ?_
      refine w_seq ?_
      refine w_region ?_
      refine rw_val (v := .int .i64 0) (w' := w) rfl rfl rfl rfl rfl ?_
      refine rw_val (v := .int .i64 0) (w' := w) rfl rfl rfl rfl rfl ?_
      refine rw_end ?_
      refine w_ret (post_ret2 rfl rfl rfl ?_)
      have e_ : takeP b = (0, 0) := by
        unfold takeP
        rw [if_neg (by simpa using cN)]
        rw [if_pos (of_decide_eq_true c8)]
      exact ⟨by rw [e_]; rfl, (Below.refl _ _)⟩
  · refine rw_off (c := ((b.length : Int) == 0)) rfl rfl rfl (by first | (rw [cN]; rfl) | simp [cN]) rfl rfl ?_
    refine rw_off (c := ((b.length : Int) == 0)) rfl rfl rfl (by first | (rw [cN]; rfl) | simp [cN]) rfl rfl ?_
    refine rw_off (c := ((b.length : Int) == 0)) rfl rfl rfl (by first | (rw [cN]; rfl) | simp [cN]) rfl rfl ?_
    refine rw_off (c := ((b.length : Int) == 0)) rfl rfl rfl (by first | (rw [cN]; rfl) | simp [cN]) rfl rfl ?_
    refine rw_val (v := .bool true) (w' := w) rfl rfl rfl rfl (by first | (simp [go_sem, sEv, sLook, nbeq, i64_w, -List.length_flatten, cN]; done) | (simp [go_sem, sEv, sLook, nbeq, i64_w, -List.length_flatten] <;> omega) | (simp [go_sem, sEv, sLook, nbeq, i64_w, -List.length_flatten]; intro h_; exact absurd (by omega) h_) | (rw [cN]; simp [go_sem, sEv, sLook, nbeq, i64_w, -List.length_flatten]; done)) ?_
    refine rw_val (v := .bool true) (w' := w) rfl rfl rfl rfl rfl ?_
    refine rw_off (c := true) rfl rfl rfl rfl rfl rfl ?_
    refine rw_off (c := true) rfl rfl rfl rfl rfl rfl ?_
    refine rw_off (c := true) rfl rfl rfl rfl rfl rfl ?_
    refine rw_off (c := true) rfl rfl rfl rfl rfl rfl ?_
    refine rw_off (c := true) rfl rfl rfl rfl rfl rfl ?_
    refine rw_off (c := true) rfl rfl rfl rfl rfl rfl ?_
    refine rw_off (c := true) rfl rfl rfl rfl rfl rfl ?_
    refine rw_off (c := true) rfl rfl rfl rfl rfl rfl ?_
    refine rw_val (v := .bool true) (w' := w) rfl rfl rfl rfl (by simp [go_sem, sEv, sLook, nbeq, i64_w, -List.length_flatten]) ?_
    refine rw_end ?_
    refine w_weaken (G' := [(0, .slice A0 b.length c0), (2, .int .i64 0), (3, .int .i64 0), (23, .bool true)]) ⟨rfl, rfl, rfl, rfl, trivial⟩ ?_
    refine w_cond_t rfl rfl rfl ?_
    refine w_seq ?_
    refine w_region ?_
    refine rw_val (v := .int .i64 0) (w' := w) rfl rfl rfl rfl rfl ?_
    refine rw_val (v := .int .i64 0) (w' := w) rfl rfl rfl rfl rfl ?_
    refine rw_end ?_
    refine w_ret (post_ret2 rfl rfl rfl ?_)
    have e_ : takeP b = (0, 0) := by
      unfold takeP
      rw [if_pos (by simpa using cN)]
    exact ⟨by rw [e_]; rfl, (Below.refl _ _)⟩

/-- What is left behind the number, and the error. -/
def TR (b : List Int) : List Int := if (takeP b).2 = 0 then [] else b.drop (takeP b).2
def TE (b : List Int) : Option Int := if (takeP b).2 = 0 then some 3 else none
theorem takeP_zero (b : List Int) (h : (takeP b).2 = 0) : (takeP b).1 = 0 := by
  revert h
  unfold takeP
  split
  · exact fun _ => rfl
  · split
    · exact fun _ => rfl
    · split
      · exact fun _ => rfl
      · split
        · exact fun _ => rfl
        · intro h
          simp at h
set_option maxHeartbeats 4000000 in
theorem Take_calls (w : World) (A0 : Option Addr) (c0 : Nat) (b : List Int) (hC : (Kd.int .u8).C w A0 b.length b) (hc : b.length ≤ c0) (hb : Bytes b) (hl : b.length ≤ 140737488355328) :
    Calls Try.prog 28 #[.slice A0 b.length c0] w fun e w' => ∃ A' n' c', e = .returned (.tuple #[.int .i64 (takeP b).1, .slice A' n' c', errW (TE b)]) ∧ Own .u8 5 w' w.heap.size w.heap.size A' n' c' (TR b) ∧ Below w.heap.size w w' := by
  refine calls_flow Try.func28 rfl 20 rfl (Nat.le_of_ble_eq_true rfl) [(0, .slice A0 b.length c0)] ?_ ?_
  · intro t v h; exact args_look rfl t v h
  refine w_seq ?_
  refine w_region ?_
  refine rw_val (v := .int .i64 0) (w' := w) rfl rfl rfl rfl rfl ?_
  refine rw_val (v := .slice none 0 0) (w' := w) rfl rfl rfl rfl rfl ?_
  refine rw_val (v := .nilIface) (w' := w) rfl rfl rfl rfl rfl ?_
  refine rw_end ?_
  refine w_seq ?_
  refine w_region ?_
  refine rw_val (v := .slice A0 b.length c0) (w' := w) rfl rfl rfl rfl rfl ?_
  refine rw_call rfl rfl rfl rfl (f := 38) (args := #[.slice A0 b.length c0]) (by simp [go_sem, sEv, sLook, nbeq, i64_w, -List.length_flatten]) (take_calls w A0 c0 b hC hc hb) ?_
  rintro e_ w1 ⟨rfl, hb2⟩
  refine ⟨_, rfl, ?_⟩
  have hs_w1 := hb2.size
  refine rw_val (v := .tuple #[.int .i64 ((takeP b).1), .int .i64 (((takeP b).2 : Nat) : Int)]) (w' := w1) rfl rfl rfl rfl rfl ?_
  refine rw_val (v := .int .i64 ((takeP b).1)) (w' := w1) rfl rfl rfl rfl (by simp [go_sem, sEv, sLook, nbeq, i64_w, -List.length_flatten]) ?_
  refine rw_val (v := .int .i64 (((takeP b).2 : Nat) : Int)) (w' := w1) rfl rfl rfl rfl (by simp [go_sem, sEv, sLook, nbeq, i64_w, -List.length_flatten]) ?_
  refine rw_val (v := .int .i64 ((takeP b).1)) (w' := w1) rfl rfl rfl rfl rfl ?_
  refine rw_val (v := .int .i64 (((takeP b).2 : Nat) : Int)) (w' := w1) rfl rfl rfl rfl rfl ?_
  refine rw_end ?_
  refine w_weaken (G' := [(0, .slice A0 b.length c0), (2, .int .i64 0), (3, .slice none 0 0), (4, .nilIface), (5, .int .i64 ((takeP b).1)), (6, .int .i64 (((takeP b).2 : Nat) : Int))]) ⟨rfl, rfl, rfl, rfl, rfl, rfl, trivial⟩ ?_
  refine w_seq ?_
  refine w_seq ?_
  refine w_region ?_
  refine rw_val (v := .int .i64 (((takeP b).2 : Nat) : Int)) (w' := w1) rfl rfl rfl rfl rfl ?_
  refine rw_val (v := .bool ((((takeP b).2 : Nat) : Int) == 0)) (w' := w1) rfl rfl rfl rfl (by simp [go_sem, sEv, sLook, nbeq, i64_w, -List.length_flatten]) ?_
  refine rw_end ?_
  refine w_cond rfl rfl (fun cE => ?_) (fun cE => ?_)
  · refine w_seq ?_
    refine w_region ?_
    refine rw_val (v := errW (some 3)) (w' := w1) rfl rfl rfl rfl (by simp [go_sem, sEv, sLook, nbeq, i64_w, -List.length_flatten, errW_some]) ?_
    refine rw_val (v := .int .i64 0) (w' := w1) rfl rfl rfl rfl rfl ?_
    refine rw_val (v := .slice none 0 0) (w' := w1) rfl rfl rfl rfl rfl ?_
    refine rw_val (v := errW (some 3)) (w' := w1) rfl rfl rfl rfl rfl ?_
    refine rw_end ?_
    refine w_weaken (G' := [(0, .slice A0 b.length c0), (2, .int .i64 0), (3, .slice none 0 0), (4, errW (some 3)), (5, .int .i64 ((takeP b).1)), (6, .int .i64 (((takeP b).2 : Nat) : Int))]) ⟨rfl, rfl, rfl, rfl, rfl, rfl, trivial⟩ ?_
    refine w_ret (post_ret3 rfl rfl rfl rfl ?_)
    have cE_ : (takeP b).2 = 0 := by simpa using cE
    exact ⟨none, 0, 0, by rw [takeP_zero b cE_, TE, if_pos cE_], by rw [TR, if_pos cE_]; exact Own.nil _ _ _ _ _, hb2⟩
  · refine w_skip ?_
    refine w_seq ?_
    refine w_region ?_
    refine rw_val (v := .int .i64 ((takeP b).1)) (w' := w1) rfl rfl rfl rfl rfl ?_
    refine rw_val (v := .slice A0 b.length c0) (w' := w1) rfl rfl rfl rfl rfl ?_
    refine rw_val (v := .int .i64 (((takeP b).2 : Nat) : Int)) (w' := w1) rfl rfl rfl rfl rfl ?_
    have cE_ : (takeP b).2 ≠ 0 := by simpa using cE
    have ht_ := (take_back b hb cE_).2.2.1
    have hP3 := (from_C hC ((takeP b).2) (by omega) (show b.length ≤ c0 by have q_ := hc; have q2_ : b.length = b.length := rfl; omega))
    have hc4 : (b.drop ((takeP b).2)).length ≤ (c0 - (takeP b).2) := by have q_ := hc; have q2_ : b.length = b.length := rfl; simp only [List.length_take, List.length_drop]; omega
    refine rw_val (v := .slice (adr A0 c0 ((takeP b).2)) ((b.drop ((takeP b).2)).length) (c0 - (takeP b).2)) (w' := w1) rfl rfl rfl rfl (run_as (run_from (e := 5) (by kernel_rfl) (fun _ => by kernel_rfl) ((takeP b).2) _ (by first | rfl | (simp; done) | omega) rfl (by omega) hc _)) ?_
    refine rw_call rfl rfl rfl rfl (f := 33) (args := #[.slice (adr A0 c0 ((takeP b).2)) ((b.drop ((takeP b).2)).length) (c0 - (takeP b).2)]) (by simp [go_sem, sEv, sLook, nbeq, i64_w, -List.length_flatten]) (clone_calls w1 _ _ _ (b.drop ((takeP b).2)) (Kd.C_below hP3 hb2) (by simp only [List.length_drop]; omega)) ?_
    rintro e_ w8 ⟨A5, n6, c7, rfl, hO9, hB10⟩
    refine ⟨_, rfl, ?_⟩
    have hs_w8 := hB10.size
    have hL11 : Own .u8 5 w8 w.heap.size w1.heap.size A5 n6 c7 (b.drop ((takeP b).2)) := Own.lower hO9 (by omega)
    refine rw_val (v := .int .i64 ((takeP b).1)) (w' := w8) rfl rfl rfl rfl rfl ?_
    refine rw_val (v := .slice A5 n6 c7) (w' := w8) rfl rfl rfl rfl rfl ?_
    refine rw_val (v := .nilIface) (w' := w8) rfl rfl rfl rfl rfl ?_
    refine rw_end ?_
    refine w_weaken (G' := [(2, .int .i64 ((takeP b).1)), (3, .slice A5 n6 c7), (4, .nilIface)]) ⟨rfl, rfl, rfl, trivial⟩ ?_
    refine w_ret (post_ret3 rfl rfl rfl rfl ?_)
    exact ⟨_, _, _, by rw [TE, if_neg cE_]; rfl, by rw [TR, if_neg cE_]; exact Own.mono (hL11.on (Below.refl _ _)) (by omega), (chain hb2 hB10)⟩
end Go.Proofs.Ytjndoihnpnmbjaa.PFrameSums
