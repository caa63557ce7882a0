/- Parts of the proofs of noteKinds_holds, noteBack_holds, notePlaces_holds: FrTake, FrPlain7, FlowU, CeHist, FrRef3, FrPlain8. -/
import Derived.Test.YtbbhdohjhipalaaQA2
section
namespace Go.Proofs.Ytbbhdohjhipalaa.PNoteReads
open Go.RowKit Go.Proofs.YtbbhdohjhipalaaW.PrintWords Go.Proofs.YtbbhdohjhipalaaW.PrintLast Go.Proofs.YtbbhdohjhipalaaW.PrintMore
open Go.Proofs.Ytbbhdohjhipalaa.Flow
set_option linter.unusedVariables false
set_option linter.unusedSimpArgs false
set_option maxHeartbeats 4000000 in
theorem take_calls (w : World) (A0 : Option Addr) (c0 : Nat) (b : List Int) (hC : (Kd.int .u8).C w A0 b.length b) (hc : b.length ≤ c0) (hb : Bytes b) :
    Calls Try.prog 57 #[.slice A0 b.length c0] w fun e w' => e = .returned (.tuple #[.int .i64 (takeP b).1, .int .i64 (((takeP b).2 : Nat) : Int)]) ∧ Below w.heap.size w w' := by
  refine calls_flow Try.func57 rfl 45 rfl (Nat.le_of_ble_eq_true rfl) [(0, .slice A0 b.length c0)] ?_ ?_
  · intro t v h; exact args_look rfl t v h
  refine w_seq ?_
  refine w_region ?_
  refine rw_val (v := .int .i64 0) (w' := w) rfl rfl rfl rfl rfl ?_
  refine rw_val (v := .int .i64 0) (w' := w) rfl rfl rfl rfl rfl ?_
  refine rw_end ?_
  refine w_seq ?_
  refine w_seq ?_
  refine w_region ?_
  refine rw_val (v := .slice A0 b.length c0) (w' := w) rfl rfl rfl rfl rfl ?_
  refine rw_val (v := .int .i64 (b.length : Int)) (w' := w) rfl rfl rfl rfl (by simp [go_sem, sEv, sLook, nbeq, i64_w, -List.length_flatten]) ?_
  refine rw_val (v := .bool ((b.length : Int) == 0)) (w' := w) rfl rfl rfl rfl (by simp [go_sem, sEv, sLook, nbeq, i64_w, -List.length_flatten]) ?_
  refine rw_val (v := .bool ((b.length : Int) == 0)) (w' := w) rfl rfl rfl rfl rfl ?_
  rcases bcase ((b.length : Int) == 0) with cN | cN
  · refine rw_on (c := ((b.length : Int) == 0)) rfl rfl rfl (by first | (rw [cN]; rfl) | simp [cN]) ?_
    refine rw_val (v := .slice A0 b.length c0) (w' := w) rfl rfl rfl rfl rfl ?_
    refine rw_on (c := ((b.length : Int) == 0)) rfl rfl rfl (by first | (rw [cN]; rfl) | simp [cN]) ?_
    have cN_ : b.length ≠ 0 := by simpa using cN
    obtain ⟨ad, hA_, hcell_⟩ := Kd.at_int hC 0 (by omega) (by omega)
    subst hA_
    rw [show (0 : Int).toNat = 0 from rfl, Flow.add_zero] at hcell_
    have hr_ := rd_range hb 0 (by omega)
    rw [show ((0 : Nat) : Int) = 0 from rfl] at hr_
    refine rw_val (v := .pointer (some ad)) (w' := w) rfl rfl rfl rfl (by have hp_ : 0 < b.length := (by omega); have hp2_ : b ≠ [] := (fun h_ => by rw [h_] at hp_; simp at hp_); first | (simp [go_sem, sEv, sLook, nbeq, i64_w, -List.length_flatten, Try.underlying30, Flow.add_zero, hp_]; done) | (simp [go_sem, sEv, sLook, nbeq, i64_w, -List.length_flatten, Try.underlying30, Flow.add_zero, hp2_]; done) | (simp [go_sem, sEv, sLook, nbeq, i64_w, -List.length_flatten, Try.underlying30, Flow.add_zero]; exact hp2_)) ?_
    refine rw_on (c := ((b.length : Int) == 0)) rfl rfl rfl (by first | (rw [cN]; rfl) | simp [cN]) ?_
    refine rw_val (v := .int .u8 (rd b 0)) (w' := w) rfl rfl rfl rfl (by simp [go_sem, sEv, sLook, nbeq, i64_w, -List.length_flatten, hcell_]) ?_
    refine rw_on (c := ((b.length : Int) == 0)) rfl rfl rfl (by first | (rw [cN]; rfl) | simp [cN]) ?_
    refine rw_val (v := .bool (decide (8 < (rd b 0)))) (w' := w) rfl rfl rfl rfl (by simp [go_sem, sEv, sLook, nbeq, i64_w, -List.length_flatten]) ?_
    refine rw_val (v := .bool (decide (8 < (rd b 0)))) (w' := w) rfl rfl rfl rfl (by first | (simp [go_sem, sEv, sLook, nbeq, i64_w, -List.length_flatten, cN]; done) | (simp [go_sem, sEv, sLook, nbeq, i64_w, -List.length_flatten] <;> omega) | (simp [go_sem, sEv, sLook, nbeq, i64_w, -List.length_flatten]; intro h_; exact absurd (by omega) h_) | (rw [cN]; simp [go_sem, sEv, sLook, nbeq, i64_w, -List.length_flatten]; done)) ?_
    refine rw_val (v := .bool (decide (8 < (rd b 0)))) (w' := w) rfl rfl rfl rfl rfl ?_
    rcases bcase (decide (8 < (rd b 0))) with c8 | c8
    · refine rw_on (c := decide (8 < (rd b 0))) rfl rfl rfl (by first | (rw [c8]; rfl) | simp [c8]) ?_
      refine rw_val (v := .slice (some ad) b.length c0) (w' := w) rfl rfl rfl rfl rfl ?_
      refine rw_on (c := decide (8 < (rd b 0))) rfl rfl rfl (by first | (rw [c8]; rfl) | simp [c8]) ?_
      refine rw_val (v := .pointer (some ad)) (w' := w) rfl rfl rfl rfl (by have hp_ : 0 < b.length := (by omega); have hp2_ : b ≠ [] := (fun h_ => by rw [h_] at hp_; simp at hp_); first | (simp [go_sem, sEv, sLook, nbeq, i64_w, -List.length_flatten, Try.underlying30, Flow.add_zero, hp_]; done) | (simp [go_sem, sEv, sLook, nbeq, i64_w, -List.length_flatten, Try.underlying30, Flow.add_zero, hp2_]; done) | (simp [go_sem, sEv, sLook, nbeq, i64_w, -List.length_flatten, Try.underlying30, Flow.add_zero]; exact hp2_)) ?_
      refine rw_on (c := decide (8 < (rd b 0))) rfl rfl rfl (by first | (rw [c8]; rfl) | simp [c8]) ?_
      refine rw_val (v := .int .u8 (rd b 0)) (w' := w) rfl rfl rfl rfl (by simp [go_sem, sEv, sLook, nbeq, i64_w, -List.length_flatten, hcell_]) ?_
      refine rw_on (c := decide (8 < (rd b 0))) rfl rfl rfl (by first | (rw [c8]; rfl) | simp [c8]) ?_
      refine rw_val (v := .int .i64 (rd b 0)) (w' := w) rfl rfl rfl rfl (by simp [go_sem, sEv, sLook, nbeq, i64_w, -List.length_flatten]; exact wrap_id (by omega) (by omega)) ?_
      refine rw_on (c := decide (8 < (rd b 0))) rfl rfl rfl (by first | (rw [c8]; rfl) | simp [c8]) ?_
      refine rw_val (v := .slice (some ad) b.length c0) (w' := w) rfl rfl rfl rfl rfl ?_
      refine rw_on (c := decide (8 < (rd b 0))) rfl rfl rfl (by first | (rw [c8]; rfl) | simp [c8]) ?_
      refine rw_val (v := .int .i64 (b.length : Int)) (w' := w) rfl rfl rfl rfl (by simp [go_sem, sEv, sLook, nbeq, i64_w, -List.length_flatten]) ?_
      refine rw_on (c := decide (8 < (rd b 0))) rfl rfl rfl (by first | (rw [c8]; rfl) | simp [c8]) ?_
      refine rw_val (v := .int .i64 ((b.length : Int) - 1)) (w' := w) rfl rfl rfl rfl (by simp [go_sem, sEv, sLook, nbeq, i64_w, -List.length_flatten]; have h_ := hC.2.1; exact wrap_id (by omega) (by omega)) ?_
      refine rw_on (c := decide (8 < (rd b 0))) rfl rfl rfl (by first | (rw [c8]; rfl) | simp [c8]) ?_
      refine rw_val (v := .bool (decide (((b.length : Int) - 1) < (rd b 0)))) (w' := w) rfl rfl rfl rfl (by simp [go_sem, sEv, sLook, nbeq, i64_w, -List.length_flatten]) ?_
      refine rw_val (v := .bool (decide (((b.length : Int) - 1) < (rd b 0)))) (w' := w) rfl rfl rfl rfl (by first | (simp [go_sem, sEv, sLook, nbeq, i64_w, -List.length_flatten, c8]; done) | (simp [go_sem, sEv, sLook, nbeq, i64_w, -List.length_flatten] <;> omega) | (simp [go_sem, sEv, sLook, nbeq, i64_w, -List.length_flatten]; intro h_; exact absurd (by omega) h_) | (rw [c8]; simp [go_sem, sEv, sLook, nbeq, i64_w, -List.length_flatten]; done)) ?_
      refine rw_end ?_
      refine w_weaken (G' := [(0, .slice (some ad) b.length c0), (2, .int .i64 0), (3, .int .i64 0), (23, .bool (decide (((b.length : Int) - 1) < (rd b 0))))]) ⟨rfl, rfl, rfl, rfl, trivial⟩ ?_
      refine w_cond rfl rfl (fun c3 => ?_) (fun c3 => ?_)
      · refine w_seq ?_
        refine w_region ?_
        refine rw_val (v := .int .i64 0) (w' := w) rfl rfl rfl rfl rfl ?_
        refine rw_val (v := .int .i64 0) (w' := w) rfl rfl rfl rfl rfl ?_
        refine rw_end ?_
        refine w_ret (post_ret2 rfl rfl rfl ?_)
        have e_ : takeP b = (0, 0) := by
          unfold takeP
          rw [if_neg (by simpa using cN)]
          rw [if_neg (of_decide_eq_false c8)]
          rw [if_pos (of_decide_eq_true c3)]
        exact ⟨by rw [e_]; rfl, (Below.refl _ _)⟩
      · refine w_skip ?_
        refine w_seq ?_
        refine w_region ?_
        refine rw_val (v := .slice (some ad) b.length c0) (w' := w) rfl rfl rfl rfl rfl ?_
        refine rw_val (v := .pointer (some ad)) (w' := w) rfl rfl rfl rfl (by have hp_ : 0 < b.length := (by omega); have hp2_ : b ≠ [] := (fun h_ => by rw [h_] at hp_; simp at hp_); first | (simp [go_sem, sEv, sLook, nbeq, i64_w, -List.length_flatten, Try.underlying30, Flow.add_zero, hp_]; done) | (simp [go_sem, sEv, sLook, nbeq, i64_w, -List.length_flatten, Try.underlying30, Flow.add_zero, hp2_]; done) | (simp [go_sem, sEv, sLook, nbeq, i64_w, -List.length_flatten, Try.underlying30, Flow.add_zero]; exact hp2_)) ?_
        refine rw_val (v := .int .u8 (rd b 0)) (w' := w) rfl rfl rfl rfl (by simp [go_sem, sEv, sLook, nbeq, i64_w, -List.length_flatten, hcell_]) ?_
        refine rw_val (v := .int .i64 (rd b 0)) (w' := w) rfl rfl rfl rfl (by simp [go_sem, sEv, sLook, nbeq, i64_w, -List.length_flatten]; exact wrap_id (by omega) (by omega)) ?_
        refine rw_val (v := .int .i64 (rd b 0)) (w' := w) rfl rfl rfl rfl rfl ?_
        refine rw_end ?_
        refine w_weaken (G' := [(0, .slice (some ad) b.length c0), (2, .int .i64 0), (3, .int .i64 0), (4, .int .i64 (rd b 0))]) ⟨rfl, rfl, rfl, rfl, trivial⟩ ?_
        refine w_seq ?_
        refine w_seq ?_
        refine w_region ?_
        refine rw_val (v := .int .i64 (rd b 0)) (w' := w) rfl rfl rfl rfl rfl ?_
        refine rw_val (v := .bool (decide (0 < (rd b 0)))) (w' := w) rfl rfl rfl rfl (by simp [go_sem, sEv, sLook, nbeq, i64_w, -List.length_flatten]) ?_
        refine rw_val (v := .bool (decide (0 < (rd b 0)))) (w' := w) rfl rfl rfl rfl rfl ?_
        rcases bcase (decide (0 < (rd b 0))) with cZ | cZ
        · refine rw_off (c := decide (0 < (rd b 0))) rfl rfl rfl (by first | (rw [cZ]; rfl) | simp [cZ]) rfl rfl ?_
          refine rw_off (c := decide (0 < (rd b 0))) rfl rfl rfl (by first | (rw [cZ]; rfl) | simp [cZ]) rfl rfl ?_
          refine rw_off (c := decide (0 < (rd b 0))) rfl rfl rfl (by first | (rw [cZ]; rfl) | simp [cZ]) rfl rfl ?_
          refine rw_off (c := decide (0 < (rd b 0))) rfl rfl rfl (by first | (rw [cZ]; rfl) | simp [cZ]) rfl rfl ?_
          refine rw_off (c := decide (0 < (rd b 0))) rfl rfl rfl (by first | (rw [cZ]; rfl) | simp [cZ]) rfl rfl ?_
          refine rw_val (v := .bool false) (w' := w) rfl rfl rfl rfl (by first | (simp [go_sem, sEv, sLook, nbeq, i64_w, -List.length_flatten, cZ]; done) | (simp [go_sem, sEv, sLook, nbeq, i64_w, -List.length_flatten] <;> omega) | (simp [go_sem, sEv, sLook, nbeq, i64_w, -List.length_flatten]; intro h_; exact absurd (by omega) h_) | (rw [cZ]; simp [go_sem, sEv, sLook, nbeq, i64_w, -List.length_flatten]; done)) ?_
          refine rw_end ?_
          refine w_weaken (G' := [(0, .slice (some ad) b.length c0), (2, .int .i64 0), (3, .int .i64 0), (4, .int .i64 (rd b 0)), (36, .bool false)]) ⟨rfl, rfl, rfl, rfl, rfl, trivial⟩ ?_
          refine w_cond_f rfl rfl rfl ?_
          refine w_skip ?_
          refine w_seq ?_
          refine w_region ?_
          refine rw_val (v := .slice (some ad) b.length c0) (w' := w) rfl rfl rfl rfl rfl ?_
          refine rw_val (v := .int .i64 (rd b 0)) (w' := w) rfl rfl rfl rfl rfl ?_
          refine rw_val (v := .int .i64 ((1 + (rd b 0).toNat : Nat) : Int)) (w' := w) rfl rfl rfl rfl (by simp [go_sem, sEv, sLook, nbeq, i64_w, -List.length_flatten]; have c8_ := of_decide_eq_false c8; rw [wrap_id (by omega) (by omega)]; omega) ?_
          have c3b_ := of_decide_eq_false c3
          have c8b_ := of_decide_eq_false c8
          have hP1 := (mid_C hC 1 (1 + (rd b 0).toNat) (by omega) (by omega) (show b.length ≤ c0 by have q_ := hc; have q2_ : b.length = b.length := rfl; omega))
          have hc2 : ((b.take (1 + (rd b 0).toNat)).drop 1).length ≤ (c0 - 1) := by have q_ := hc; have q2_ : b.length = b.length := rfl; simp only [List.length_take, List.length_drop]; omega
          refine rw_val (v := .slice (adr (some ad) c0 1) (((b.take (1 + (rd b 0).toNat)).drop 1).length) (c0 - 1)) (w' := w) rfl rfl rfl rfl (run_as (run_mid (e := 5) (by kernel_rfl) (fun _ => by kernel_rfl) 1 (1 + (rd b 0).toNat) _ _ (by first | rfl | (simp; done) | omega) (by first | rfl | (simp; done) | omega) rfl (by omega) (by omega) hc _)) ?_
          refine rw_call rfl rfl rfl rfl (f := 64) (args := #[.slice (adr (some ad) c0 1) (((b.take (1 + (rd b 0).toNat)).drop 1).length) (c0 - 1)]) (by simp [go_sem, sEv, sLook, nbeq, i64_w, -List.length_flatten]) (high_calls w _ _ ((b.take (1 + (rd b 0).toNat)).drop 1) (Kd.C_below hP1 (Below.refl _ _)) hc2 ((hb.take _).drop _) (by simp only [List.length_take, List.length_drop]; omega)) ?_
          rintro e_ w3 ⟨rfl, hb4_⟩
          refine ⟨_, rfl, ?_⟩
          have hb4 := hb4_.below
          have hs_w3 := hb4.size
          have hv64_ : valN ((b.take (1 + (rd b 0).toNat)).drop 1) < 18446744073709551616 := by
            have hx_ := valN_lt ((b.take (1 + (rd b 0).toNat)).drop 1) ((hb.take _).drop _)
            have hxl_ : ((b.take (1 + (rd b 0).toNat)).drop 1).length ≤ 8 := by simp only [List.length_take, List.length_drop]; omega
            have h9_ : 2 ^ (8 * ((b.take (1 + (rd b 0).toNat)).drop 1).length) ≤ 2 ^ 64 := Nat.pow_le_pow_right (by omega) (by omega)
            exact Nat.lt_of_lt_of_le hx_ h9_
          refine rw_call rfl rfl rfl rfl (f := 65) (args := #[.int .u64 ((valN ((b.take (1 + (rd b 0).toNat)).drop 1) : Nat) : Int)]) (by simp [go_sem, sEv, sLook, nbeq, i64_w, -List.length_flatten]) (frame_back.calls _ _ w3 (back_f (valN ((b.take (1 + (rd b 0).toNat)).drop 1)) hv64_)) ?_
          rintro e_ w5 ⟨rfl, hb6_⟩
          refine ⟨_, rfl, ?_⟩
          have hb6 := hb6_.below
          have hs_w5 := hb6.size
          refine rw_val (v := .int .i64 (rd b 0)) (w' := w5) rfl rfl rfl rfl rfl ?_
          refine rw_val (v := .int .i64 ((1 + (rd b 0).toNat : Nat) : Int)) (w' := w5) rfl rfl rfl rfl (by simp [go_sem, sEv, sLook, nbeq, i64_w, -List.length_flatten]; have c8_ := of_decide_eq_false c8; rw [wrap_id (by omega) (by omega)]; omega) ?_
          refine rw_val (v := .int .i64 (bk (valN ((b.take (1 + (rd b 0).toNat)).drop 1)))) (w' := w5) rfl rfl rfl rfl rfl ?_
          refine rw_val (v := .int .i64 ((1 + (rd b 0).toNat : Nat) : Int)) (w' := w5) rfl rfl rfl rfl rfl ?_
          refine rw_end ?_
          refine w_weaken (G' := [(2, .int .i64 (bk (valN ((b.take (1 + (rd b 0).toNat)).drop 1)))), (3, .int .i64 ((1 + (rd b 0).toNat : Nat) : Int))]) ⟨rfl, rfl, trivial⟩ ?_
          refine w_ret (post_ret2 rfl rfl rfl ?_)
          have e_ : takeP b = (bk (valN ((b.take (1 + (rd b 0).toNat)).drop 1)), 1 + (rd b 0).toNat) := by
            unfold takeP
            rw [if_neg (by simpa using cN)]
            rw [if_neg (of_decide_eq_false c8)]
            rw [if_neg (of_decide_eq_false c3)]
            rw [if_neg (fun h_ => of_decide_eq_false cZ h_.1)]
          exact ⟨by rw [e_], (chain hb4 hb6)⟩
        · refine rw_on (c := decide (0 < (rd b 0))) rfl rfl rfl (by first | (rw [cZ]; rfl) | simp [cZ]) ?_
          refine rw_val (v := .slice (some ad) b.length c0) (w' := w) rfl rfl rfl rfl rfl ?_
          refine rw_on (c := decide (0 < (rd b 0))) rfl rfl rfl (by first | (rw [cZ]; rfl) | simp [cZ]) ?_
          refine rw_val (v := .int .i64 (rd b 0)) (w' := w) rfl rfl rfl rfl rfl ?_
          refine rw_on (c := decide (0 < (rd b 0))) rfl rfl rfl (by first | (rw [cZ]; rfl) | simp [cZ]) ?_
          have c3_ := of_decide_eq_false c3
          have cZ_ := of_decide_eq_true cZ
          obtain ⟨ad2, hA2_, hcell2_⟩ := Kd.at_int hC (rd b 0) (by omega) (by omega)
          obtain rfl := Option.some.inj hA2_
          refine rw_val (v := .pointer (some (ad.add (rd b 0).toNat))) (w' := w) rfl rfl rfl rfl (by simp [go_sem, sEv, sLook, nbeq, i64_w, -List.length_flatten, Try.underlying30]; omega) ?_
          refine rw_on (c := decide (0 < (rd b 0))) rfl rfl rfl (by first | (rw [cZ]; rfl) | simp [cZ]) ?_
          refine rw_val (v := .int .u8 (rd b (rd b 0))) (w' := w) rfl rfl rfl rfl (by simp [go_sem, sEv, sLook, nbeq, i64_w, -List.length_flatten, hcell2_]) ?_
          refine rw_on (c := decide (0 < (rd b 0))) rfl rfl rfl (by first | (rw [cZ]; rfl) | simp [cZ]) ?_
          refine rw_val (v := .bool ((rd b (rd b 0)) == 0)) (w' := w) rfl rfl rfl rfl (by simp [go_sem, sEv, sLook, nbeq, i64_w, -List.length_flatten]) ?_
          refine rw_val (v := .bool ((rd b (rd b 0)) == 0)) (w' := w) rfl rfl rfl rfl (by first | (simp [go_sem, sEv, sLook, nbeq, i64_w, -List.length_flatten, cZ]; done) | (simp [go_sem, sEv, sLook, nbeq, i64_w, -List.length_flatten] <;> omega) | (simp [go_sem, sEv, sLook, nbeq, i64_w, -List.length_flatten]; intro h_; exact absurd (by omega) h_) | (rw [cZ]; simp [go_sem, sEv, sLook, nbeq, i64_w, -List.length_flatten]; done)) ?_
          refine rw_end ?_
          refine w_weaken (G' := [(0, .slice (some ad) b.length c0), (2, .int .i64 0), (3, .int .i64 0), (4, .int .i64 (rd b 0)), (36, .bool ((rd b (rd b 0)) == 0))]) ⟨rfl, rfl, rfl, rfl, rfl, trivial⟩ ?_
          refine w_cond rfl rfl (fun cT => ?_) (fun cT => ?_)
          · refine w_seq ?_
            refine w_region ?_
            refine rw_val (v := .int .i64 0) (w' := w) rfl rfl rfl rfl rfl ?_
            refine rw_val (v := .int .i64 0) (w' := w) rfl rfl rfl rfl rfl ?_
            refine rw_end ?_
            refine w_ret (post_ret2 rfl rfl rfl ?_)
            have e_ : takeP b = (0, 0) := by
              unfold takeP
              rw [if_neg (by simpa using cN)]
              rw [if_neg (of_decide_eq_false c8)]
              rw [if_neg (of_decide_eq_false c3)]
              rw [if_pos ⟨of_decide_eq_true cZ, by simpa using cT⟩]
            exact ⟨by rw [e_]; rfl, (Below.refl _ _)⟩
          · refine w_skip ?_
            refine w_seq ?_
            refine w_region ?_
            refine rw_val (v := .slice (some ad) b.length c0) (w' := w) rfl rfl rfl rfl rfl ?_
            refine rw_val (v := .int .i64 (rd b 0)) (w' := w) rfl rfl rfl rfl rfl ?_
            refine rw_val (v := .int .i64 ((1 + (rd b 0).toNat : Nat) : Int)) (w' := w) rfl rfl rfl rfl (by simp [go_sem, sEv, sLook, nbeq, i64_w, -List.length_flatten]; have c8_ := of_decide_eq_false c8; rw [wrap_id (by omega) (by omega)]; omega) ?_
            have c3b_ := of_decide_eq_false c3
            have c8b_ := of_decide_eq_false c8
            have hP7 := (mid_C hC 1 (1 + (rd b 0).toNat) (by omega) (by omega) (show b.length ≤ c0 by have q_ := hc; have q2_ : b.length = b.length := rfl; omega))
            have hc8 : ((b.take (1 + (rd b 0).toNat)).drop 1).length ≤ (c0 - 1) := by have q_ := hc; have q2_ : b.length = b.length := rfl; simp only [List.length_take, List.length_drop]; omega
            refine rw_val (v := .slice (adr (some ad) c0 1) (((b.take (1 + (rd b 0).toNat)).drop 1).length) (c0 - 1)) (w' := w) rfl rfl rfl rfl (run_as (run_mid (e := 5) (by kernel_rfl) (fun _ => by kernel_rfl) 1 (1 + (rd b 0).toNat) _ _ (by first | rfl | (simp; done) | omega) (by first | rfl | (simp; done) | omega) rfl (by omega) (by omega) hc _)) ?_
            refine rw_call rfl rfl rfl rfl (f := 64) (args := #[.slice (adr (some ad) c0 1) (((b.take (1 + (rd b 0).toNat)).drop 1).length) (c0 - 1)]) (by simp [go_sem, sEv, sLook, nbeq, i64_w, -List.length_flatten]) (high_calls w _ _ ((b.take (1 + (rd b 0).toNat)).drop 1) (Kd.C_below hP7 (Below.refl _ _)) hc8 ((hb.take _).drop _) (by simp only [List.length_take, List.length_drop]; omega)) ?_
            rintro e_ w9 ⟨rfl, hb10_⟩
            refine ⟨_, rfl, ?_⟩
            have hb10 := hb10_.below
            have hs_w9 := hb10.size
            have hv64_ : valN ((b.take (1 + (rd b 0).toNat)).drop 1) < 18446744073709551616 := by
              have hx_ := valN_lt ((b.take (1 + (rd b 0).toNat)).drop 1) ((hb.take _).drop _)
              have hxl_ : ((b.take (1 + (rd b 0).toNat)).drop 1).length ≤ 8 := by simp only [List.length_take, List.length_drop]; omega
              have h9_ : 2 ^ (8 * ((b.take (1 + (rd b 0).toNat)).drop 1).length) ≤ 2 ^ 64 := Nat.pow_le_pow_right (by omega) (by omega)
              exact Nat.lt_of_lt_of_le hx_ h9_
            refine rw_call rfl rfl rfl rfl (f := 65) (args := #[.int .u64 ((valN ((b.take (1 + (rd b 0).toNat)).drop 1) : Nat) : Int)]) (by simp [go_sem, sEv, sLook, nbeq, i64_w, -List.length_flatten]) (frame_back.calls _ _ w9 (back_f (valN ((b.take (1 + (rd b 0).toNat)).drop 1)) hv64_)) ?_
            rintro e_ w11 ⟨rfl, hb12_⟩
            refine ⟨_, rfl, ?_⟩
            have hb12 := hb12_.below
            have hs_w11 := hb12.size
            refine rw_val (v := .int .i64 (rd b 0)) (w' := w11) rfl rfl rfl rfl rfl ?_
            refine rw_val (v := .int .i64 ((1 + (rd b 0).toNat : Nat) : Int)) (w' := w11) rfl rfl rfl rfl (by simp [go_sem, sEv, sLook, nbeq, i64_w, -List.length_flatten]; have c8_ := of_decide_eq_false c8; rw [wrap_id (by omega) (by omega)]; omega) ?_
            refine rw_val (v := .int .i64 (bk (valN ((b.take (1 + (rd b 0).toNat)).drop 1)))) (w' := w11) rfl rfl rfl rfl rfl ?_
            refine rw_val (v := .int .i64 ((1 + (rd b 0).toNat : Nat) : Int)) (w' := w11) rfl rfl rfl rfl rfl ?_
            refine rw_end ?_
            refine w_weaken (G' := [(2, .int .i64 (bk (valN ((b.take (1 + (rd b 0).toNat)).drop 1)))), (3, .int .i64 ((1 + (rd b 0).toNat : Nat) : Int))]) ⟨rfl, rfl, trivial⟩ ?_
            refine w_ret (post_ret2 rfl rfl rfl ?_)
            have e_ : takeP b = (bk (valN ((b.take (1 + (rd b 0).toNat)).drop 1)), 1 + (rd b 0).toNat) := by
              unfold takeP
              rw [if_neg (by simpa using cN)]
              rw [if_neg (of_decide_eq_false c8)]
              rw [if_neg (of_decide_eq_false c3)]
              rw [if_neg (fun h_ => absurd h_.2 (by simpa using cT))]
            exact ⟨by rw [e_], (chain hb10 hb12)⟩
    · refine rw_off (c := decide (8 < (rd b 0))) rfl rfl rfl (by first | (rw [c8]; rfl) | simp [c8]) rfl rfl ?_
      refine rw_off (c := decide (8 < (rd b 0))) rfl rfl rfl (by first | (rw [c8]; rfl) | simp [c8]) rfl rfl ?_
      refine rw_off (c := decide (8 < (rd b 0))) rfl rfl rfl (by first | (rw [c8]; rfl) | simp [c8]) rfl rfl ?_
      refine rw_off (c := decide (8 < (rd b 0))) rfl rfl rfl (by first | (rw [c8]; rfl) | simp [c8]) rfl rfl ?_
      refine rw_off (c := decide (8 < (rd b 0))) rfl rfl rfl (by first | (rw [c8]; rfl) | simp [c8]) rfl rfl ?_
      refine rw_off (c := decide (8 < (rd b 0))) rfl rfl rfl (by first | (rw [c8]; rfl) | simp [c8]) rfl rfl ?_
      refine rw_off (c := decide (8 < (rd b 0))) rfl rfl rfl (by first | (rw [c8]; rfl) | simp [c8]) rfl rfl ?_
      refine rw_off (c := decide (8 < (rd b 0))) rfl rfl rfl (by first | (rw [c8]; rfl) | simp [c8]) rfl rfl ?_
      refine rw_val (v := .bool true) (w' := w) rfl rfl rfl rfl (by first | (simp [go_sem, sEv, sLook, nbeq, i64_w, -List.length_flatten, c8]; done) | (simp [go_sem, sEv, sLook, nbeq, i64_w, -List.length_flatten] <;> omega) | (simp [go_sem, sEv, sLook, nbeq, i64_w, -List.length_flatten]; intro h_; exact absurd (by omega) h_) | (rw [c8]; simp [go_sem, sEv, sLook, nbeq, i64_w, -List.length_flatten]; done)) ?_
      refine rw_end ?_
      refine w_weaken (G' := [(0, .slice (some ad) b.length c0), (2, .int .i64 0), (3, .int .i64 0), (23, .bool true)]) ⟨rfl, rfl, rfl, rfl, trivial⟩ ?_
      refine w_cond_t rfl rfl rfl ?_
      refine w_seq ?_
      refine w_region ?_
      refine rw_val (v := .int .i64 0) (w' := w) rfl rfl rfl rfl rfl ?_
      refine rw_val (v := .int .i64 0) (w' := w) rfl rfl rfl rfl rfl ?_
      refine rw_end ?_
      refine w_ret (post_ret2 rfl rfl rfl ?_)
      have e_ : takeP b = (0, 0) := by
        unfold takeP
        rw [if_neg (by simpa using cN)]
        rw [if_pos (of_decide_eq_true c8)]
      exact ⟨by rw [e_]; rfl, (Below.refl _ _)⟩
  · refine rw_off (c := ((b.length : Int) == 0)) rfl rfl rfl (by first | (rw [cN]; rfl) | simp [cN]) rfl rfl ?_
    refine rw_off (c := ((b.length : Int) == 0)) rfl rfl rfl (by first | (rw [cN]; rfl) | simp [cN]) rfl rfl ?_
    refine rw_off (c := ((b.length : Int) == 0)) rfl rfl rfl (by first | (rw [cN]; rfl) | simp [cN]) rfl rfl ?_
    refine rw_off (c := ((b.length : Int) == 0)) rfl rfl rfl (by first | (rw [cN]; rfl) | simp [cN]) rfl rfl ?_
    refine rw_val (v := .bool true) (w' := w) rfl rfl rfl rfl (by first | (simp [go_sem, sEv, sLook, nbeq, i64_w, -List.length_flatten, cN]; done) | (simp [go_sem, sEv, sLook, nbeq, i64_w, -List.length_flatten] <;> omega) | (simp [go_sem, sEv, sLook, nbeq, i64_w, -List.length_flatten]; intro h_; exact absurd (by omega) h_) | (rw [cN]; simp [go_sem, sEv, sLook, nbeq, i64_w, -List.length_flatten]; done)) ?_
    refine rw_val (v := .bool true) (w' := w) rfl rfl rfl rfl rfl ?_
    refine rw_off (c := true) rfl rfl rfl rfl rfl rfl ?_
    refine rw_off (c := true) rfl rfl rfl rfl rfl rfl ?_
    refine rw_off (c := true) rfl rfl rfl rfl rfl rfl ?_
    refine rw_off (c := true) rfl rfl rfl rfl rfl rfl ?_
    refine rw_off (c := true) rfl rfl rfl rfl rfl rfl ?_
    refine rw_off (c := true) rfl rfl rfl rfl rfl rfl ?_
    refine rw_off (c := true) rfl rfl rfl rfl rfl rfl ?_
    refine rw_off (c := true) rfl rfl rfl rfl rfl rfl ?_
    refine rw_val (v := .bool true) (w' := w) rfl rfl rfl rfl (by simp [go_sem, sEv, sLook, nbeq, i64_w, -List.length_flatten]) ?_
    refine rw_end ?_
    refine w_weaken (G' := [(0, .slice A0 b.length c0), (2, .int .i64 0), (3, .int .i64 0), (23, .bool true)]) ⟨rfl, rfl, rfl, rfl, trivial⟩ ?_
    refine w_cond_t rfl rfl rfl ?_
    refine w_seq ?_
    refine w_region ?_
    refine rw_val (v := .int .i64 0) (w' := w) rfl rfl rfl rfl rfl ?_
    refine rw_val (v := .int .i64 0) (w' := w) rfl rfl rfl rfl rfl ?_
    refine rw_end ?_
    refine w_ret (post_ret2 rfl rfl rfl ?_)
    have e_ : takeP b = (0, 0) := by
      unfold takeP
      rw [if_pos (by simpa using cN)]
    exact ⟨by rw [e_]; rfl, (Below.refl _ _)⟩
theorem takeP_zero (b : List Int) (h : (takeP b).2 = 0) : (takeP b).1 = 0 := by
  revert h
  unfold takeP
  split
  · exact fun _ => rfl
  · split
    · exact fun _ => rfl
    · split
      · exact fun _ => rfl
      · split
        · exact fun _ => rfl
        · intro h
          simp at h
end Go.Proofs.Ytbbhdohjhipalaa.PNoteReads
end
section
namespace Go.Proofs.Ytbbhdohjhipalaa.PNoteReads
open Go.RowKit Go.Proofs.YtbbhdohjhipalaaW.PrintWords Go.Proofs.YtbbhdohjhipalaaW.PrintLast Go.Proofs.YtbbhdohjhipalaaW.PrintMore
open Go.Proofs.Ytbbhdohjhipalaa.Flow
set_option linter.unusedVariables false
set_option linter.unusedSimpArgs false
theorem str_inj : ∀ (a b : List Int), Bytes a → Bytes b → (a.map fun n => UInt8.ofNat n.toNat) = (b.map fun n => UInt8.ofNat n.toNat) → a = b
  | [], [], _, _, _ => rfl
  | [], y :: b, _, _, h => by simp at h
  | x :: a, [], _, _, h => by simp at h
  | x :: a, y :: b, ha, hb, h => by
    simp only [List.map_cons, List.cons.injEq] at h
    have h1 := ha x (by simp)
    have h2 := hb y (by simp)
    have h3 := congrArg UInt8.toNat h.1
    simp at h3
    have h4 : x = y := by omega
    rw [h4, str_inj a b ha.tail hb.tail h.2]
theorem str_iff {a b : List Int} (ha : Bytes a) (hb : Bytes b) : (strOfNums a).toList = (strOfNums b).toList ↔ a = b := by
  constructor
  · intro h
    have h1 := toList_inj h
    have h2 : (strOfNums a).data.toList = (strOfNums b).data.toList := by rw [h1]
    rw [strOfNums_data, strOfNums_data] at h2
    exact str_inj a b ha hb h2
  · intro h
    rw [h]
theorem valN_U (b : List Int) (hb : Bytes b) (z : Nat) (hz : z ≤ 8) : valN ((b.take (1 + z)).drop 1) < 18446744073709551616 := by
  have hB : Bytes ((b.take (1 + z)).drop 1) := (hb.take _).drop _
  have hv := valN_lt _ hB
  have h9 : 2 ^ (8 * ((b.take (1 + z)).drop 1).length) ≤ 2 ^ 64 := Nat.pow_le_pow_right (by omega) (by rw [List.length_drop, List.length_take]; omega)
  exact Nat.lt_of_lt_of_le hv h9
theorem fin_take (b : List Int) (hb : Bytes b) (z : Nat) (hz : z ≤ 8) (hl : 1 + z ≤ b.length) (hr : rd b 0 = (z : Int)) : takeP b = if (strOfNums (numB (bk (valN ((b.take (1 + z)).drop 1))))).toList = (strOfNums (b.take (1 + z))).toList then (bk (valN ((b.take (1 + z)).drop 1)), 1 + z) else (0, 0) := by
  have hB : Bytes ((b.take (1 + z)).drop 1) := (hb.take _).drop _
  have hL : ((b.take (1 + z)).drop 1).length = z := by rw [List.length_drop, List.length_take]; omega
  have hv := valN_lt _ hB
  rw [hL] at hv
  have h9 : 2 ^ (8 * z) ≤ 2 ^ 64 := Nat.pow_le_pow_right (by omega) (by omega)
  have hv64 : valN ((b.take (1 + z)).drop 1) < 18446744073709551616 := Nat.lt_of_lt_of_le hv h9
  have hlt : (b.take (1 + z)).length = 1 + z := by rw [List.length_take]; omega
  have hcond := str_iff (numB_bytes (bk (valN ((b.take (1 + z)).drop 1))) (bk_range hv64)) (hb.take (1 + z))
  by_cases hc : numB (bk (valN ((b.take (1 + z)).drop 1))) = b.take (1 + z)
  · rw [if_pos (hcond.2 hc)]
    have h1 := take_num (bk (valN ((b.take (1 + z)).drop 1))) (bk_range hv64) (b.drop (1 + z))
    have h2 : 1 + szN (tn (bk (valN ((b.take (1 + z)).drop 1)))) = 1 + z := by rw [← numB_len, hc, hlt]
    rw [h2, hc, List.take_append_drop] at h1
    exact h1
  · rw [if_neg (fun h => hc (hcond.1 h))]
    have h0 : (takeP b).2 = 0 := by
      rcases Nat.eq_zero_or_pos (takeP b).2 with h | h
      · exact h
      · have h3 := take_back b hb (by omega)
        have h4 : takeP b = (bk (valN ((b.take (1 + z)).drop 1)), 1 + z) := by
          revert h
          unfold takeP
          rw [hr]
          have e : (((z : Nat) : Int)).toNat = z := by omega
          rw [e]
          split
          · intro h; simp at h
          · split
            · intro h; simp at h
            · split
              · intro h; simp at h
              · split
                · intro h; simp at h
                · intro _; rfl
        rw [h4] at h3
        have h5 := congrArg (List.take (1 + z)) h3.1
        simp only at h5
        have h6 : (numB (bk (valN ((b.take (1 + z)).drop 1)))).length = 1 + z := by
          have h7 := congrArg List.length h3.1
          simp only [List.length_append, List.length_drop] at h7
          omega
        rw [List.take_append_of_le_length (by omega), List.take_of_length_le (by omega)] at h5
        exact absurd h5 hc
    exact Prod.ext (takeP_zero b h0) h0
def numsP : Nat → List Int → Int → List Int → List Int × Bool
  | 0, _, _, _ => ([], false)
  | k + 1, b, most, x => if b.length = 0 then (if 0 < x.length ∧ most < (x.length : Int) then ([], false) else (x, true)) else if (takeP b).2 = 0 then ([], false) else numsP k (b.drop (takeP b).2) most (x ++ [(takeP b).1])
theorem nums_many : ∀ (n : Nat) (b x : List Int) (most : Int) (K : Nat), b.length ≤ n → Bytes b → n < K → most < (x.length : Int) → 0 < x.length → numsP K b most x = ([], false)
  | n, b, x, most, K, hn, hb, hK, hm, hx => by
    obtain ⟨k, rfl⟩ : ∃ k, K = k + 1 := ⟨K - 1, by omega⟩
    rw [numsP]
    by_cases c1 : b.length = 0
    · rw [if_pos c1, if_pos ⟨hx, hm⟩]
    · rw [if_neg c1]
      by_cases c2 : (takeP b).2 = 0
      · rw [if_pos c2]
      · have h3 := take_back b hb c2
        have hd : (b.drop (takeP b).2).length = b.length - (takeP b).2 := List.length_drop
        rw [if_neg c2]
        match n, hn with
        | 0, hn => omega
        | n + 1, hn => exact nums_many n (b.drop (takeP b).2) (x ++ [(takeP b).1]) most k (by omega) (hb.drop _) (by omega) (by simp only [List.length_append, List.length_singleton]; omega) (by simp)
theorem nums_both : ∀ (n : Nat) (b x : List Int) (most : Int) (K L : Nat), b.length ≤ n → Bytes b → n + 32 ≤ K → n < L → (x = [] ∨ (x.length : Int) ≤ most) → x.length + b.length ≤ 1000000 →
    frame_Nums.l0 K b most x = some ((numsP L b most x).1, if (numsP L b most x).2 = true then none else some 3) ∧ (numsP L b most x).1.length ≤ 1000000
  | n, b, x, most, K, L, hn, hb, hK, hL, hm, hl => by
    obtain ⟨k, rfl⟩ : ∃ k, K = k + 1 := ⟨K - 1, by omega⟩
    obtain ⟨l, rfl⟩ : ∃ l, L = l + 1 := ⟨L - 1, by omega⟩
    rw [numsP, frame_Nums.l0]
    by_cases c1 : b.length = 0
    · rw [if_pos c1, if_neg (by omega), if_neg ?_]
      · exact ⟨rfl, by simp only; omega⟩
      · rintro ⟨h1, h2⟩
        rcases hm with h | h
        · rw [h] at h1
          simp at h1
        · omega
    · rw [if_neg c1, if_pos (by omega), take_f b hb (by omega) k (by omega), Option.bind_some]
      by_cases c2 : (takeP b).2 = 0
      · rw [if_pos c2, if_pos (by simp only; omega)]
        exact ⟨rfl, by simp⟩
      · have h3 := take_back b hb c2
        have hd : (b.drop (takeP b).2).length = b.length - (takeP b).2 := List.length_drop
        rw [if_neg c2, if_neg (by simp only; omega)]
        by_cases c3 : most ≤ (x.length : Int)
        · rw [if_pos c3]
          match n, hn with
          | 0, hn => omega
          | n + 1, hn =>
            rw [nums_many n (b.drop (takeP b).2) (x ++ [(takeP b).1]) most l (by omega) (hb.drop _) (by omega) (by simp only [List.length_append, List.length_singleton]; omega) (by simp)]
            exact ⟨rfl, by simp⟩
        · rw [if_neg c3, if_pos (by omega), if_pos (by omega), if_pos (by omega)]
          simp only [Int.toNat_natCast]
          match n, hn with
          | 0, hn => omega
          | n + 1, hn => exact nums_both n (b.drop (takeP b).2) (x ++ [(takeP b).1]) most k l (by omega) (hb.drop _) (by omega) (by omega) (.inr (by simp only [List.length_append, List.length_singleton]; omega)) (by simp only [List.length_append, List.length_singleton]; omega)
end Go.Proofs.Ytbbhdohjhipalaa.PNoteReads
end
section
namespace Go.Proofs.Ytbbhdohjhipalaa.Flow
open Go.RowKit Go.Proofs.YtbbhdohjhipalaaW.PrintWords Go.Proofs.YtbbhdohjhipalaaW.PrintLast Go.Proofs.YtbbhdohjhipalaaW.PrintMore
open Go.ChangeShapes Go.WideShapes Go.ChangeAt Go.Deep
set_option linter.unusedVariables false
set_option linter.unusedSimpArgs false
section
variable {H : Type} {enc : TypeId × Value → H} {P : Program} {W : World}
def Light (P : Program) (t : TypeId) (d : DataW H) : Prop := ∀ n ∈ d.weights P t, n ≤ reachBytes
theorem light_arg {ts : List TypeId} {ds : List (DataW H)} {j : Nat} {t : TypeId} {d : DataW H} (hsz : (DataW.weightsEach P ts ds).all (· ≤ reachBytes) = true) (ht : ts[j]? = some t) (hd : ds[j]? = some d) : Light P t d := fun n hn => by
  have h := List.all_eq_true.1 hsz n (DataW.weights_mem_each ht hd n hn)
  simpa using h
theorem weights_all_mem {e : TypeId} : ∀ {l : List (DataW H)} {d : DataW H}, d ∈ l → ∀ n ∈ d.weights P e, n ∈ DataW.weightsAll P e l
  | [], _, h, _, _ => by cases h
  | d0 :: l, d, h, n, hn => by
    simp only [DataW.weightsAll, List.mem_append]
    rcases List.mem_cons.1 h with rfl | h
    · exact .inl hn
    · exact .inr (weights_all_mem h n hn)
def OpW (enc : TypeId × Value → H) (P : Program) (W : World) {α : Type} (t : TypeId) (d : Kd α) (ok : α → Prop) : Prop :=
  ∀ (m : Nat) (cs : List Value) (y : DataW H × List MemPlace), DataW.trod enc P W 0 (fun _ => true) true m t cs = some y → Light P t y.1 → ∃ x, d.K W x cs ∧ ok x
theorem Opn.w {α : Type} {t : TypeId} {d : Kd α} {ok : α → Prop} (h : Opn enc P W t d ok) : OpW enc P W t d ok := fun m cs y hy _ => h m cs y hy
theorem OpW.as {α β : Type} {t : TypeId} {d : Kd α} {d' : Kd β} {ok : α → Prop} {ok' : β → Prop} (h : OpW enc P W t d ok) (f : α → β) (hk : ∀ x cs, d.K W x cs → d'.K W (f x) cs) (hi : ∀ x, ok x → ok' (f x)) : OpW enc P W t d' ok' := fun m cs y hy hl => by
  obtain ⟨x, h1, h2⟩ := h m cs y hy hl
  exact ⟨f x, hk _ _ h1, hi x h2⟩
theorem opw_slice {α : Type} {t e : TypeId} {d : Kd α} {ok : α → Prop} (ht : P.underlying t = some (.slice e)) (hsz : P.cellsOf e = d.sz) (hB : 1 ≤ P.bytesOf e) (z : α) (he : OpW enc P W e d ok) : OpW enc P W t (Kd.slice e d) (fun xs => xs.length ≤ 140737488351232 ∧ ∀ x ∈ xs, ok x) := fun m cs y h hL => by
  rcases open_slice ht h with ⟨rfl, _⟩ | ⟨a, len, cap, m2, n, D, Pl, rfl, _, hl, hm, hmm, hy, hx⟩
  · exact ⟨[], ⟨none, 0, rfl, Nat.le_refl _, ⟨rfl, by simp, fun h => absurd h (by simp)⟩⟩, by simp, fun x hx => by cases hx⟩
  · simp only [if_true] at hmm
    subst hy
    have hw : len * 1 ≤ 140737488351232 := by
      have h1 := hL ((((List.range len).map D).length + ((List.range (m2 - len)).map fun j => D (len + j)).length) * P.bytesOf e) (by simp [DataW.weights, ht])
      simp only [List.length_map, List.length_range] at h1
      exact Nat.le_trans (Nat.mul_le_mul (by omega) hB) h1
    have each : ∀ i, i < len → ∃ x : α, ok x ∧ ∃ c, c.length = d.sz ∧ d.K W x c ∧ ∀ j u, c[j]? = some u → W.cell? (a.add (i * d.sz + j)) = some u := fun i hi => by
      obtain ⟨cs', h1, h2⟩ := hx i (by omega)
      obtain ⟨x, h3, h4⟩ := he _ _ _ h2 (fun n hn => hL n (by
        simp only [DataW.weights, ht, List.mem_cons, List.mem_append]
        exact .inr (.inl (weights_all_mem (List.mem_map.2 ⟨i, List.mem_range.2 hi, rfl⟩) n hn))))
      rw [hsz] at h1
      refine ⟨x, h4, cs', d.K_len h3, h3, fun j u hu => ?_⟩
      obtain ⟨_, hlen, hc⟩ := World.cells?_some h1
      rw [← Go.Deep.add_add]
      exact (hc j (by rw [← hlen]; exact (List.getElem?_eq_some_iff.1 hu).1)).trans hu
    have each2 : ∀ i, ∃ x : α, i < len → ok x ∧ ∃ c, c.length = d.sz ∧ d.K W x c ∧ ∀ j u, c[j]? = some u → W.cell? (a.add (i * d.sz + j)) = some u := fun i => by
      by_cases hi : i < len
      · obtain ⟨x, hx⟩ := each i hi
        exact ⟨x, fun _ => hx⟩
      · exact ⟨z, fun h => absurd h hi⟩
    obtain ⟨f, hf⟩ := Classical.skolem.1 each2
    have hlen : ((List.range len).map f).length = len := by simp
    refine ⟨(List.range len).map f, ⟨some a, cap, by rw [hlen], by omega, ⟨rfl, ?_, fun hn => ⟨a, rfl, fun j p hj => ?_⟩⟩⟩, by rw [hlen]; omega, fun x hx => ?_⟩
    · rw [hlen]
      omega
    · obtain ⟨hl2, hp⟩ := List.getElem?_eq_some_iff.1 hj
      rw [hlen] at hl2
      rw [List.getElem_map, List.getElem_range] at hp
      subst hp
      exact (hf j hl2).2
    · obtain ⟨i, hi, rfl⟩ := List.mem_map.1 hx
      exact (hf i (List.mem_range.1 hi)).1
theorem opwAt_last {α : Type} {t : TypeId} {d : Kd α} {ok : α → Prop} {cs : List Value} {a n : Nat} {y : DataW H × List MemPlace} (h : OpW enc P W t d ok) (hc : P.cellsOf t = d.sz) (hl : cs.length = a + d.sz) (hf : DataW.trod enc P W 0 (fun _ => true) true n t ((cs.drop a).take (P.cellsOf t)) = some y) (hL : Light P t y.1) : OpnAt enc P W cs a d ok := by
  obtain ⟨x, h1, h2⟩ := h _ _ _ hf hL
  rw [hc, take_all cs a d.sz hl] at h1
  exact ⟨x, h1, h2⟩
theorem opwAt_cons {α β : Type} {t : TypeId} {d : Kd α} {d2 : Kd β} {ok : α → Prop} {ok2 : β → Prop} {cs : List Value} {a b n : Nat} {y : DataW H × List MemPlace} (h : OpW enc P W t d ok) (hc : P.cellsOf t = d.sz) (hb : b = a + d.sz) (hf : DataW.trod enc P W 0 (fun _ => true) true n t ((cs.drop a).take (P.cellsOf t)) = some y) (hL : Light P t y.1) (hr : OpnAt enc P W cs b d2 ok2) : OpnAt enc P W cs a (Kd.pair d d2) (fun x => ok x.1 ∧ ok2 x.2) := by
  obtain ⟨x, h1, h2⟩ := h _ _ _ hf hL
  obtain ⟨x2, h3, h4⟩ := hr
  subst hb
  rw [hc] at h1
  exact ⟨(x, x2), ⟨_, _, split_at cs a d.sz, h1, h3⟩, h2, h4⟩
theorem opw_struct {α : Type} {t : TypeId} {fs : Array Field} {d : Kd α} {ok : α → Prop} (ht : P.underlying t = some (.struct fs)) (hf : ∀ (n : Nat) (cs : List Value) (ys : List (DataW H × List MemPlace)), cs.length = P.cellsOf t → (∀ (j : Nat) (f : Field), fs[j]? = some f → DataW.trod enc P W 0 (fun _ => true) true n f.type ((cs.drop f.offset).take (P.cellsOf f.type)) = ys[j]?) → ys.length = fs.size → (∀ (j : Nat) (f : Field) (y : DataW H × List MemPlace), fs[j]? = some f → ys[j]? = some y → Light P f.type y.1) → OpnAt enc P W cs 0 d ok) : OpW enc P W t d ok := fun m cs y h hL => by
  obtain ⟨ys, n, _, hy, hcl, hyl, hg⟩ := DataW.trod_struct ht h
  subst hy
  refine hf n cs ys hcl hg hyl (fun j f y hj hyj k hk => hL k ?_)
  simp only [DataW.weights, ht]
  exact DataW.weights_mem_each (j := j) (t := f.type) (d := y.1) (by rw [List.getElem?_map, Array.getElem?_toList, hj]; rfl) (by rw [List.getElem?_map, hyj]; rfl) k hk
end
theorem argw_row {H : Type} {enc : TypeId × Value → H} {P : Program} {W : World} {α : Type} {t e : TypeId} {d : Kd α} {ok : List α → Prop} {v : Value} {dd : DataW H} {p : List MemPlace} (ho : OpW enc P W t (Kd.slice e d) ok) (hL : Light P t dd) (hv : ∃ a len cap, v = .slice a len cap) (h : DataW.Trod enc P W 0 (fun _ => true) true t v dd p) :
    ∃ (A : Option Addr) (c : Nat) (xs : List α), v = .slice A xs.length c ∧ d.C W A xs.length xs ∧ xs.length ≤ c ∧ ok xs := by
  obtain ⟨a, len, cap, rfl⟩ := hv
  obtain ⟨m, hm⟩ := h
  obtain ⟨xs, ⟨A, c, h1, h2, h3⟩, h4⟩ := ho _ _ _ hm hL
  exact ⟨A, c, xs, by simpa [Value.cells] using h1, h3, h2, h4⟩
theorem argw_struct {H : Type} {enc : TypeId × Value → H} {P : Program} {W : World} {α : Type} {t : TypeId} {d : Kd α} {ok : α → Prop} {v : Value} {dd : DataW H} {p : List MemPlace} (ho : OpW enc P W t d ok) (hL : Light P t dd) (hv : ∃ cs, v = .agg cs) (h : DataW.Trod enc P W 0 (fun _ => true) true t v dd p) :
    ∃ (x : α) (cs : List Value), v = .agg cs.toArray ∧ d.K W x cs ∧ ok x := by
  obtain ⟨⟨l⟩, rfl⟩ := hv
  obtain ⟨m, hm⟩ := h
  obtain ⟨x, h1, h2⟩ := ho _ _ _ hm hL
  exact ⟨x, l, rfl, h1, h2⟩
end Go.Proofs.Ytbbhdohjhipalaa.Flow
end
section
namespace Go.Proofs.Ytbbhdohjhipalaa.Ce
open Go.RowKit Go.Proofs.YtbbhdohjhipalaaW.PrintWords Go.Proofs.YtbbhdohjhipalaaW.PrintLast Go.Proofs.YtbbhdohjhipalaaW.PrintMore
open Go.Proofs.Ytbbhdohjhipalaa.Flow
set_option linter.unusedVariables false
set_option linter.unusedSimpArgs false
abbrev kHist : Kd (Fin 65 → Int) := flat 65 encH encH_len encH_one
end Go.Proofs.Ytbbhdohjhipalaa.Ce
end
section
namespace Go.Proofs.Ytbbhdohjhipalaa.PNoteReads
open Go.RowKit Go.Proofs.YtbbhdohjhipalaaW.PrintWords Go.Proofs.YtbbhdohjhipalaaW.PrintLast Go.Proofs.YtbbhdohjhipalaaW.PrintMore
set_option linter.unusedVariables false
set_option linter.unusedSimpArgs false
mutual
def estuaryref04_Sum.l0 : Nat → List Int → Int → Int → Option (Int)
  | 0, _, _, _ => none
  | k + 1, x0, x3, x4 => if x4 < (x0.length : Int) then (estuaryref04_Sum.l1 k x0 (IntKind.u64.wrap (x3 - (Int.tmod x3 256))) x4 (Int.tmod x3 256) 0) else (some ((x3) % 4294967296))
def estuaryref04_Sum.l1 : Nat → List Int → Int → Int → Int → Int → Option (Int)
  | 0, _, _, _, _, _ => none
  | k + 1, x0, x3, x4, x5, x6 => if x6 < 8 then (if 0 ≤ (IntKind.u64.wrap (x6)) then (if (shl .u64 1 (IntKind.u64.wrap (x6))) = 0 then (none) else (if 0 ≤ x4 then (if x4 < (x0.length : Int) then (if (Int.tmod (IntKind.u64.wrap (Int.tdiv x5 (shl .u64 1 (IntKind.u64.wrap (x6))))) 2) = (Int.tmod (IntKind.u64.wrap (Int.tdiv (IntKind.u64.wrap (rd x0 x4)) (shl .u64 1 (IntKind.u64.wrap (x6))))) 2) then (estuaryref04_Sum.l1 k x0 x3 x4 x5 (wrap64 (x6 + 1))) else (estuaryref04_Sum.l1 k x0 (IntKind.u64.wrap (x3 + (shl .u64 1 (IntKind.u64.wrap (x6))))) x4 x5 (wrap64 (x6 + 1)))) else (none)) else (none))) else (none)) else (estuaryref04_Sum.l0 k x0 (Int.tmod (IntKind.u64.wrap (x3 * 16777619)) 4294967296) (wrap64 (x4 + 1)))
end
def estuaryref04_Sum.f (k : Nat) (l0 : List Int) : Option (Int) := estuaryref04_Sum.l0 k l0 2166136261 0
def estuaryref04_four.f (a0 : Int) : Option (List Int) := some (([(a0) % 256, ((Int.tdiv a0 256) % 4294967296) % 256, ((Int.tdiv a0 65536) % 4294967296) % 256, ((Int.tdiv a0 16777216) % 4294967296) % 256] : List Int))
def estuaryref04_Wrap.f (k : Nat) (l0 : List Int) : Option (List Int × Int) := if (l0.length : Int) > 16376 then (some (([] : List Int), 7)) else ((estuaryref04_four.f (((l0.length : Int)) % 4294967296)).bind fun t167 => ((estuaryref04_Sum.f k l0).bind fun t170 => ((estuaryref04_four.f t170).bind fun t171 => (if t167.length + t171.length < 140737488355328 then ((some (t167 ++ t171 : List Int)).bind fun y174 => (if y174.length + l0.length < 140737488355328 then (some ((y174 ++ l0), 0)) else (none))) else (none)))))
end Go.Proofs.Ytbbhdohjhipalaa.PNoteReads
end
section
namespace Go.Proofs.Ytbbhdohjhipalaa.PNoteReads
open Go.RowKit Go.Proofs.YtbbhdohjhipalaaW.PrintWords Go.Proofs.YtbbhdohjhipalaaW.PrintLast Go.Proofs.YtbbhdohjhipalaaW.PrintMore
open Go.Proofs.Ytbbhdohjhipalaa.Flow
set_option linter.unusedVariables false
set_option linter.unusedSimpArgs false
theorem u64_w (x : Int) : IntKind.u64.wrap x = x % 18446744073709551616 := by simp [IntKind.wrap, IntKind.bits, IntKind.signed]
theorem shl_one (i : Nat) (hi : i ≤ 8) : shl .u64 1 (IntKind.u64.wrap (i : Int)) = ((2 ^ i : Nat) : Int) := by
  have e : IntKind.u64.wrap (i : Int) = (i : Int) := by rw [u64_w]; omega
  rw [e]
  match i, hi with
  | 0, _ => rfl
  | 1, _ => rfl
  | 2, _ => rfl
  | 3, _ => rfl
  | 4, _ => rfl
  | 5, _ => rfl
  | 6, _ => rfl
  | 7, _ => rfl
  | 8, _ => rfl
  | i + 9, h => omega
theorem xor_high (s c : Nat) (hc : c < 256) : s ^^^ c = (s - s % 256) + (s % 256 ^^^ c) := by
  have h1 : (s ^^^ c) / 256 = s / 256 := by
    have h := Nat.xor_div_two_pow (a := s) (b := c) (n := 8)
    rw [show (2 : Nat) ^ 8 = 256 from rfl, Nat.div_eq_of_lt hc, Nat.xor_zero] at h
    exact h
  have h2 : (s ^^^ c) % 256 = (s % 256) ^^^ c := by
    have h := Nat.xor_mod_two_pow (a := s) (b := c) (n := 8)
    rw [show (2 : Nat) ^ 8 = 256 from rfl, Nat.mod_eq_of_lt hc] at h
    exact h
  have h3 := Nat.div_add_mod (s ^^^ c) 256
  have h4 := Nat.div_add_mod s 256
  rw [h1, h2] at h3
  omega
theorem bit_step (x y i : Nat) : (x ^^^ y) % 2 ^ (i + 1) = (x ^^^ y) % 2 ^ i + (if x / 2 ^ i % 2 = y / 2 ^ i % 2 then 0 else 2 ^ i) := by
  rw [Nat.pow_succ, Nat.mod_mul, Nat.xor_div_two_pow]
  have h0 := Nat.xor_mod_two_pow (a := x / 2 ^ i) (b := y / 2 ^ i) (n := 1)
  rw [show (2 : Nat) ^ 1 = 2 from rfl] at h0
  rw [h0]
  have h1 := Nat.mod_two_eq_zero_or_one (x / 2 ^ i)
  have h2 := Nat.mod_two_eq_zero_or_one (y / 2 ^ i)
  rcases h1 with h1 | h1 <;> rcases h2 with h2 | h2 <;> rw [h1, h2] <;> simp
theorem quo_bit (L p : Nat) (hL : L < 256) : Int.tmod (IntKind.u64.wrap (Int.tdiv (L : Int) (p : Int))) 2 = ((L / p % 2 : Nat) : Int) := by
  rw [Int.tdiv_eq_ediv_of_nonneg (by omega), ← Int.natCast_ediv, u64_w]
  have h : L / p ≤ L := Nat.div_le_self _ _
  generalize L / p = q at h ⊢
  rw [Int.emod_eq_of_lt (by omega) (by omega), Int.tmod_eq_emod_of_nonneg (by omega)]
  omega
theorem last_mul (y : Nat) (h : y < 4294967296) : Int.tmod (IntKind.u64.wrap ((y : Int) * 16777619)) 4294967296 = ((y * 16777619 % 4294967296 : Nat) : Int) := by
  rw [u64_w, Int.emod_eq_of_lt (by omega) (by omega), Int.tmod_eq_emod_of_nonneg (by omega)]
  omega
theorem bit_add (X x p y : Nat) (hx : x = y + p) (hy : y < p) (hp : p ≤ 128) (hX : X + 256 ≤ 4294967296) : IntKind.u64.wrap (((X + y : Nat) : Int) + (p : Int)) = ((X + x : Nat) : Int) := by
  rw [u64_w]
  omega
theorem u64_nonneg (x : Int) : 0 ≤ IntKind.u64.wrap x := by rw [u64_w]; omega
theorem u64_small (c : Nat) (h : c < 256) : IntKind.u64.wrap (c : Int) = (c : Int) := by rw [u64_w]; omega
theorem wrap_succ (i : Nat) (h : i ≤ 1000000) : wrap64 ((i : Int) + 1) = ((i + 1 : Nat) : Int) := by rw [wrap_id (by omega) (by omega)]; omega
theorem cast_ne (p : Nat) (h : 0 < p) : ¬ ((p : Int) = 0) := by omega
theorem cast_lt8 (i : Nat) (h : i < 8) : (i : Int) < 8 := by omega
theorem refsum_step0 (b : List Int) (at_ : Nat) (hat : at_ < b.length) (X L c x y p i k : Nat) (hL : L < 256) (hc : c < 256) (hr : rd b (at_ : Int) = (c : Int)) (hX : X + 256 ≤ 4294967296) (hi : i < 8) (hp : 0 < p) (hp8 : p ≤ 128) (hm : y < p)
    (hs : x = y + (if L / p % 2 = c / p % 2 then 0 else p)) (hsh : shl .u64 1 (IntKind.u64.wrap (i : Int)) = (p : Int)) :
    estuaryref04_Sum.l1 (k + 1) b ((X + y : Nat) : Int) (at_ : Int) (L : Int) (i : Int) = estuaryref04_Sum.l1 k b ((X + x : Nat) : Int) (at_ : Int) (L : Int) ((i + 1 : Nat) : Int) := by
  have q1 := quo_bit L p hL
  have q2 := quo_bit c p hc
  rw [estuaryref04_Sum.l1, if_pos (cast_lt8 i hi), if_pos (u64_nonneg _), hsh, if_neg (cast_ne p hp), if_pos (Int.natCast_nonneg _), if_pos (Int.ofNat_lt.2 hat), hr, u64_small c hc, q1, q2, wrap_succ i (Nat.le_of_lt (Nat.lt_trans hi (by decide)))]
  by_cases hb : L / p % 2 = c / p % 2
  · rw [if_pos (by rw [hb])]
    rw [if_pos hb, Nat.add_zero] at hs
    rw [hs]
  · rw [if_neg (fun h => hb (by exact_mod_cast h))]
    rw [if_neg hb] at hs
    rw [bit_add X x p y hs hm hp8 hX]
theorem two7 (i : Nat) (h : i < 8) : 2 ^ i ≤ 128 := Nat.pow_le_pow_right (n := 2) (show 0 < 2 by decide) (show i ≤ 7 by omega)
theorem refsum_step (b : List Int) (at_ : Nat) (hat : at_ < b.length) (X L c : Nat) (hL : L < 256) (hc : c < 256) (hr : rd b (at_ : Int) = (c : Int)) (hX : X + 256 ≤ 4294967296) (i k : Nat) (hi : i < 8) :
    estuaryref04_Sum.l1 (k + 1) b ((X + (L ^^^ c) % 2 ^ i : Nat) : Int) (at_ : Int) (L : Int) (i : Int) = estuaryref04_Sum.l1 k b ((X + (L ^^^ c) % 2 ^ (i + 1) : Nat) : Int) (at_ : Int) (L : Int) ((i + 1 : Nat) : Int) :=
  refsum_step0 b at_ hat X L c _ _ (2 ^ i) i k hL hc hr hX hi (Nat.two_pow_pos i) (two7 i hi) (Nat.mod_lt _ (Nat.two_pow_pos i)) (bit_step L c i) (shl_one i (Nat.le_of_lt hi))
theorem refsum_l1 (b : List Int) (at_ : Nat) (hat : at_ < b.length) (X L c : Nat) (hL : L < 256) (hc : c < 256) (hr : rd b (at_ : Int) = (c : Int)) (hX : X + 256 ≤ 4294967296) (R : Option Int) (K0 : Nat)
    (hR : ∀ K, K0 ≤ K → estuaryref04_Sum.l0 K b ((((X + (L ^^^ c)) * 16777619 % 4294967296 : Nat)) : Int) (wrap64 ((at_ : Int) + 1)) = R) :
    ∀ (m i K : Nat), i + m = 8 → m + 1 + K0 ≤ K → estuaryref04_Sum.l1 K b ((X + (L ^^^ c) % 2 ^ i : Nat) : Int) (at_ : Int) (L : Int) (i : Int) = R := by
  intro m
  induction m with
  | zero =>
    intro i K hi hK
    obtain ⟨k, rfl⟩ : ∃ k, K = k + 1 := ⟨K - 1, by omega⟩
    obtain rfl : i = 8 := by omega
    have hx : L ^^^ c < 256 := Nat.xor_lt_two_pow (n := 8) hL hc
    have e8 : (L ^^^ c) % 2 ^ 8 = L ^^^ c := Nat.mod_eq_of_lt hx
    rw [estuaryref04_Sum.l1, if_neg (by decide), e8, last_mul _ (by omega)]
    exact hR k (by omega)
  | succ m ih =>
    intro i K hi hK
    obtain ⟨k, rfl⟩ : ∃ k, K = k + 1 := ⟨K - 1, by omega⟩
    rw [refsum_step b at_ hat X L c hL hc hr hX i k (by omega)]
    exact ih (i + 1) k (by omega) (by omega)
theorem refsum_l0 (b : List Int) (hb : Bytes b) (hl : b.length ≤ 1000000) : ∀ (m K at_ S : Nat), 10 * m + 1 ≤ K → at_ + m = b.length → S < 4294967296 → estuaryref04_Sum.l0 K b (S : Int) (at_ : Int) = some (fnv (S : Int) (b.drop at_))
  | 0, K, at_, S, hK, hm, hS => by
    obtain ⟨k, rfl⟩ : ∃ k, K = k + 1 := ⟨K - 1, by omega⟩
    rw [estuaryref04_Sum.l0, if_neg (by omega), List.drop_of_length_le (by omega)]
    show some ((S : Int) % 4294967296) = some (S : Int)
    congr 1
    omega
  | m + 1, K, at_, S, hK, hm, hS => by
    obtain ⟨k, rfl⟩ : ∃ k, K = k + 1 := ⟨K - 1, by omega⟩
    have hlt : at_ < b.length := by omega
    have hc := hb b[at_] (List.getElem_mem hlt)
    have hr := rd_at b at_ hlt
    obtain ⟨c, hcn⟩ : ∃ c : Nat, b[at_] = (c : Int) := ⟨b[at_].toNat, by omega⟩
    rw [hcn] at hc hr
    have hmod : Int.tmod (S : Int) 256 = ((S % 256 : Nat) : Int) := by rw [Int.tmod_eq_emod_of_nonneg (by omega)]; omega
    have hsub : IntKind.u64.wrap ((S : Int) - ((S % 256 : Nat) : Int)) = ((S - S % 256 + (S % 256 ^^^ c) % 2 ^ 0 : Nat) : Int) := by
      rw [u64_w, Nat.pow_zero, Nat.mod_one]
      omega
    have ha1 : wrap64 ((at_ : Int) + 1) = ((at_ + 1 : Nat) : Int) := by rw [wrap_id (by omega) (by omega)]; omega
    rw [estuaryref04_Sum.l0, if_pos (by omega), hmod, hsub]
    have hx := xor_high S c (by omega)
    have hstep : stepS (S : Int) (c : Int) = (((S - S % 256 + (S % 256 ^^^ c)) * 16777619 % 4294967296 : Nat) : Int) := by
      rw [stepS_eq S c hS (by omega), hx]
      generalize S - S % 256 + (S % 256 ^^^ c) = y
      omega
    have hd : fnv (S : Int) (b.drop at_) = fnv (((S - S % 256 + (S % 256 ^^^ c)) * 16777619 % 4294967296 : Nat) : Int) (b.drop (at_ + 1)) := by
      rw [List.drop_eq_getElem_cons hlt, hcn, ← hstep]
      rfl
    rw [hd]
    refine refsum_l1 b at_ hlt (S - S % 256) (S % 256) c (by omega) (by omega) hr (by omega) _ (10 * m + 1) (fun K' hK' => ?_) 8 0 k rfl (by omega)
    rw [ha1]
    exact refsum_l0 b hb hl m K' (at_ + 1) _ hK' (by omega) (Nat.mod_lt _ (by decide))
theorem refsum_f (b : List Int) (hb : Bytes b) (hl : b.length ≤ 1000000) (K : Nat) (hK : 10 * b.length + 1 ≤ K) : estuaryref04_Sum.f K b = some (fnv 2166136261 b) :=
  refsum_l0 b hb hl b.length K 0 2166136261 hK (by omega) (by omega)
theorem four_f (n : Nat) (hn : n < 4294967296) : estuaryref04_four.f (n : Int) = some (lowl (n : Int) 4 0) := by
  have e : ∀ i : Nat, i ≤ 8 → (shr .u64 (n : Int) (8 * (i : Int))) % 256 = ((n / 2 ^ (8 * i) % 256 : Nat) : Int) := fun i hi => by
    rw [shr_nat n i hi]
    omega
  show some [(n : Int) % 256, ((Int.tdiv n 256) % 4294967296) % 256, ((Int.tdiv n 65536) % 4294967296) % 256, ((Int.tdiv n 16777216) % 4294967296) % 256] = _
  simp only [lowl]
  rw [e 0 (by omega), e (0 + 1) (by omega), e (0 + 1 + 1) (by omega), e (0 + 1 + 1 + 1) (by omega), Int.tdiv_eq_ediv_of_nonneg (by omega), Int.tdiv_eq_ediv_of_nonneg (by omega), Int.tdiv_eq_ediv_of_nonneg (by omega)]
  have e0 : (n : Int) % 256 = ((n / 2 ^ (8 * 0) % 256 : Nat) : Int) := by
    rw [show (2 : Nat) ^ (8 * 0) = 1 from rfl]; omega
  have e1 : ((n : Int) / 256) % 4294967296 % 256 = ((n / 2 ^ (8 * (0 + 1)) % 256 : Nat) : Int) := by
    rw [show (2 : Nat) ^ (8 * (0 + 1)) = 256 from rfl]; omega
  have e2 : ((n : Int) / 65536) % 4294967296 % 256 = ((n / 2 ^ (8 * (0 + 1 + 1)) % 256 : Nat) : Int) := by
    rw [show (2 : Nat) ^ (8 * (0 + 1 + 1)) = 65536 from rfl]; omega
  have e3 : ((n : Int) / 16777216) % 4294967296 % 256 = ((n / 2 ^ (8 * (0 + 1 + 1 + 1)) % 256 : Nat) : Int) := by
    rw [show (2 : Nat) ^ (8 * (0 + 1 + 1 + 1)) = 16777216 from rfl]; omega
  rw [e0, e1, e2, e3]
def errN (b : List Int) : Int := if 16376 < b.length then 7 else 0
theorem refwrap_f (b : List Int) (hb : Bytes b) (hl : b.length ≤ 1000000) (K : Nat) (hK : 10 * b.length + 1 ≤ K) : estuaryref04_Wrap.f K b = some (frameB b, errN b) := by
  unfold estuaryref04_Wrap.f frameB errN
  by_cases h : 16376 < b.length
  · rw [if_pos (by omega), if_pos h, if_pos h]
  · have hS := fnv_range b 2166136261 (by omega)
    obtain ⟨S, hSn⟩ := Int.eq_ofNat_of_zero_le hS.1
    have e : (b.length : Int) % 4294967296 = (b.length : Int) := by omega
    rw [if_neg (by omega), if_neg h, if_neg h, e, four_f b.length (by omega), Option.bind_some, refsum_f b hb hl K hK, Option.bind_some, hSn, four_f S (by omega), Option.bind_some, if_pos (by rw [lowl_len, lowl_len]; omega), Option.bind_some, if_pos (by rw [List.length_append, lowl_len, lowl_len]; omega)]
theorem fin_whole (b : List Int) (hb : Bytes b) (n : Nat) (hn : valN (b.take 4) = n) (h8 : 8 + n ≤ b.length) (h16 : n ≤ 16376) : wholeP b = if frameB ((b.take (8 + n)).drop 8) = b.take (8 + n) then 8 + n else 0 := by
  have eX : (b.take (8 + n)).drop 8 = (b.drop 8).take n := by rw [List.drop_take]; congr 1; omega
  have lX : ((b.drop 8).take n).length = n := by rw [List.length_take, List.length_drop]; omega
  have hS := fnv_range ((b.drop 8).take n) 2166136261 (by omega)
  obtain ⟨S, hSn⟩ := Int.eq_ofNat_of_zero_le hS.1
  obtain ⟨p, q, h, hp, hq, h1, h2⟩ := frameB_parts ((b.drop 8).take n) (by omega)
  have hqv : valN q = S := by rw [hq, hSn]; exact valN_low4 S (by omega)
  have hpv : valN p = n := by rw [hp, lX]; exact valN_low4 n (by omega)
  have e3 : b.take (8 + n) = (b.take 4 ++ (b.take 8).drop 4) ++ (b.drop 8).take n := by
    have e4 : b.take 4 ++ (b.take 8).drop 4 = b.take 8 := by
      have := List.take_append_drop 4 (b.take 8)
      rw [List.take_take, Nat.min_eq_left (by omega)] at this
      exact this
    rw [e4, ← List.take_add]
  have l4 : (b.take 4).length = 4 := by rw [List.length_take]; omega
  have l8 : ((b.take 8).drop 4).length = 4 := by rw [List.length_drop, List.length_take]; omega
  have iff1 : frameB ((b.take (8 + n)).drop 8) = b.take (8 + n) ↔ S = valN ((b.take 8).drop 4) := by
    rw [eX, h, e3]
    constructor
    · intro hh
      have h5 := List.append_cancel_right hh
      have h6 := (List.append_inj h5 (by omega)).2
      rw [← h6, hqv]
    · intro hh
      have h5 : q = (b.take 8).drop 4 := valN_inj _ _ (by rw [hq]; exact lowl_bytes _ _ _) ((hb.take _).drop _) (by omega) (by rw [hqv, hh])
      have h6 : p = b.take 4 := valN_inj _ _ (by rw [hp]; exact lowl_bytes _ _ _) (hb.take _) (by omega) (by rw [hpv, hn])
      rw [h5, h6]
  unfold wholeP
  rw [if_neg (by omega), hn, if_neg (by omega), if_neg (by omega), hSn]
  by_cases hh : S = valN ((b.take 8).drop 4)
  · rw [if_pos (by rw [hh]), if_pos (iff1.2 hh)]
  · rw [if_neg (by omega), if_neg (fun h => hh (iff1.1 h))]
end Go.Proofs.Ytbbhdohjhipalaa.PNoteReads
end
