/- The frames that bytes begin with: the walk. -/
import Derived.Test.YtjndoihnpnmbjaaFrNone
import Derived.Test.YtjndoihnpnmbjaaFrPlain3
import Derived.Test.YtjndoihnpnmbjaaFlowM
namespace Go.Proofs.Ytjndoihnpnmbjaa.PFrameSums
open Go.RowKit Go.Proofs.YtjndoihnpnmbjaaW.PrintWords Go.Proofs.YtjndoihnpnmbjaaW.PrintLast Go.Proofs.YtjndoihnpnmbjaaW.PrintMore
open Go.Proofs.Ytjndoihnpnmbjaa.Flow
set_option linter.unusedVariables false
set_option linter.unusedSimpArgs false


theorem info22 : (Try.prog.info? 22).map (fun i => (i.zero, i.size, i.bytes)) = some (some (.slice none 0 0), 1, 24) := by kernel_rfl
set_option maxHeartbeats 4000000 in
theorem split_calls (w : World) (A0 : Option Addr) (c0 : Nat) (b : List Int) (hC : (Kd.int .u8).C w A0 b.length b) (hc : b.length ≤ c0) (hb : Bytes b) (hl : b.length ≤ 1000000000) :
    Calls Try.prog 26 #[.slice A0 b.length c0] w fun e w' => ∃ (out : List (List Int)) (n : Nat) (A' : Option Addr) (c' : Nat), e = .returned (.tuple #[.slice A' out.length c', .int .i64 (n : Int)]) ∧ SplitR b out n ∧ (Kd.slice 5 (Kd.int .u8)).R 22 w' w.heap.size (fun q => w.heap.size ≤ q) (.slice A' out.length c') out ∧ Below w.heap.size w w' := by
  refine calls_flow Try.func26 rfl 31 rfl (Nat.le_of_ble_eq_true rfl) [(0, .slice A0 b.length c0)] ?_ ?_
  · intro t v h; exact args_look rfl t v h
  refine w_seq ?_
  refine w_region ?_
  refine rw_val (v := .slice none 0 0) (w' := w) rfl rfl rfl rfl rfl ?_
  refine rw_val (v := .int .i64 0) (w' := w) rfl rfl rfl rfl rfl ?_
  refine rw_end ?_
  refine w_seq ?_
  refine w_region ?_
  refine rw_val (v := .slice none 0 0) (w' := w) rfl rfl rfl rfl rfl ?_
  refine rw_end ?_
  refine w_seq ?_
  refine w_region ?_
  refine rw_val (v := .int .i64 0) (w' := w) rfl rfl rfl rfl rfl ?_
  refine rw_end ?_
  refine w_seq ?_
  refine w_seq ?_
  refine w_region ?_
  refine rw_val (v := .slice A0 b.length c0) (w' := w) rfl rfl rfl rfl rfl ?_
  refine rw_call rfl rfl rfl rfl (f := 37) (args := #[.slice A0 b.length c0]) (by simp [go_sem, sEv, sLook, nbeq, i64_w, -List.length_flatten]) (whole_calls w _ _ b (Kd.C_below hC (Below.refl _ _)) hc hb (by omega)) ?_
  rintro e_ w1 ⟨rfl, hb2⟩
  refine ⟨_, rfl, ?_⟩
  have hs_w1 := hb2.size
  refine rw_val (v := .int .i64 ((wholeP b : Nat) : Int)) (w' := w1) rfl rfl rfl rfl rfl ?_
  refine rw_end ?_
  refine w_block ?_
  refine w_loop (fun m_ G W_ => ∃ (at_ : Nat) (out : List (List Int)) (A4 : Option Addr) (c4 : Nat), at_ + m_ = b.length ∧ 8 * out.length ≤ at_ ∧ Below w.heap.size w W_ ∧ (Kd.slice 5 (Kd.int .u8)).R 22 W_ w.heap.size (fun q => w.heap.size ≤ q) (.slice A4 out.length c4) out ∧ (∀ l n, SplitR (b.drop at_) l n → SplitR b (out ++ l) (at_ + n)) ∧ G = [(0, .slice A0 b.length c0), (4, .slice A4 out.length c4), (5, .int .i64 (at_ : Int)), (6, .int .i64 ((wholeP (b.drop at_) : Nat) : Int))]) b.length [(0, .slice A0 b.length c0), (4, .slice none 0 0), (5, .int .i64 0), (6, .int .i64 ((wholeP b : Nat) : Int))] ⟨0, [], none, 0, by omega, by simp, hb2, Kd.R_nil _ _ _ _ _, fun l n h => by simpa using h, by simp⟩ ⟨rfl, rfl, rfl, rfl, trivial⟩ ?_
  rintro m_ G w_ ⟨at_, out, A4, c4, him, hout, hBw_, hR4, hS_, rfl⟩
  have hs_w_ := hBw_.size
  have hwl_ := wholeP_le (b.drop at_)
  rw [List.length_drop] at hwl_
  refine w_seq ?_
  refine w_seq ?_
  refine w_region ?_
  refine rw_val (v := .int .i64 ((wholeP (b.drop at_) : Nat) : Int)) (w' := w_) rfl rfl rfl rfl rfl ?_
  refine rw_val (v := .bool (decide (0 < ((wholeP (b.drop at_) : Nat) : Int)))) (w' := w_) rfl rfl rfl rfl (by simp [go_sem, sEv, sLook, nbeq, i64_w, -List.length_flatten]) ?_
  refine rw_end ?_
  refine w_cond rfl rfl (fun cL => ?_) (fun cL => ?_)
  · refine w_skip ?_
    refine w_seq ?_
    refine w_block ?_
    refine w_seq ?_
    refine w_region ?_
    refine rw_val (v := .slice A4 out.length c4) (w' := w_) rfl rfl rfl rfl rfl ?_
    refine rw_val (v := .slice A0 b.length c0) (w' := w_) rfl rfl rfl rfl rfl ?_
    have lp_ := of_decide_eq_true cL
    refine rw_val (v := .int .i64 (at_ : Int)) (w' := w_) rfl rfl rfl rfl rfl ?_
    refine rw_val (v := .int .i64 ((at_ + 8 : Nat) : Int)) (w' := w_) rfl rfl rfl rfl (by simp [go_sem, sEv, sLook, nbeq, i64_w, -List.length_flatten]; exact wrap_id (by omega) (by omega)) ?_
    refine rw_val (v := .int .i64 (at_ : Int)) (w' := w_) rfl rfl rfl rfl rfl ?_
    refine rw_val (v := .int .i64 ((wholeP (b.drop at_) : Nat) : Int)) (w' := w_) rfl rfl rfl rfl rfl ?_
    refine rw_val (v := .int .i64 ((at_ + wholeP (b.drop at_) : Nat) : Int)) (w' := w_) rfl rfl rfl rfl (by simp [go_sem, sEv, sLook, nbeq, i64_w, -List.length_flatten]; exact wrap_id (by omega) (by omega)) ?_
    have hP3 := (mid_C hC (at_ + 8) (at_ + wholeP (b.drop at_)) (by omega) (by omega) (show b.length ≤ c0 by have q_ := hc; have q2_ : b.length = b.length := rfl; omega))
    have hc4 : ((b.take (at_ + wholeP (b.drop at_))).drop (at_ + 8)).length ≤ (c0 - (at_ + 8)) := by have q_ := hc; have q2_ : b.length = b.length := rfl; simp only [List.length_take, List.length_drop]; omega
    refine rw_val (v := .slice (adr A0 c0 (at_ + 8)) (((b.take (at_ + wholeP (b.drop at_))).drop (at_ + 8)).length) (c0 - (at_ + 8))) (w' := w_) rfl rfl rfl rfl (run_as (run_mid (e := 5) (by kernel_rfl) (fun _ => by kernel_rfl) (at_ + 8) (at_ + wholeP (b.drop at_)) _ _ (by first | rfl | (simp; done) | omega) (by first | rfl | (simp; done) | omega) rfl (by omega) (by omega) hc _)) ?_
    refine rw_call rfl rfl rfl rfl (f := 33) (args := #[.slice (adr A0 c0 (at_ + 8)) (((b.take (at_ + wholeP (b.drop at_))).drop (at_ + 8)).length) (c0 - (at_ + 8))]) (by simp [go_sem, sEv, sLook, nbeq, i64_w, -List.length_flatten]) (clone_calls w_ _ _ _ ((b.take (at_ + wholeP (b.drop at_))).drop (at_ + 8)) (Kd.C_below hP3 hBw_) (by simp only [List.length_take, List.length_drop]; omega)) ?_
    rintro e_ w8 ⟨A5, n6, c7, rfl, hO9, hB10⟩
    refine ⟨_, rfl, ?_⟩
    have hs_w8 := hB10.size
    have hL11 : Own .u8 5 w8 w.heap.size w_.heap.size A5 n6 c7 ((b.take (at_ + wholeP (b.drop at_))).drop (at_ + 8)) := Own.lower hO9 (by omega)
    refine rw_new (cs := #[.slice A5 n6 c7]) (t := 22) (fun g => .slice (some ⟨g, 0, none⟩) 1 1) rfl rfl rfl rfl (by kernel_rfl) ?_
    intro g12 w13 hg17 hz16 hb14 hk15
    have hs_w13 := hb14.size
    have hlt_ : ∀ q, (Value.slice A4 out.length c4).ownBlock = some q → q < w_.heap.size := fun q hq => (Kd.R_bound hR4).1 q hq |>.2.2.1
    have hout_ : out.length ≤ at_ := by omega
    refine rw_append_one .u8 5 w.heap.size rfl rfl rfl (.tmp 15) (.tmp 24) rfl rfl 32 22 24 rfl (by kernel_rfl) info22 (by decide) rfl rfl (Kd.R_below hR4 (chain hB10 hb14)) hk15 (hL11.on hb14) (fun q hq => ⟨by omega, fun h => by have := hlt_ q h.symm; omega⟩) (chain (chain hBw_ hB10) hb14) (by omega) (by omega) ?_
    intro A18 c19 w20 hR21 hB22 hG23
    have hs_w20 := hB22.size
    have hgs_w20 := hG23.size
    refine rw_val (v := .slice A18 ((out ++ [((b.take (at_ + wholeP (b.drop at_))).drop (at_ + 8))]).length) c19) (w' := w20) rfl rfl rfl rfl rfl ?_
    refine rw_end ?_
    refine w_weaken (G' := [(0, .slice A0 b.length c0), (4, .slice A18 ((out ++ [((b.take (at_ + wholeP (b.drop at_))).drop (at_ + 8))]).length) c19), (5, .int .i64 (at_ : Int)), (6, .int .i64 ((wholeP (b.drop at_) : Nat) : Int))]) ⟨rfl, rfl, rfl, rfl, trivial⟩ ?_
    refine w_region ?_
    refine rw_val (v := .int .i64 (at_ : Int)) (w' := w20) rfl rfl rfl rfl rfl ?_
    refine rw_val (v := .int .i64 ((wholeP (b.drop at_) : Nat) : Int)) (w' := w20) rfl rfl rfl rfl rfl ?_
    refine rw_val (v := .int .i64 ((at_ + wholeP (b.drop at_) : Nat) : Int)) (w' := w20) rfl rfl rfl rfl (by simp [go_sem, sEv, sLook, nbeq, i64_w, -List.length_flatten]; exact wrap_id (by omega) (by omega)) ?_
    refine rw_val (v := .int .i64 ((at_ + wholeP (b.drop at_) : Nat) : Int)) (w' := w20) rfl rfl rfl rfl rfl ?_
    refine rw_end ?_
    refine w_weaken (G' := [(0, .slice A0 b.length c0), (4, .slice A18 ((out ++ [((b.take (at_ + wholeP (b.drop at_))).drop (at_ + 8))]).length) c19), (5, .int .i64 ((at_ + wholeP (b.drop at_) : Nat) : Int)), (6, .int .i64 ((wholeP (b.drop at_) : Nat) : Int))]) ⟨rfl, rfl, rfl, rfl, trivial⟩ ?_
    refine w_blk ?_
    refine w_region ?_
    refine rw_val (v := .slice A0 b.length c0) (w' := w20) rfl rfl rfl rfl rfl ?_
    refine rw_val (v := .int .i64 ((at_ + wholeP (b.drop at_) : Nat) : Int)) (w' := w20) rfl rfl rfl rfl rfl ?_
    have hP24 := (from_C hC (at_ + wholeP (b.drop at_)) (by omega) (show b.length ≤ c0 by have q_ := hc; have q2_ : b.length = b.length := rfl; omega))
    have hc25 : (b.drop (at_ + wholeP (b.drop at_))).length ≤ (c0 - (at_ + wholeP (b.drop at_))) := by have q_ := hc; have q2_ : b.length = b.length := rfl; simp only [List.length_take, List.length_drop]; omega
    refine rw_val (v := .slice (adr A0 c0 (at_ + wholeP (b.drop at_))) ((b.drop (at_ + wholeP (b.drop at_))).length) (c0 - (at_ + wholeP (b.drop at_)))) (w' := w20) rfl rfl rfl rfl (run_as (run_from (e := 5) (by kernel_rfl) (fun _ => by kernel_rfl) (at_ + wholeP (b.drop at_)) _ (by first | rfl | (simp; done) | omega) rfl (by omega) hc _)) ?_
    refine rw_call rfl rfl rfl rfl (f := 37) (args := #[.slice (adr A0 c0 (at_ + wholeP (b.drop at_))) ((b.drop (at_ + wholeP (b.drop at_))).length) (c0 - (at_ + wholeP (b.drop at_)))]) (by simp [go_sem, sEv, sLook, nbeq, i64_w, -List.length_flatten]) (whole_calls w20 _ _ (b.drop (at_ + wholeP (b.drop at_))) (Kd.C_below hP24 hB22) hc25 (hb.drop _) (by simp only [List.length_drop]; omega)) ?_
    rintro e_ w26 ⟨rfl, hb27⟩
    refine ⟨_, rfl, ?_⟩
    have hs_w26 := hb27.size
    refine rw_val (v := .int .i64 ((wholeP (b.drop (at_ + wholeP (b.drop at_))) : Nat) : Int)) (w' := w26) rfl rfl rfl rfl rfl ?_
    refine rw_end ?_
    refine w_weaken (G' := [(0, .slice A0 b.length c0), (4, .slice A18 ((out ++ [((b.take (at_ + wholeP (b.drop at_))).drop (at_ + 8))]).length) c19), (5, .int .i64 ((at_ + wholeP (b.drop at_) : Nat) : Int)), (6, .int .i64 ((wholeP (b.drop (at_ + wholeP (b.drop at_))) : Nat) : Int))]) ⟨rfl, rfl, rfl, rfl, trivial⟩ ?_
    have e1_ : (b.drop at_).drop (wholeP (b.drop at_)) = b.drop (at_ + wholeP (b.drop at_)) := by rw [List.drop_drop]
    have e2_ : ((b.drop at_).take (wholeP (b.drop at_))).drop 8 = ((b.take (at_ + wholeP (b.drop at_))).drop (at_ + 8)) := by rw [List.drop_take, List.drop_take, List.drop_drop]; congr 1; omega
    exact w_back (m_ - wholeP (b.drop at_)) [(0, .slice A0 b.length c0), (4, .slice A18 (out ++ [((b.take (at_ + wholeP (b.drop at_))).drop (at_ + 8))]).length c19), (5, .int .i64 ((at_ + wholeP (b.drop at_) : Nat) : Int)), (6, .int .i64 ((wholeP (b.drop (at_ + wholeP (b.drop at_))) : Nat) : Int))] (by omega) ⟨rfl, rfl, rfl, rfl, trivial⟩ ⟨(at_ + wholeP (b.drop at_)), out ++ [((b.take (at_ + wholeP (b.drop at_))).drop (at_ + 8))], _, _, by omega, by simp only [List.length_append, List.length_singleton]; omega, (chain hB22 hb27), (Kd.R_below hR21 hb27), fun l n h => by have h2_ := hS_ _ _ (SplitR.some _ l n (by omega) (by rw [e1_]; exact h)); rw [e2_] at h2_; simpa [Nat.add_assoc] using h2_, rfl⟩
  · refine w_exit rfl ?_
    refine w_seq ?_
    refine w_region ?_
    refine rw_val (v := .slice A4 out.length c4) (w' := w_) rfl rfl rfl rfl rfl ?_
    refine rw_val (v := .int .i64 (at_ : Int)) (w' := w_) rfl rfl rfl rfl rfl ?_
    refine rw_val (v := .slice A4 out.length c4) (w' := w_) rfl rfl rfl rfl rfl ?_
    refine rw_val (v := .int .i64 (at_ : Int)) (w' := w_) rfl rfl rfl rfl rfl ?_
    refine rw_end ?_
    refine w_weaken (G' := [(2, .slice A4 out.length c4), (3, .int .i64 (at_ : Int))]) ⟨rfl, rfl, trivial⟩ ?_
    have lp_ := of_decide_eq_false cL
    refine w_ret (post_ret2 rfl rfl rfl ?_)
    exact ⟨_, _, _, _, rfl, by simpa using hS_ _ _ (SplitR.none _ (by omega)), Kd.R_below hR4 (Below.refl _ _), hBw_⟩
end Go.Proofs.Ytjndoihnpnmbjaa.PFrameSums
