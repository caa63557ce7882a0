/- Parts of the proofs of diaryPlays_holds: FrUnw, DyOpen, DyPure, TpRef, TpRef6, TpCopy, TpCopy2, TpPlay, DyPlay, FlowX, FlowV, FlowW. -/
import Derived.Test.YtiiljpaedelhlaaQP2
section
namespace Go.Proofs.Ytiiljpaedelhlaa.PDiaryPlays
open Go.RowKit Go.Proofs.YtiiljpaedelhlaaW.PrintWords Go.Proofs.YtiiljpaedelhlaaW.PrintLast Go.Proofs.YtiiljpaedelhlaaW.PrintMore
open Go.Proofs.Ytiiljpaedelhlaa.Flow
set_option linter.unusedVariables false
set_option linter.unusedSimpArgs false
theorem info22S : (Try.prog.info? 32).map (fun i => (i.zero, i.size, i.bytes)) = some (some (.slice none 0 0), 1, 24) := by kernel_rfl
set_option maxHeartbeats 4000000 in
theorem split_callsS (w : World) (A0 : Option Addr) (c0 : Nat) (b : List Int) (hC : (Kd.int .u8).C w A0 b.length b) (hc : b.length ≤ c0) (hb : Bytes b) (hl : b.length ≤ 1000000000) :
    Calls Try.prog 36 #[.slice A0 b.length c0] w fun e w' => ∃ (out : List (List Int)) (n : Nat) (A' : Option Addr) (c' : Nat), e = .returned (.tuple #[.slice A' out.length c', .int .i64 (n : Int)]) ∧ SplitR b out n ∧ Kd.S (Kd.slice 5 (Kd.int .u8)) 32 w' w.heap.size (fun q => w.heap.size ≤ q) (.slice A' out.length c') out ∧ Below w.heap.size w w' := by
  refine calls_flow Try.func36 rfl 31 rfl (Nat.le_of_ble_eq_true rfl) [(0, .slice A0 b.length c0)] ?_ ?_
  · intro t v h; exact args_look rfl t v h
  refine w_seq ?_
  refine w_region ?_
  refine rw_val (v := .slice none 0 0) (w' := w) rfl rfl rfl rfl rfl ?_
  refine rw_val (v := .int .i64 0) (w' := w) rfl rfl rfl rfl rfl ?_
  refine rw_end ?_
  refine w_seq ?_
  refine w_region ?_
  refine rw_val (v := .slice none 0 0) (w' := w) rfl rfl rfl rfl rfl ?_
  refine rw_end ?_
  refine w_seq ?_
  refine w_region ?_
  refine rw_val (v := .int .i64 0) (w' := w) rfl rfl rfl rfl rfl ?_
  refine rw_end ?_
  refine w_seq ?_
  refine w_seq ?_
  refine w_region ?_
  refine rw_val (v := .slice A0 b.length c0) (w' := w) rfl rfl rfl rfl rfl ?_
  refine rw_call rfl rfl rfl rfl (f := 49) (args := #[.slice A0 b.length c0]) (by simp [go_sem, sEv, sLook, nbeq, i64_w, -List.length_flatten]) (whole_calls w _ _ b (Kd.C_below hC (Below.refl _ _)) hc hb (by omega)) ?_
  rintro e_ w1 ⟨rfl, hb2⟩
  refine ⟨_, rfl, ?_⟩
  have hs_w1 := hb2.size
  refine rw_val (v := .int .i64 ((wholeP b : Nat) : Int)) (w' := w1) rfl rfl rfl rfl rfl ?_
  refine rw_end ?_
  refine w_block ?_
  refine w_loop (fun m_ G W_ => ∃ (at_ : Nat) (out : List (List Int)) (A4 : Option Addr) (c4 : Nat), at_ + m_ = b.length ∧ 8 * out.length ≤ at_ ∧ Below w.heap.size w W_ ∧ Kd.S (Kd.slice 5 (Kd.int .u8)) 32 W_ w.heap.size (fun q => w.heap.size ≤ q) (.slice A4 out.length c4) out ∧ (∀ l n, SplitR (b.drop at_) l n → SplitR b (out ++ l) (at_ + n)) ∧ G = [(0, .slice A0 b.length c0), (4, .slice A4 out.length c4), (5, .int .i64 (at_ : Int)), (6, .int .i64 ((wholeP (b.drop at_) : Nat) : Int))]) b.length [(0, .slice A0 b.length c0), (4, .slice none 0 0), (5, .int .i64 0), (6, .int .i64 ((wholeP b : Nat) : Int))] ⟨0, [], none, 0, by omega, by simp, hb2, Kd.S_nil _ _ _ _ _, fun l n h => by simpa using h, by simp⟩ ⟨rfl, rfl, rfl, rfl, trivial⟩ ?_
  rintro m_ G w_ ⟨at_, out, A4, c4, him, hout, hBw_, hR4, hS_, rfl⟩
  have hs_w_ := hBw_.size
  have hwl_ := wholeP_le (b.drop at_)
  rw [List.length_drop] at hwl_
  refine w_seq ?_
  refine w_seq ?_
  refine w_region ?_
  refine rw_val (v := .int .i64 ((wholeP (b.drop at_) : Nat) : Int)) (w' := w_) rfl rfl rfl rfl rfl ?_
  refine rw_val (v := .bool (decide (0 < ((wholeP (b.drop at_) : Nat) : Int)))) (w' := w_) rfl rfl rfl rfl (by simp [go_sem, sEv, sLook, nbeq, i64_w, -List.length_flatten]) ?_
  refine rw_end ?_
  refine w_cond rfl rfl (fun cL => ?_) (fun cL => ?_)
  · refine w_skip ?_
    refine w_seq ?_
    refine w_block ?_
    refine w_seq ?_
    refine w_region ?_
    refine rw_val (v := .slice A4 out.length c4) (w' := w_) rfl rfl rfl rfl rfl ?_
    refine rw_val (v := .slice A0 b.length c0) (w' := w_) rfl rfl rfl rfl rfl ?_
    have lp_ := of_decide_eq_true cL
    refine rw_val (v := .int .i64 (at_ : Int)) (w' := w_) rfl rfl rfl rfl rfl ?_
    refine rw_val (v := .int .i64 ((at_ + 8 : Nat) : Int)) (w' := w_) rfl rfl rfl rfl (by simp [go_sem, sEv, sLook, nbeq, i64_w, -List.length_flatten]; exact wrap_id (by omega) (by omega)) ?_
    refine rw_val (v := .int .i64 (at_ : Int)) (w' := w_) rfl rfl rfl rfl rfl ?_
    refine rw_val (v := .int .i64 ((wholeP (b.drop at_) : Nat) : Int)) (w' := w_) rfl rfl rfl rfl rfl ?_
    refine rw_val (v := .int .i64 ((at_ + wholeP (b.drop at_) : Nat) : Int)) (w' := w_) rfl rfl rfl rfl (by simp [go_sem, sEv, sLook, nbeq, i64_w, -List.length_flatten]; exact wrap_id (by omega) (by omega)) ?_
    have hP3 := (mid_C hC (at_ + 8) (at_ + wholeP (b.drop at_)) (by omega) (by omega) (show b.length ≤ c0 by have q_ := hc; have q2_ : b.length = b.length := rfl; omega))
    have hc4 : ((b.take (at_ + wholeP (b.drop at_))).drop (at_ + 8)).length ≤ (c0 - (at_ + 8)) := by have q_ := hc; have q2_ : b.length = b.length := rfl; simp only [List.length_take, List.length_drop]; omega
    refine rw_val (v := .slice (adr A0 c0 (at_ + 8)) (((b.take (at_ + wholeP (b.drop at_))).drop (at_ + 8)).length) (c0 - (at_ + 8))) (w' := w_) rfl rfl rfl rfl (run_as (run_mid (e := 5) (by kernel_rfl) (fun _ => by kernel_rfl) (at_ + 8) (at_ + wholeP (b.drop at_)) _ _ (by first | rfl | (simp; done) | omega) (by first | rfl | (simp; done) | omega) rfl (by omega) (by omega) hc _)) ?_
    refine rw_call rfl rfl rfl rfl (f := 42) (args := #[.slice (adr A0 c0 (at_ + 8)) (((b.take (at_ + wholeP (b.drop at_))).drop (at_ + 8)).length) (c0 - (at_ + 8))]) (by simp [go_sem, sEv, sLook, nbeq, i64_w, -List.length_flatten]) (clone_calls w_ _ _ _ ((b.take (at_ + wholeP (b.drop at_))).drop (at_ + 8)) (Kd.C_below hP3 hBw_) (by simp only [List.length_take, List.length_drop]; omega)) ?_
    rintro e_ w8 ⟨A5, n6, c7, rfl, hO9, hB10⟩
    refine ⟨_, rfl, ?_⟩
    have hs_w8 := hB10.size
    have hL11 : Own .u8 5 w8 w.heap.size w_.heap.size A5 n6 c7 ((b.take (at_ + wholeP (b.drop at_))).drop (at_ + 8)) := Own.lower hO9 (by omega)
    refine rw_new (cs := #[.slice A5 n6 c7]) (t := 32) (fun g => .slice (some ⟨g, 0, none⟩) 1 1) rfl rfl rfl rfl (by kernel_rfl) ?_
    intro g12 w13 hg17 hz16 hb14 hk15
    have hs_w13 := hb14.size
    have hout_ : out.length ≤ at_ := by omega
    have hSb_ := Kd.S_below (Kd.S_mono (Kd.S_bound hR4) (fun q hq => (⟨hq.1, hq.2.2.1⟩ : w.heap.size ≤ q ∧ q < w_.heap.size))) (chain hB10 hb14)
    refine rw_append_oneS .u8 5 w.heap.size rfl rfl rfl (.tmp 15) (.tmp 24) rfl rfl 22 32 24 rfl (by kernel_rfl) info22S (by decide) rfl rfl hSb_ (fun q hq => hq.1) hk15 (hL11.on hb14) (fun q hq => ⟨by omega, fun h => by have := h.2; omega⟩) (chain (chain hBw_ hB10) hb14) (by omega) (by omega) ?_
    intro A18 c19 w20 hR21 hB22 hG23
    have hs_w20 := hB22.size
    have hgs_w20 := hG23.size
    refine rw_val (v := .slice A18 ((out ++ [((b.take (at_ + wholeP (b.drop at_))).drop (at_ + 8))]).length) c19) (w' := w20) rfl rfl rfl rfl rfl ?_
    refine rw_end ?_
    refine w_weaken (G' := [(0, .slice A0 b.length c0), (4, .slice A18 ((out ++ [((b.take (at_ + wholeP (b.drop at_))).drop (at_ + 8))]).length) c19), (5, .int .i64 (at_ : Int)), (6, .int .i64 ((wholeP (b.drop at_) : Nat) : Int))]) ⟨rfl, rfl, rfl, rfl, trivial⟩ ?_
    refine w_region ?_
    refine rw_val (v := .int .i64 (at_ : Int)) (w' := w20) rfl rfl rfl rfl rfl ?_
    refine rw_val (v := .int .i64 ((wholeP (b.drop at_) : Nat) : Int)) (w' := w20) rfl rfl rfl rfl rfl ?_
    refine rw_val (v := .int .i64 ((at_ + wholeP (b.drop at_) : Nat) : Int)) (w' := w20) rfl rfl rfl rfl (by simp [go_sem, sEv, sLook, nbeq, i64_w, -List.length_flatten]; exact wrap_id (by omega) (by omega)) ?_
    refine rw_val (v := .int .i64 ((at_ + wholeP (b.drop at_) : Nat) : Int)) (w' := w20) rfl rfl rfl rfl rfl ?_
    refine rw_end ?_
    refine w_weaken (G' := [(0, .slice A0 b.length c0), (4, .slice A18 ((out ++ [((b.take (at_ + wholeP (b.drop at_))).drop (at_ + 8))]).length) c19), (5, .int .i64 ((at_ + wholeP (b.drop at_) : Nat) : Int)), (6, .int .i64 ((wholeP (b.drop at_) : Nat) : Int))]) ⟨rfl, rfl, rfl, rfl, trivial⟩ ?_
    refine w_blk ?_
    refine w_region ?_
    refine rw_val (v := .slice A0 b.length c0) (w' := w20) rfl rfl rfl rfl rfl ?_
    refine rw_val (v := .int .i64 ((at_ + wholeP (b.drop at_) : Nat) : Int)) (w' := w20) rfl rfl rfl rfl rfl ?_
    have hP24 := (from_C hC (at_ + wholeP (b.drop at_)) (by omega) (show b.length ≤ c0 by have q_ := hc; have q2_ : b.length = b.length := rfl; omega))
    have hc25 : (b.drop (at_ + wholeP (b.drop at_))).length ≤ (c0 - (at_ + wholeP (b.drop at_))) := by have q_ := hc; have q2_ : b.length = b.length := rfl; simp only [List.length_take, List.length_drop]; omega
    refine rw_val (v := .slice (adr A0 c0 (at_ + wholeP (b.drop at_))) ((b.drop (at_ + wholeP (b.drop at_))).length) (c0 - (at_ + wholeP (b.drop at_)))) (w' := w20) rfl rfl rfl rfl (run_as (run_from (e := 5) (by kernel_rfl) (fun _ => by kernel_rfl) (at_ + wholeP (b.drop at_)) _ (by first | rfl | (simp; done) | omega) rfl (by omega) hc _)) ?_
    refine rw_call rfl rfl rfl rfl (f := 49) (args := #[.slice (adr A0 c0 (at_ + wholeP (b.drop at_))) ((b.drop (at_ + wholeP (b.drop at_))).length) (c0 - (at_ + wholeP (b.drop at_)))]) (by simp [go_sem, sEv, sLook, nbeq, i64_w, -List.length_flatten]) (whole_calls w20 _ _ (b.drop (at_ + wholeP (b.drop at_))) (Kd.C_below hP24 hB22) hc25 (hb.drop _) (by simp only [List.length_drop]; omega)) ?_
    rintro e_ w26 ⟨rfl, hb27⟩
    refine ⟨_, rfl, ?_⟩
    have hs_w26 := hb27.size
    refine rw_val (v := .int .i64 ((wholeP (b.drop (at_ + wholeP (b.drop at_))) : Nat) : Int)) (w' := w26) rfl rfl rfl rfl rfl ?_
    refine rw_end ?_
    refine w_weaken (G' := [(0, .slice A0 b.length c0), (4, .slice A18 ((out ++ [((b.take (at_ + wholeP (b.drop at_))).drop (at_ + 8))]).length) c19), (5, .int .i64 ((at_ + wholeP (b.drop at_) : Nat) : Int)), (6, .int .i64 ((wholeP (b.drop (at_ + wholeP (b.drop at_))) : Nat) : Int))]) ⟨rfl, rfl, rfl, rfl, trivial⟩ ?_
    have e1_ : (b.drop at_).drop (wholeP (b.drop at_)) = b.drop (at_ + wholeP (b.drop at_)) := by rw [List.drop_drop]
    have e2_ : ((b.drop at_).take (wholeP (b.drop at_))).drop 8 = ((b.take (at_ + wholeP (b.drop at_))).drop (at_ + 8)) := by rw [List.drop_take, List.drop_take, List.drop_drop]; congr 1; omega
    exact w_back (m_ - wholeP (b.drop at_)) [(0, .slice A0 b.length c0), (4, .slice A18 (out ++ [((b.take (at_ + wholeP (b.drop at_))).drop (at_ + 8))]).length c19), (5, .int .i64 ((at_ + wholeP (b.drop at_) : Nat) : Int)), (6, .int .i64 ((wholeP (b.drop (at_ + wholeP (b.drop at_))) : Nat) : Int))] (by omega) ⟨rfl, rfl, rfl, rfl, trivial⟩ ⟨(at_ + wholeP (b.drop at_)), out ++ [((b.take (at_ + wholeP (b.drop at_))).drop (at_ + 8))], _, _, by omega, by simp only [List.length_append, List.length_singleton]; omega, (chain hB22 hb27), (Kd.S_below hR21 hb27), fun l n h => by have h2_ := hS_ _ _ (SplitR.some _ l n (by omega) (by rw [e1_]; exact h)); rw [e2_] at h2_; simpa [Nat.add_assoc] using h2_, rfl⟩
  · refine w_exit rfl ?_
    refine w_seq ?_
    refine w_region ?_
    refine rw_val (v := .slice A4 out.length c4) (w' := w_) rfl rfl rfl rfl rfl ?_
    refine rw_val (v := .int .i64 (at_ : Int)) (w' := w_) rfl rfl rfl rfl rfl ?_
    refine rw_val (v := .slice A4 out.length c4) (w' := w_) rfl rfl rfl rfl rfl ?_
    refine rw_val (v := .int .i64 (at_ : Int)) (w' := w_) rfl rfl rfl rfl rfl ?_
    refine rw_end ?_
    refine w_weaken (G' := [(2, .slice A4 out.length c4), (3, .int .i64 (at_ : Int))]) ⟨rfl, rfl, trivial⟩ ?_
    have lp_ := of_decide_eq_false cL
    refine w_ret (post_ret2 rfl rfl rfl ?_)
    exact ⟨_, _, _, _, rfl, by simpa using hS_ _ _ (SplitR.none _ (by omega)), Kd.S_below hR4 (Below.refl _ _), hBw_⟩
def UN (b : List Int) : List Int := if wholeP b = 0 then [] else (b.take (wholeP b)).drop 8
theorem refwrap_calls (w : World) (A0 : Option Addr) (c0 : Nat) (b : List Int) (hC : (Kd.int .u8).C w A0 b.length b) (hc : b.length ≤ c0) (hb : Bytes b) (hl : b.length ≤ 2000000) : Calls Try.prog 56 #[.slice A0 b.length c0] w fun e w' => ∃ A' n' c', e = .returned (.tuple #[.slice A' n' c', .int .i64 (errN b)]) ∧ Own .u8 5 w' w.heap.size w.heap.size A' n' c' (frameB b) ∧ Below w.heap.size w w' := by
  refine (estuaryref04_Wrap.calls (10 * b.length + 1) A0 c0 b _ _ w hC hc (refwrap_f b hb hl _ (Nat.le_refl _))).mono ?_
  rintro e w' ⟨v0, rfl, hR, hB⟩
  obtain ⟨A', c', rfl, hle, hR2⟩ := R_shape hR
  exact ⟨A', _, c', rfl, Own.born hR2 (Nat.le_refl _), hB⟩
theorem errN_of (b : List Int) (n : Nat) (h : b.length = n) : errN b = if 16376 < n then 7 else 0 := by unfold errN; rw [h]
theorem whole_not (b : List Int) (n : Nat) (hn : valN (b.take 4) = n) (h : b.length < 8 + n ∨ 16376 < n) : wholeP b = 0 := by
  unfold wholeP
  rw [hn]
  split
  · rfl
  · split
    · rfl
    · split
      · rfl
      · omega
set_option maxHeartbeats 4000000 in
theorem refunwrap_calls (w : World) (A0 : Option Addr) (c0 : Nat) (b : List Int) (hC : (Kd.int .u8).C w A0 b.length b) (hc : b.length ≤ c0) (hb : Bytes b) (hl : b.length ≤ 2000000) :
    Calls Try.prog 54 #[.slice A0 b.length c0] w fun e w' => ∃ A' n' c', e = .returned (.tuple #[.slice A' n' c', .int .i64 ((wholeP b : Nat) : Int)]) ∧ Own .u8 5 w' w.heap.size w.heap.size A' n' c' (UN b) ∧ Below w.heap.size w w' := by
  refine calls_flow Try.func54 rfl 65 rfl (Nat.le_of_ble_eq_true rfl) [(0, .slice A0 b.length c0)] ?_ ?_
  · intro t v h; exact args_look rfl t v h
  refine w_seq ?_
  refine w_region ?_
  refine rw_val (v := .slice none 0 0) (w' := w) rfl rfl rfl rfl rfl ?_
  refine rw_val (v := .int .i64 0) (w' := w) rfl rfl rfl rfl rfl ?_
  refine rw_end ?_
  refine w_seq ?_
  refine w_seq ?_
  refine w_region ?_
  refine rw_val (v := .slice A0 b.length c0) (w' := w) rfl rfl rfl rfl rfl ?_
  refine rw_val (v := .int .i64 (b.length : Int)) (w' := w) rfl rfl rfl rfl (by simp [go_sem, sEv, sLook, nbeq, i64_w, -List.length_flatten]) ?_
  refine rw_val (v := .bool (decide ((b.length : Int) < 8))) (w' := w) rfl rfl rfl rfl (by simp [go_sem, sEv, sLook, nbeq, i64_w, -List.length_flatten]) ?_
  refine rw_end ?_
  refine w_cond rfl rfl (fun c8 => ?_) (fun c8 => ?_)
  · refine w_seq ?_
    refine w_region ?_
    refine rw_val (v := .slice none 0 0) (w' := w) rfl rfl rfl rfl rfl ?_
    refine rw_val (v := .int .i64 0) (w' := w) rfl rfl rfl rfl rfl ?_
    refine rw_end ?_
    refine w_ret (post_ret2 rfl rfl rfl ?_)
    have e_ : wholeP b = 0 := by unfold wholeP; rw [if_pos (by have c8_ := of_decide_eq_true c8; omega)]
    have e3_ : UN b = [] := by unfold UN; rw [e_, if_pos rfl]
    rw [e_, e3_]
    exact ⟨_, _, _, rfl, Own.nil _ _ _ _ _, (Below.refl _ _)⟩
  · refine w_skip ?_
    refine w_seq ?_
    have c8_ := of_decide_eq_false c8
    obtain ⟨ad0_, hA0_, hcell0_⟩ := Kd.at_int hC 0 (by omega) (by omega)
    obtain ⟨ad1_, hA1_, hcell1_⟩ := Kd.at_int hC 1 (by omega) (by omega)
    obtain ⟨ad2_, hA2_, hcell2_⟩ := Kd.at_int hC 2 (by omega) (by omega)
    obtain ⟨ad3_, hA3_, hcell3_⟩ := Kd.at_int hC 3 (by omega) (by omega)
    subst hA0_
    obtain rfl := Option.some.inj hA1_
    obtain rfl := Option.some.inj hA2_
    obtain rfl := Option.some.inj hA3_
    rw [show (0 : Int).toNat = 0 from rfl, Flow.add_zero] at hcell0_
    rw [show (1 : Int).toNat = 1 from rfl] at hcell1_
    rw [show (2 : Int).toNat = 2 from rfl] at hcell2_
    rw [show (3 : Int).toNat = 3 from rfl] at hcell3_
    have hr0_ := rd_range hb 0 (by omega)
    have hr1_ := rd_range hb 1 (by omega)
    have hr2_ := rd_range hb 2 (by omega)
    have hr3_ := rd_range hb 3 (by omega)
    obtain ⟨o1_, ho1_⟩ : ∃ o : Nat, o = 1 := ⟨_, rfl⟩
    rw [← ho1_] at hcell1_
    obtain ⟨o2_, ho2_⟩ : ∃ o : Nat, o = 2 := ⟨_, rfl⟩
    rw [← ho2_] at hcell2_
    obtain ⟨o3_, ho3_⟩ : ∃ o : Nat, o = 3 := ⟨_, rfl⟩
    rw [← ho3_] at hcell3_
    rw [show ((0 : Nat) : Int) = 0 from rfl] at hr0_
    rw [show ((1 : Nat) : Int) = 1 from rfl] at hr1_
    rw [show ((2 : Nat) : Int) = 2 from rfl] at hr2_
    rw [show ((3 : Nat) : Int) = 3 from rfl] at hr3_
    have hv4_ := val4 b hb (by omega)
    obtain ⟨n, hn⟩ : ∃ n, valN (b.take 4) = n := ⟨_, rfl⟩
    rw [hn] at hv4_
    have hnw_ := whole_not b n hn
    have hfw_ := fin_whole b hb n hn
    have hlX_ : 8 + n ≤ b.length → ((b.take (8 + n)).drop 8).length = n := fun h_ => by rw [List.length_drop, List.length_take]; omega
    refine w_draw (M := [0, 1, 3, 7, 0, 16, 48, 112, 240, 511, 0, 1024, 3072, 7168, 15360, 32767, 0, 65536, 196608, 458752, 983040, 2097151, 4194303]) (ss := [Is (.slice (some ad0_) b.length c0), Is (.pointer (some ad0_)), Is (.int .u8 (rd b 0)), Is (.int .i64 (rd b 0)), Is (.slice (some ad0_) b.length c0), Is (.pointer (some (ad0_.add o1_))), Is (.int .u8 (rd b 1)), Is (.int .i64 (rd b 1)), Is (.int .i64 (256 * (rd b 1))), Is (.int .i64 ((rd b 0) + 256 * (rd b 1))), Is (.slice (some ad0_) b.length c0), Is (.pointer (some (ad0_.add o2_))), Is (.int .u8 (rd b 2)), Is (.int .i64 (rd b 2)), Is (.int .i64 (65536 * (rd b 2))), Is (.int .i64 ((rd b 0) + 256 * (rd b 1) + 65536 * (rd b 2))), Is (.slice (some ad0_) b.length c0), Is (.pointer (some (ad0_.add o3_))), Is (.int .u8 (rd b 3)), Is (.int .i64 (rd b 3)), Is (.int .i64 (16777216 * (rd b 3))), Is (.int .i64 ((n : Nat) : Int)), Is (.int .i64 ((n : Nat) : Int))]) rfl (by decide +kernel) ?_
    refine t_is (.slice (some ad0_) b.length c0) rfl rfl rfl rfl (fun W_ hW_ F_ => rfl) ?_
    refine t_is (.pointer (some ad0_)) rfl rfl rfl rfl (fun W_ hW_ F_ => (by have hne_ : b ≠ [] := (fun h_ => by rw [h_] at c8_; simp at c8_); first | (simp [go_sem, sEv, sLook, nbeq, i64_w, -List.length_flatten, Try.underlying32, Flow.add_zero, hne_]; done) | (simp [go_sem, sEv, sLook, nbeq, i64_w, -List.length_flatten, Try.underlying32, Flow.add_zero]; omega))) ?_
    refine t_is (.int .u8 (rd b 0)) rfl rfl rfl rfl (fun W_ hW_ F_ => (by have e_ := cellOn hcell0_ (chain (Below.refl _ _) (below_of_drew hW_)); simp [go_sem, sEv, sLook, nbeq, i64_w, -List.length_flatten, e_])) ?_
    refine t_is (.int .i64 (rd b 0)) rfl rfl rfl rfl (fun W_ hW_ F_ => (by simp [go_sem, sEv, sLook, nbeq, i64_w, -List.length_flatten]; exact wrap_id (by omega) (by omega))) ?_
    refine t_is (.slice (some ad0_) b.length c0) rfl rfl rfl rfl (fun W_ hW_ F_ => rfl) ?_
    refine t_is (.pointer (some (ad0_.add o1_))) rfl rfl rfl rfl (fun W_ hW_ F_ => (by rw [ho1_]; have hne_ : b ≠ [] := (fun h_ => by rw [h_] at c8_; simp at c8_); first | (simp [go_sem, sEv, sLook, nbeq, i64_w, -List.length_flatten, Try.underlying32, Flow.add_zero, hne_]; done) | (simp [go_sem, sEv, sLook, nbeq, i64_w, -List.length_flatten, Try.underlying32, Flow.add_zero]; omega))) ?_
    refine t_is (.int .u8 (rd b 1)) rfl rfl rfl rfl (fun W_ hW_ F_ => (by have e_ := cellOn hcell1_ (chain (Below.refl _ _) (below_of_drew hW_)); simp [go_sem, sEv, sLook, nbeq, i64_w, -List.length_flatten, e_])) ?_
    refine t_is (.int .i64 (rd b 1)) rfl rfl rfl rfl (fun W_ hW_ F_ => (by simp [go_sem, sEv, sLook, nbeq, i64_w, -List.length_flatten]; exact wrap_id (by omega) (by omega))) ?_
    refine t_is (.int .i64 (256 * (rd b 1))) rfl rfl rfl rfl (fun W_ hW_ F_ => by simp [go_sem, sEv, sLook, nbeq, i64_w, -List.length_flatten]; exact wrap_id (by omega) (by omega)) ?_
    refine t_is (.int .i64 ((rd b 0) + 256 * (rd b 1))) rfl rfl rfl rfl (fun W_ hW_ F_ => by simp [go_sem, sEv, sLook, nbeq, i64_w, -List.length_flatten]; exact wrap_id (by omega) (by omega)) ?_
    refine t_is (.slice (some ad0_) b.length c0) rfl rfl rfl rfl (fun W_ hW_ F_ => rfl) ?_
    refine t_is (.pointer (some (ad0_.add o2_))) rfl rfl rfl rfl (fun W_ hW_ F_ => (by rw [ho2_]; have hne_ : b ≠ [] := (fun h_ => by rw [h_] at c8_; simp at c8_); first | (simp [go_sem, sEv, sLook, nbeq, i64_w, -List.length_flatten, Try.underlying32, Flow.add_zero, hne_]; done) | (simp [go_sem, sEv, sLook, nbeq, i64_w, -List.length_flatten, Try.underlying32, Flow.add_zero]; omega))) ?_
    refine t_is (.int .u8 (rd b 2)) rfl rfl rfl rfl (fun W_ hW_ F_ => (by have e_ := cellOn hcell2_ (chain (Below.refl _ _) (below_of_drew hW_)); simp [go_sem, sEv, sLook, nbeq, i64_w, -List.length_flatten, e_])) ?_
    refine t_is (.int .i64 (rd b 2)) rfl rfl rfl rfl (fun W_ hW_ F_ => (by simp [go_sem, sEv, sLook, nbeq, i64_w, -List.length_flatten]; exact wrap_id (by omega) (by omega))) ?_
    refine t_is (.int .i64 (65536 * (rd b 2))) rfl rfl rfl rfl (fun W_ hW_ F_ => by simp [go_sem, sEv, sLook, nbeq, i64_w, -List.length_flatten]; exact wrap_id (by omega) (by omega)) ?_
    refine t_is (.int .i64 ((rd b 0) + 256 * (rd b 1) + 65536 * (rd b 2))) rfl rfl rfl rfl (fun W_ hW_ F_ => by simp [go_sem, sEv, sLook, nbeq, i64_w, -List.length_flatten]; exact wrap_id (by omega) (by omega)) ?_
    refine t_is (.slice (some ad0_) b.length c0) rfl rfl rfl rfl (fun W_ hW_ F_ => rfl) ?_
    refine t_is (.pointer (some (ad0_.add o3_))) rfl rfl rfl rfl (fun W_ hW_ F_ => (by rw [ho3_]; have hne_ : b ≠ [] := (fun h_ => by rw [h_] at c8_; simp at c8_); first | (simp [go_sem, sEv, sLook, nbeq, i64_w, -List.length_flatten, Try.underlying32, Flow.add_zero, hne_]; done) | (simp [go_sem, sEv, sLook, nbeq, i64_w, -List.length_flatten, Try.underlying32, Flow.add_zero]; omega))) ?_
    refine t_is (.int .u8 (rd b 3)) rfl rfl rfl rfl (fun W_ hW_ F_ => (by have e_ := cellOn hcell3_ (chain (Below.refl _ _) (below_of_drew hW_)); simp [go_sem, sEv, sLook, nbeq, i64_w, -List.length_flatten, e_])) ?_
    refine t_is (.int .i64 (rd b 3)) rfl rfl rfl rfl (fun W_ hW_ F_ => (by simp [go_sem, sEv, sLook, nbeq, i64_w, -List.length_flatten]; exact wrap_id (by omega) (by omega))) ?_
    refine t_is (.int .i64 (16777216 * (rd b 3))) rfl rfl rfl rfl (fun W_ hW_ F_ => by simp [go_sem, sEv, sLook, nbeq, i64_w, -List.length_flatten]; exact wrap_id (by omega) (by omega)) ?_
    refine t_is (.int .i64 ((n : Nat) : Int)) rfl rfl rfl rfl (fun W_ hW_ F_ => by simp [go_sem, sEv, sLook, nbeq, i64_w, -List.length_flatten]; rw [wrap_id (by omega) (by omega)]; omega) ?_
    refine t_is (.int .i64 ((n : Nat) : Int)) rfl rfl rfl rfl (fun W_ hW_ F_ => rfl) ?_
    refine t_end ?_
    intro w1 hb2_ F3
    have hb2 := below_of_drew hb2_
    have hs_w1 := hb2.size
    refine w_weaken (G' := [(0, .slice (some ad0_) b.length c0), (2, .slice none 0 0), (3, .int .i64 0), (4, .int .i64 ((n : Nat) : Int))]) ⟨rfl, rfl, rfl, rfl, trivial⟩ ?_
    refine w_seq ?_
    refine w_seq ?_
    refine w_region ?_
    refine rw_val (v := .int .i64 ((n : Nat) : Int)) (w' := w1) rfl rfl rfl rfl rfl ?_
    refine rw_val (v := .slice (some ad0_) b.length c0) (w' := w1) rfl rfl rfl rfl rfl ?_
    refine rw_val (v := .int .i64 (b.length : Int)) (w' := w1) rfl rfl rfl rfl (by simp [go_sem, sEv, sLook, nbeq, i64_w, -List.length_flatten]) ?_
    refine rw_val (v := .int .i64 ((b.length : Int) - 8)) (w' := w1) rfl rfl rfl rfl (by simp [go_sem, sEv, sLook, nbeq, i64_w, -List.length_flatten]; exact wrap_id (by omega) (by omega)) ?_
    refine rw_val (v := .bool (decide (((b.length : Int) - 8) < ((n : Nat) : Int)))) (w' := w1) rfl rfl rfl rfl (by simp [go_sem, sEv, sLook, nbeq, i64_w, -List.length_flatten]) ?_
    refine rw_end ?_
    refine w_weaken (G' := [(0, .slice (some ad0_) b.length c0), (2, .slice none 0 0), (3, .int .i64 0), (4, .int .i64 ((n : Nat) : Int)), (36, .bool (decide (((b.length : Int) - 8) < ((n : Nat) : Int))))]) ⟨rfl, rfl, rfl, rfl, rfl, trivial⟩ ?_
    refine w_cond rfl rfl (fun cN => ?_) (fun cN => ?_)
    · refine w_seq ?_
      refine w_region ?_
      refine rw_val (v := .slice none 0 0) (w' := w1) rfl rfl rfl rfl rfl ?_
      refine rw_val (v := .int .i64 0) (w' := w1) rfl rfl rfl rfl rfl ?_
      refine rw_end ?_
      refine w_ret (post_ret2 rfl rfl rfl ?_)
      have e_ : wholeP b = 0 := hnw_ (.inl (by have c_ := of_decide_eq_true cN; omega))
      have e3_ : UN b = [] := by unfold UN; rw [e_, if_pos rfl]
      rw [e_, e3_]
      exact ⟨_, _, _, rfl, Own.nil _ _ _ _ _, hb2⟩
    · refine w_skip ?_
      refine w_seq ?_
      refine w_region ?_
      refine rw_val (v := .slice (some ad0_) b.length c0) (w' := w1) rfl rfl rfl rfl rfl ?_
      have cn_ := of_decide_eq_false cN
      have h8_ : 8 + n ≤ b.length := by omega
      have hlX2_ := hlX_ h8_
      refine rw_val (v := .int .i64 ((n : Nat) : Int)) (w' := w1) rfl rfl rfl rfl rfl ?_
      refine rw_val (v := .int .i64 ((8 + n : Nat) : Int)) (w' := w1) rfl rfl rfl rfl (by simp [go_sem, sEv, sLook, nbeq, i64_w, -List.length_flatten]; exact wrap_id (by omega) (by omega)) ?_
      have hP4 := (mid_C hC 8 (8 + n) (by omega) (by omega) (show b.length ≤ c0 by have q_ := hc; have q2_ : b.length = b.length := rfl; omega))
      have hc5 : ((b.take (8 + n)).drop 8).length ≤ (c0 - 8) := by have q_ := hc; have q2_ : b.length = b.length := rfl; simp only [List.length_take, List.length_drop]; omega
      refine rw_val (v := .slice (adr (some ad0_) c0 8) (((b.take (8 + n)).drop 8).length) (c0 - 8)) (w' := w1) rfl rfl rfl rfl (run_as (run_mid (e := 5) (by kernel_rfl) (fun _ => by kernel_rfl) 8 (8 + n) _ _ (by first | rfl | (simp; done) | omega) (by first | rfl | (simp; done) | omega) rfl (by omega) (by omega) hc _)) ?_
      refine rw_call rfl rfl rfl rfl (f := 56) (args := #[.slice (adr (some ad0_) c0 8) (((b.take (8 + n)).drop 8).length) (c0 - 8)]) (by simp [go_sem, sEv, sLook, nbeq, i64_w, -List.length_flatten]) (refwrap_calls w1 _ _ ((b.take (8 + n)).drop 8) (Kd.C_below hP4 hb2) hc5 ((hb.take _).drop _) (by omega)) ?_
      rintro e_ w9 ⟨A6, n7, c8, rfl, hO10, hB11⟩
      refine ⟨_, rfl, ?_⟩
      have hs_w9 := hB11.size
      have hL12 : Own .u8 5 w9 w.heap.size w1.heap.size A6 n7 c8 (frameB ((b.take (8 + n)).drop 8)) := Own.lower hO10 (by omega)
      refine rw_val (v := .tuple #[.slice A6 n7 c8, .int .i64 (errN ((b.take (8 + n)).drop 8))]) (w' := w9) rfl rfl rfl rfl rfl ?_
      refine rw_val (v := .slice A6 n7 c8) (w' := w9) rfl rfl rfl rfl (by simp [go_sem, sEv, sLook, nbeq, i64_w, -List.length_flatten]) ?_
      refine rw_val (v := .int .i64 (errN ((b.take (8 + n)).drop 8))) (w' := w9) rfl rfl rfl rfl (by simp [go_sem, sEv, sLook, nbeq, i64_w, -List.length_flatten]) ?_
      refine rw_val (v := .slice A6 n7 c8) (w' := w9) rfl rfl rfl rfl rfl ?_
      refine rw_val (v := .int .i64 (errN ((b.take (8 + n)).drop 8))) (w' := w9) rfl rfl rfl rfl rfl ?_
      refine rw_end ?_
      refine w_weaken (G' := [(0, .slice (some ad0_) b.length c0), (2, .slice none 0 0), (3, .int .i64 0), (4, .int .i64 ((n : Nat) : Int)), (5, .slice A6 n7 c8), (6, .int .i64 (errN ((b.take (8 + n)).drop 8)))]) ⟨rfl, rfl, rfl, rfl, rfl, rfl, trivial⟩ ?_
      refine w_seq ?_
      refine w_seq ?_
      rcases bcase (decide (16376 < n)) with cE | cE
      · refine w_draw (M := [0, 1, 3, 7, 15, 7, 7, 71, 231, 487, 1023, 2047]) (ss := [Is (.int .i64 (errN ((b.take (8 + n)).drop 8))), Is (.bool (decide (16376 < n))), Is (.bool (decide (16376 < n))), Is (.slice A6 n7 c8), Is (.string (strOfNums (frameB ((b.take (8 + n)).drop 8)))), Is (.slice (some ad0_) b.length c0), Is (.int .i64 ((n : Nat) : Int)), Is (.int .i64 ((8 + n : Nat) : Int)), Is (.slice (some ad0_) ((b.take (8 + n)).length) c0), Is (.string (strOfNums (b.take (8 + n)))), Is (.bool (!decide (strOfNums (frameB ((b.take (8 + n)).drop 8)) = strOfNums (b.take (8 + n))))), Is (.bool (!decide (strOfNums (frameB ((b.take (8 + n)).drop 8)) = strOfNums (b.take (8 + n)))))]) rfl (by decide +kernel) ?_
        refine t_is (.int .i64 (errN ((b.take (8 + n)).drop 8))) rfl rfl rfl rfl (fun W_ hW_ F_ => rfl) ?_
        refine t_is (.bool (decide (16376 < n))) rfl rfl rfl rfl (fun W_ hW_ F_ => (by have e_ := errN_of ((b.take (8 + n)).drop 8) n hlX2_; by_cases h_ : 16376 < n <;> simp [go_sem, sEv, sLook, nbeq, i64_w, -List.length_flatten, e_, h_])) ?_
        refine t_is (.bool (decide (16376 < n))) rfl rfl rfl rfl (fun W_ hW_ F_ => rfl) ?_
        refine t_gis (c := decide (16376 < n)) (.slice A6 n7 c8) rfl rfl rfl (by first | (rw [cE]; rfl) | simp [cE]) rfl rfl rfl (fun W_ hW_ F_ => rfl) ?_
        refine t_gis (c := decide (16376 < n)) (.string (strOfNums (frameB ((b.take (8 + n)).drop 8)))) rfl rfl rfl (by first | (rw [cE]; rfl) | simp [cE]) rfl rfl rfl (fun W_ hW_ F_ => run_as (run_str_of (P := Try.prog) (e := 5) (by kernel_rfl) (by kernel_rfl) (by kernel_rfl) (show (Kd.int .u8).C W_ A6 n7 _ by rw [hL12.len]; exact (Kd.C_below (Own.C hL12) (chain (Below.refl _ _) (below_of_drew hW_)))))) ?_
        refine t_gis (c := decide (16376 < n)) (.slice (some ad0_) b.length c0) rfl rfl rfl (by first | (rw [cE]; rfl) | simp [cE]) rfl rfl rfl (fun W_ hW_ F_ => rfl) ?_
        refine t_gis (c := decide (16376 < n)) (.int .i64 ((n : Nat) : Int)) rfl rfl rfl (by first | (rw [cE]; rfl) | simp [cE]) rfl rfl rfl (fun W_ hW_ F_ => rfl) ?_
        refine t_gis (c := decide (16376 < n)) (.int .i64 ((8 + n : Nat) : Int)) rfl rfl rfl (by first | (rw [cE]; rfl) | simp [cE]) rfl rfl rfl (fun W_ hW_ F_ => by simp [go_sem, sEv, sLook, nbeq, i64_w, -List.length_flatten]; exact wrap_id (by omega) (by omega)) ?_
        have hP13 := (to_C hC (8 + n) (by omega))
        have hc14 : (b.take (8 + n)).length ≤ c0 := by have q_ := hc; have q2_ : b.length = b.length := rfl; simp only [List.length_take, List.length_drop]; omega
        refine t_gis (c := decide (16376 < n)) (.slice (some ad0_) ((b.take (8 + n)).length) c0) rfl rfl rfl (by first | (rw [cE]; rfl) | simp [cE]) rfl rfl rfl (fun W_ hW_ F_ => (run_as (run_to (e := 5) (by kernel_rfl) (fun _ => by kernel_rfl) (8 + n) _ (by first | rfl | (simp; done) | omega) rfl (by omega) hc _))) ?_
        refine t_gis (c := decide (16376 < n)) (.string (strOfNums (b.take (8 + n)))) rfl rfl rfl (by first | (rw [cE]; rfl) | simp [cE]) rfl rfl rfl (fun W_ hW_ F_ => run_as (run_str_of (P := Try.prog) (e := 5) (by kernel_rfl) (by kernel_rfl) (by kernel_rfl) (Kd.C_below hP13 (chain (chain hb2 hB11) (below_of_drew hW_))))) ?_
        refine t_gis (c := decide (16376 < n)) (.bool (!decide (strOfNums (frameB ((b.take (8 + n)).drop 8)) = strOfNums (b.take (8 + n))))) rfl rfl rfl (by first | (rw [cE]; rfl) | simp [cE]) rfl rfl rfl (fun W_ hW_ F_ => (run_as (run_str_neq 9 _ _ _))) ?_
        refine t_is (.bool (!decide (strOfNums (frameB ((b.take (8 + n)).drop 8)) = strOfNums (b.take (8 + n))))) rfl rfl rfl rfl (fun W_ hW_ F_ => by first | (simp [go_sem, sEv, sLook, nbeq, i64_w, -List.length_flatten, cE]; done) | (simp [go_sem, sEv, sLook, nbeq, i64_w, -List.length_flatten] <;> omega) | (simp [go_sem, sEv, sLook, nbeq, i64_w, -List.length_flatten]; intro h_; exact absurd (by omega) h_) | (rw [cE]; simp [go_sem, sEv, sLook, nbeq, i64_w, -List.length_flatten]; done)) ?_
        refine t_end ?_
        intro w15 hb16_ F17
        have hb16 := below_of_drew hb16_
        have hs_w15 := hb16.size
        refine w_weaken (G' := [(0, .slice (some ad0_) b.length c0), (2, .slice none 0 0), (3, .int .i64 0), (4, .int .i64 ((n : Nat) : Int)), (56, .bool (!decide (strOfNums (frameB ((b.take (8 + n)).drop 8)) = strOfNums (b.take (8 + n)))))]) ⟨rfl, rfl, rfl, rfl, rfl, trivial⟩ ?_
        refine w_cond rfl rfl (fun cS => ?_) (fun cS => ?_)
        · refine w_seq ?_
          refine w_region ?_
          refine rw_val (v := .slice none 0 0) (w' := w15) rfl rfl rfl rfl rfl ?_
          refine rw_val (v := .int .i64 0) (w' := w15) rfl rfl rfl rfl rfl ?_
          refine rw_end ?_
          refine w_ret (post_ret2 rfl rfl rfl ?_)
          have e_ := hfw_ h8_ (by have c_ := of_decide_eq_false cE; omega)
          have cS_ : ¬ strOfNums (frameB ((b.take (8 + n)).drop 8)) = strOfNums (b.take (8 + n)) := by simpa using cS
          rw [if_neg (fun h => cS_ (by rw [h]))] at e_
          have e3_ : UN b = [] := by unfold UN; rw [e_, if_pos rfl]
          rw [e_, e3_]
          exact ⟨_, _, _, rfl, Own.nil _ _ _ _ _, (chain (chain hb2 hB11) hb16)⟩
        · refine w_skip ?_
          refine w_seq ?_
          refine w_region ?_
          refine rw_new (cs := #[]) (t := 5) (fun g => .slice (some ⟨g, 0, none⟩) 0 0) rfl rfl rfl rfl (by kernel_rfl) ?_
          intro g18 w19 hg23 hz22 hb20 hk21
          have hs_w19 := hb20.size
          have hO24 : Own .u8 5 w19 w.heap.size g18 (some ⟨g18, 0, none⟩) 0 0 [] := own_blk w.heap.size hk21 (by omega) rfl (by simp) (by omega) (Nums.nil _ _)
          refine rw_val (v := .slice (some ad0_) b.length c0) (w' := w19) rfl rfl rfl rfl rfl ?_
          refine rw_val (v := .int .i64 ((n : Nat) : Int)) (w' := w19) rfl rfl rfl rfl rfl ?_
          refine rw_val (v := .int .i64 ((8 + n : Nat) : Int)) (w' := w19) rfl rfl rfl rfl (by simp [go_sem, sEv, sLook, nbeq, i64_w, -List.length_flatten]; exact wrap_id (by omega) (by omega)) ?_
          have hP25 := (mid_C hC 8 (8 + n) (by omega) (by omega) (show b.length ≤ c0 by have q_ := hc; have q2_ : b.length = b.length := rfl; omega))
          have hc26 : ((b.take (8 + n)).drop 8).length ≤ (c0 - 8) := by have q_ := hc; have q2_ : b.length = b.length := rfl; simp only [List.length_take, List.length_drop]; omega
          refine rw_val (v := .slice (adr (some ad0_) c0 8) (((b.take (8 + n)).drop 8).length) (c0 - 8)) (w' := w19) rfl rfl rfl rfl (run_as (run_mid (e := 5) (by kernel_rfl) (fun _ => by kernel_rfl) 8 (8 + n) _ _ (by first | rfl | (simp; done) | omega) (by first | rfl | (simp; done) | omega) rfl (by omega) (by omega) hc _)) ?_
          refine rw_append_row .u8 w.heap.size rfl rfl rfl (.tmp 57) (.tmp 61) rfl rfl 32 5 1 rfl (by kernel_rfl) info5 (by decide) (b := g18) rfl rfl (by omega) (hO24.on (Below.refl _ _)) (Kd.C_below hP25 (chain (chain (chain hb2 hB11) hb16) hb20)) (chain (chain (chain hb2 hB11) hb16) hb20) (by omega) (by simp only [List.length_nil]; omega) ?_
          intro A27 n28 c29 w30 hn31 hO32 hB33 hG34
          have hs_w30 := hB33.size
          have hgs_w30 := hG34.size
          refine rw_val (v := .int .i64 ((n : Nat) : Int)) (w' := w30) rfl rfl rfl rfl rfl ?_
          refine rw_val (v := .int .i64 ((8 + n : Nat) : Int)) (w' := w30) rfl rfl rfl rfl (by simp [go_sem, sEv, sLook, nbeq, i64_w, -List.length_flatten]; exact wrap_id (by omega) (by omega)) ?_
          refine rw_val (v := .slice A27 n28 c29) (w' := w30) rfl rfl rfl rfl rfl ?_
          refine rw_val (v := .int .i64 ((8 + n : Nat) : Int)) (w' := w30) rfl rfl rfl rfl rfl ?_
          refine rw_end ?_
          refine w_weaken (G' := [(2, .slice A27 n28 c29), (3, .int .i64 ((8 + n : Nat) : Int))]) ⟨rfl, rfl, trivial⟩ ?_
          refine w_ret (post_ret2 rfl rfl rfl ?_)
          have e_ := hfw_ h8_ (by have c_ := of_decide_eq_false cE; omega)
          have cS_ : strOfNums (frameB ((b.take (8 + n)).drop 8)) = strOfNums (b.take (8 + n)) := by simpa using cS
          have e2_ := (str_iff (frameB_bytes _ ((hb.take _).drop _)) (hb.take _)).1 (by rw [cS_])
          rw [if_pos e2_] at e_
          have e3_ : UN b = [] ++ ((b.take (8 + n)).drop 8) := by unfold UN; rw [e_, if_neg (by omega)]; rfl
          rw [e_, e3_]
          exact ⟨_, _, _, rfl, Own.mono (hO32.on (Below.refl _ _)) (by omega), hB33⟩
      · refine w_draw (M := [0, 1, 3, 7, 15, 7, 7, 71, 231, 487, 1023, 2047]) (ss := [Is (.int .i64 (errN ((b.take (8 + n)).drop 8))), Is (.bool (decide (16376 < n))), Is (.bool (decide (16376 < n))), Is undef, Is undef, Is undef, Is undef, Is undef, Is undef, Is undef, Is undef, Is (.bool true)]) rfl (by decide +kernel) ?_
        refine t_is (.int .i64 (errN ((b.take (8 + n)).drop 8))) rfl rfl rfl rfl (fun W_ hW_ F_ => rfl) ?_
        refine t_is (.bool (decide (16376 < n))) rfl rfl rfl rfl (fun W_ hW_ F_ => (by have e_ := errN_of ((b.take (8 + n)).drop 8) n hlX2_; by_cases h_ : 16376 < n <;> simp [go_sem, sEv, sLook, nbeq, i64_w, -List.length_flatten, e_, h_])) ?_
        refine t_is (.bool (decide (16376 < n))) rfl rfl rfl rfl (fun W_ hW_ F_ => rfl) ?_
        refine t_off (c := decide (16376 < n)) rfl rfl rfl (by first | (rw [cE]; rfl) | simp [cE]) rfl rfl ?_
        refine t_off (c := decide (16376 < n)) rfl rfl rfl (by first | (rw [cE]; rfl) | simp [cE]) rfl rfl ?_
        refine t_off (c := decide (16376 < n)) rfl rfl rfl (by first | (rw [cE]; rfl) | simp [cE]) rfl rfl ?_
        refine t_off (c := decide (16376 < n)) rfl rfl rfl (by first | (rw [cE]; rfl) | simp [cE]) rfl rfl ?_
        refine t_off (c := decide (16376 < n)) rfl rfl rfl (by first | (rw [cE]; rfl) | simp [cE]) rfl rfl ?_
        refine t_off (c := decide (16376 < n)) rfl rfl rfl (by first | (rw [cE]; rfl) | simp [cE]) rfl rfl ?_
        refine t_off (c := decide (16376 < n)) rfl rfl rfl (by first | (rw [cE]; rfl) | simp [cE]) rfl rfl ?_
        refine t_off (c := decide (16376 < n)) rfl rfl rfl (by first | (rw [cE]; rfl) | simp [cE]) rfl rfl ?_
        refine t_is (.bool true) rfl rfl rfl rfl (fun W_ hW_ F_ => by first | (simp [go_sem, sEv, sLook, nbeq, i64_w, -List.length_flatten, cE]; done) | (simp [go_sem, sEv, sLook, nbeq, i64_w, -List.length_flatten] <;> omega) | (simp [go_sem, sEv, sLook, nbeq, i64_w, -List.length_flatten]; intro h_; exact absurd (by omega) h_) | (rw [cE]; simp [go_sem, sEv, sLook, nbeq, i64_w, -List.length_flatten]; done)) ?_
        refine t_end ?_
        intro w35 hb36_ F37
        have hb36 := below_of_drew hb36_
        have hs_w35 := hb36.size
        refine w_weaken (G' := [(0, .slice (some ad0_) b.length c0), (2, .slice none 0 0), (3, .int .i64 0), (4, .int .i64 ((n : Nat) : Int)), (56, .bool true)]) ⟨rfl, rfl, rfl, rfl, rfl, trivial⟩ ?_
        refine w_cond_t rfl rfl rfl ?_
        refine w_seq ?_
        refine w_region ?_
        refine rw_val (v := .slice none 0 0) (w' := w35) rfl rfl rfl rfl rfl ?_
        refine rw_val (v := .int .i64 0) (w' := w35) rfl rfl rfl rfl rfl ?_
        refine rw_end ?_
        refine w_ret (post_ret2 rfl rfl rfl ?_)
        have e_ : wholeP b = 0 := hnw_ (.inr (of_decide_eq_true cE))
        have e3_ : UN b = [] := by unfold UN; rw [e_, if_pos rfl]
        rw [e_, e3_]
        exact ⟨_, _, _, rfl, Own.nil _ _ _ _ _, (chain (chain hb2 hB11) hb36)⟩
set_option maxHeartbeats 4000000 in
theorem refsplit_calls (w : World) (A0 : Option Addr) (c0 : Nat) (b : List Int) (hC : (Kd.int .u8).C w A0 b.length b) (hc : b.length ≤ c0) (hb : Bytes b) (hl : b.length ≤ 2000000) :
    Calls Try.prog 43 #[.slice A0 b.length c0] w fun e w' => ∃ (out : List (List Int)) (n : Nat) (A' : Option Addr) (c' : Nat), e = .returned (.tuple #[.slice A' out.length c', .int .i64 (n : Int)]) ∧ SplitR b out n ∧ Kd.S (Kd.slice 5 (Kd.int .u8)) 32 w' w.heap.size (fun q => w.heap.size ≤ q) (.slice A' out.length c') out ∧ Below w.heap.size w w' := by
  refine calls_flow Try.func43 rfl 26 rfl (Nat.le_of_ble_eq_true rfl) [(0, .slice A0 b.length c0)] ?_ ?_
  · intro t v h; exact args_look rfl t v h
  refine w_seq ?_
  refine w_region ?_
  refine rw_val (v := .slice none 0 0) (w' := w) rfl rfl rfl rfl rfl ?_
  refine rw_val (v := .int .i64 0) (w' := w) rfl rfl rfl rfl rfl ?_
  refine rw_end ?_
  refine w_seq ?_
  refine w_region ?_
  refine rw_val (v := .slice none 0 0) (w' := w) rfl rfl rfl rfl rfl ?_
  refine rw_end ?_
  refine w_seq ?_
  refine w_region ?_
  refine rw_val (v := .int .i64 0) (w' := w) rfl rfl rfl rfl rfl ?_
  refine rw_end ?_
  refine w_block ?_
  refine w_loop (fun m_ G W_ => ∃ (at_ : Nat) (out : List (List Int)) (A4 : Option Addr) (c4 : Nat), at_ + m_ = b.length ∧ 8 * out.length ≤ at_ ∧ Below w.heap.size w W_ ∧ Kd.S (Kd.slice 5 (Kd.int .u8)) 32 W_ w.heap.size (fun q => w.heap.size ≤ q) (.slice A4 out.length c4) out ∧ (∀ l n, SplitR (b.drop at_) l n → SplitR b (out ++ l) (at_ + n)) ∧ G = [(0, .slice A0 b.length c0), (4, .slice A4 out.length c4), (5, .int .i64 (at_ : Int))]) b.length [(0, .slice A0 b.length c0), (4, .slice none 0 0), (5, .int .i64 0)] ⟨0, [], none, 0, by omega, by simp, (Below.refl _ _), Kd.S_nil _ _ _ _ _, fun l n h => by simpa using h, by simp⟩ ⟨rfl, rfl, rfl, trivial⟩ ?_
  rintro m_ G w_ ⟨at_, out, A4, c4, him, hout, hBw_, hR4, hS_, rfl⟩
  have hs_w_ := hBw_.size
  have hwl_ := wholeP_le (b.drop at_)
  rw [List.length_drop] at hwl_
  refine w_block ?_
  refine w_seq ?_
  refine w_region ?_
  refine rw_val (v := .slice A0 b.length c0) (w' := w_) rfl rfl rfl rfl rfl ?_
  refine rw_val (v := .int .i64 (at_ : Int)) (w' := w_) rfl rfl rfl rfl rfl ?_
  have hP1 := (from_C hC at_ (by omega) (show b.length ≤ c0 by have q_ := hc; have q2_ : b.length = b.length := rfl; omega))
  have hc2 : (b.drop at_).length ≤ (c0 - at_) := by have q_ := hc; have q2_ : b.length = b.length := rfl; simp only [List.length_take, List.length_drop]; omega
  refine rw_val (v := .slice (adr A0 c0 at_) ((b.drop at_).length) (c0 - at_)) (w' := w_) rfl rfl rfl rfl (run_as (run_from (e := 5) (by kernel_rfl) (fun _ => by kernel_rfl) at_ _ (by first | rfl | (simp; done) | omega) rfl (by omega) hc _)) ?_
  refine rw_call rfl rfl rfl rfl (f := 54) (args := #[.slice (adr A0 c0 at_) ((b.drop at_).length) (c0 - at_)]) (by simp [go_sem, sEv, sLook, nbeq, i64_w, -List.length_flatten]) (refunwrap_calls w_ _ _ (b.drop at_) (Kd.C_below hP1 hBw_) hc2 (hb.drop _) (by simp only [List.length_drop]; omega)) ?_
  rintro e_ w6 ⟨A3, n4, c5, rfl, hO7, hB8⟩
  refine ⟨_, rfl, ?_⟩
  have hs_w6 := hB8.size
  have hL9 : Own .u8 5 w6 w.heap.size w_.heap.size A3 n4 c5 (UN (b.drop at_)) := Own.lower hO7 (by omega)
  refine rw_val (v := .tuple #[.slice A3 n4 c5, .int .i64 ((wholeP (b.drop at_) : Nat) : Int)]) (w' := w6) rfl rfl rfl rfl rfl ?_
  refine rw_val (v := .slice A3 n4 c5) (w' := w6) rfl rfl rfl rfl (by simp [go_sem, sEv, sLook, nbeq, i64_w, -List.length_flatten]) ?_
  refine rw_val (v := .int .i64 ((wholeP (b.drop at_) : Nat) : Int)) (w' := w6) rfl rfl rfl rfl (by simp [go_sem, sEv, sLook, nbeq, i64_w, -List.length_flatten]) ?_
  refine rw_val (v := .slice A3 n4 c5) (w' := w6) rfl rfl rfl rfl rfl ?_
  refine rw_val (v := .int .i64 ((wholeP (b.drop at_) : Nat) : Int)) (w' := w6) rfl rfl rfl rfl rfl ?_
  refine rw_end ?_
  refine w_weaken (G' := [(0, .slice A0 b.length c0), (4, .slice A4 out.length c4), (5, .int .i64 (at_ : Int)), (6, .slice A3 n4 c5), (7, .int .i64 ((wholeP (b.drop at_) : Nat) : Int))]) ⟨rfl, rfl, rfl, rfl, rfl, trivial⟩ ?_
  refine w_seq ?_
  refine w_seq ?_
  refine w_region ?_
  refine rw_val (v := .int .i64 ((wholeP (b.drop at_) : Nat) : Int)) (w' := w6) rfl rfl rfl rfl rfl ?_
  refine rw_val (v := .bool (((wholeP (b.drop at_) : Nat) : Int) == 0)) (w' := w6) rfl rfl rfl rfl (by simp [go_sem, sEv, sLook, nbeq, i64_w, -List.length_flatten]) ?_
  refine rw_end ?_
  refine w_cond rfl rfl (fun cZ => ?_) (fun cZ => ?_)
  · refine w_seq ?_
    refine w_region ?_
    refine rw_val (v := .slice A4 out.length c4) (w' := w6) rfl rfl rfl rfl rfl ?_
    refine rw_val (v := .int .i64 (at_ : Int)) (w' := w6) rfl rfl rfl rfl rfl ?_
    refine rw_val (v := .slice A4 out.length c4) (w' := w6) rfl rfl rfl rfl rfl ?_
    refine rw_val (v := .int .i64 (at_ : Int)) (w' := w6) rfl rfl rfl rfl rfl ?_
    refine rw_end ?_
    refine w_weaken (G' := [(0, .slice A0 b.length c0), (2, .slice A4 out.length c4), (3, .int .i64 (at_ : Int)), (4, .slice A4 out.length c4), (5, .int .i64 (at_ : Int)), (6, .slice A3 n4 c5), (7, .int .i64 ((wholeP (b.drop at_) : Nat) : Int))]) ⟨rfl, rfl, rfl, rfl, rfl, rfl, rfl, trivial⟩ ?_
    have cZ_ : (wholeP (b.drop at_)) = 0 := by simpa using cZ
    refine w_ret (post_ret2 rfl rfl rfl ?_)
    exact ⟨_, _, _, _, rfl, by simpa using hS_ _ _ (SplitR.none _ cZ_), Kd.S_below hR4 hB8, (chain hBw_ hB8)⟩
  · refine w_skip ?_
    refine w_seq ?_
    refine w_region ?_
    refine rw_val (v := .slice A4 out.length c4) (w' := w6) rfl rfl rfl rfl rfl ?_
    refine rw_val (v := .slice A3 n4 c5) (w' := w6) rfl rfl rfl rfl rfl ?_
    have cZ_ : (wholeP (b.drop at_)) ≠ 0 := by simpa using cZ
    refine rw_new (cs := #[.slice A3 n4 c5]) (t := 32) (fun g => .slice (some ⟨g, 0, none⟩) 1 1) rfl rfl rfl rfl (by kernel_rfl) ?_
    intro g10 w11 hg15 hz14 hb12 hk13
    have hs_w11 := hb12.size
    have hout_ : out.length ≤ at_ := by omega
    have hSb_ := Kd.S_below (Kd.S_mono (Kd.S_bound hR4) (fun q hq => (⟨hq.1, hq.2.2.1⟩ : w.heap.size ≤ q ∧ q < w_.heap.size))) (chain hB8 hb12)
    refine rw_append_oneS .u8 5 w.heap.size rfl rfl rfl (.tmp 19) (.tmp 21) rfl rfl 22 32 24 rfl (by kernel_rfl) info22S (by decide) rfl rfl hSb_ (fun q hq => hq.1) hk13 (hL9.on hb12) (fun q hq => ⟨by omega, fun h => by have := h.2; omega⟩) (chain (chain hBw_ hB8) hb12) (by omega) (by omega) ?_
    intro A16 c17 w18 hR19 hB20 hG21
    have hs_w18 := hB20.size
    have hgs_w18 := hG21.size
    refine rw_val (v := .slice A16 ((out ++ [(UN (b.drop at_))]).length) c17) (w' := w18) rfl rfl rfl rfl rfl ?_
    refine rw_end ?_
    refine w_weaken (G' := [(0, .slice A0 b.length c0), (4, .slice A16 ((out ++ [(UN (b.drop at_))]).length) c17), (5, .int .i64 (at_ : Int)), (7, .int .i64 ((wholeP (b.drop at_) : Nat) : Int))]) ⟨rfl, rfl, rfl, rfl, trivial⟩ ?_
    refine w_region ?_
    refine rw_val (v := .int .i64 (at_ : Int)) (w' := w18) rfl rfl rfl rfl rfl ?_
    refine rw_val (v := .int .i64 ((wholeP (b.drop at_) : Nat) : Int)) (w' := w18) rfl rfl rfl rfl rfl ?_
    refine rw_val (v := .int .i64 ((at_ + wholeP (b.drop at_) : Nat) : Int)) (w' := w18) rfl rfl rfl rfl (by simp [go_sem, sEv, sLook, nbeq, i64_w, -List.length_flatten]; exact wrap_id (by omega) (by omega)) ?_
    refine rw_val (v := .int .i64 ((at_ + wholeP (b.drop at_) : Nat) : Int)) (w' := w18) rfl rfl rfl rfl rfl ?_
    refine rw_end ?_
    refine w_weaken (G' := [(0, .slice A0 b.length c0), (4, .slice A16 ((out ++ [(UN (b.drop at_))]).length) c17), (5, .int .i64 ((at_ + wholeP (b.drop at_) : Nat) : Int))]) ⟨rfl, rfl, rfl, trivial⟩ ?_
    refine w_blk ?_
    have e1_ : (b.drop at_).drop (wholeP (b.drop at_)) = b.drop (at_ + wholeP (b.drop at_)) := by rw [List.drop_drop]
    have e2_ : ((b.drop at_).take (wholeP (b.drop at_))).drop 8 = UN (b.drop at_) := by unfold UN; rw [if_neg cZ_]
    exact w_back (m_ - (wholeP (b.drop at_))) [(0, .slice A0 b.length c0), (4, .slice A16 (out ++ [(UN (b.drop at_))]).length c17), (5, .int .i64 ((at_ + wholeP (b.drop at_) : Nat) : Int))] (by omega) ⟨rfl, rfl, rfl, trivial⟩ ⟨(at_ + wholeP (b.drop at_)), out ++ [(UN (b.drop at_))], _, _, by omega, by simp only [List.length_append, List.length_singleton]; omega, hB20, (Kd.S_below hR19 (Below.refl _ _)), fun l n h => by have h2_ := hS_ _ _ (SplitR.some _ l n (by omega) (by rw [e1_]; exact h)); rw [e2_] at h2_; simpa [Nat.add_assoc] using h2_, rfl⟩
end Go.Proofs.Ytiiljpaedelhlaa.PDiaryPlays
end
section
namespace Go.Proofs.Ytiiljpaedelhlaa.Tp
open Go.RowKit Go.Proofs.YtiiljpaedelhlaaW.PrintWords Go.Proofs.YtiiljpaedelhlaaW.PrintLast Go.Proofs.YtiiljpaedelhlaaW.PrintMore
open Go.Proofs.Ytiiljpaedelhlaa.Flow
open Go.Proofs.Ytiiljpaedelhlaa.PDiaryPlays (SplitR Bytes frameB frameE FC wholeP errW wrap_calls frameB_len frameB_bytes wholeP_le split_callsS)
set_option linter.unusedVariables false
set_option linter.unusedSimpArgs false
def HZ (x : Nat → Prop) (lo hi : Nat) : Nat → Prop := fun q => x q ∨ (lo ≤ q ∧ q < hi)
theorem splitR_bound {b : List Int} {l : List (List Int)} {n : Nat} (h : SplitR b l n) : n ≤ b.length ∧ l.length ≤ b.length := by
  induction h with
  | none => simp
  | some b l n h0 _ ih =>
    have h1 := wholeP_le b
    rw [List.length_drop] at ih
    rw [List.length_cons]
    omega
set_option maxHeartbeats 4000000 in
theorem open_S (w0 w : World) (g m : Nat) (x : Nat → Prop) (hx : ∀ q, x q → q < w.heap.size) (s : TS) (hT : TapeAt w0 w g m x s) (hok : s.Ok) (hby : Bytes s.xs) :
    Calls Try.prog 11 #[.pointer (some ⟨g, 0, none⟩)] w fun e w' => w.heap.size ≤ w'.heap.size ∧ Kept w w' (fun k => k = g) ∧ ((s.dn = true ∧ e = .returned (.tuple #[.pointer none, .slice none 0 0, errT (some 5)]) ∧ ∃ m', TapeAt w0 w' g m' x s) ∨ (s.dn = false ∧ ∃ (out : List (List Int)) (n : Nat), SplitR s.xs out n ∧ ((∃ c, openE s n = some c ∧ e = .returned (.tuple #[.pointer none, .slice none 0 0, errT (some c)]) ∧ ∃ m', TapeAt w0 w' g m' x (openS s n)) ∨ (openE s n = none ∧ ∃ (gd m' z : Nat) (A : Option Addr) (c : Nat), e = .returned (.tuple #[.pointer (some ⟨gd, 0, none⟩), .slice A out.length c, errT none]) ∧ DiaryAt w0 w' g gd m' (HX gd (HZ x w.heap.size z)) ⟨openS s n, (out.length : Int), (n : Int)⟩ ∧ Kd.S (Kd.slice 5 (Kd.int .u8)) 32 w' w.heap.size (fun q => w.heap.size ≤ q ∧ q < z) (.slice A out.length c) out ∧ z ≤ gd)))) := by
  have hts_ := hT.size
  have hln_ := hok.len
  refine calls_flow Try.func11 rfl 38 rfl (Nat.le_of_ble_eq_true rfl) [(0, .pointer (some ⟨g, 0, none⟩))] ?_ ?_
  · intro t v h; exact args_look rfl t v h
  refine w_seq ?_
  refine w_region ?_
  refine rw_val (v := .pointer none) (w' := w) rfl rfl rfl rfl rfl ?_
  refine rw_val (v := .slice none 0 0) (w' := w) rfl rfl rfl rfl rfl ?_
  refine rw_val (v := .nilIface) (w' := w) rfl rfl rfl rfl rfl ?_
  refine rw_end ?_
  refine w_seq ?_
  refine w_seq ?_
  refine w_region ?_
  refine rw_val (v := .pointer (some ⟨g, 0, none⟩)) (w' := w) rfl rfl rfl rfl rfl ?_
  refine rw_call rfl rfl rfl rfl (f := 35) (args := #[.pointer (some ⟨g, 0, none⟩)]) (by simp [go_sem, sEv, sLook, nbeq, i64_w, -List.getD_eq_getElem?_getD]) (down_T w0 w g m x (fun q h_ => by have := hx q h_; omega) s hT hok) ?_
  rintro e_ w1 ⟨rfl, rfl⟩
  refine ⟨_, rfl, ?_⟩
  refine rw_end ?_
  refine w_cond rfl rfl (fun cD => ?_) (fun cD => ?_)
  · refine w_seq ?_
    refine w_region ?_
    refine rw_val (v := errT (some 5)) (w' := w) rfl rfl rfl rfl (by simp [go_sem, sEv, sLook, nbeq, i64_w, -List.getD_eq_getElem?_getD, errT]) ?_
    refine rw_val (v := .pointer none) (w' := w) rfl rfl rfl rfl rfl ?_
    refine rw_val (v := .slice none 0 0) (w' := w) rfl rfl rfl rfl rfl ?_
    refine rw_val (v := errT (some 5)) (w' := w) rfl rfl rfl rfl rfl ?_
    refine rw_end ?_
    refine w_weaken (G' := [(0, .pointer (some ⟨g, 0, none⟩)), (2, .pointer none), (3, .slice none 0 0), (4, errT (some 5))]) ⟨rfl, rfl, rfl, rfl, trivial⟩ ?_
    refine w_ret (post_ret3 rfl rfl rfl rfl ?_)
    exact ⟨by omega, (Kept.of_below (Below.refl _ _) (fun k => k = g)), .inl ⟨cD, rfl, m, hT⟩⟩
  · refine w_skip ?_
    refine w_seq ?_
    refine w_region ?_
    refine rw_val (v := .pointer (some ⟨g, 0, none⟩)) (w' := w) rfl rfl rfl rfl rfl ?_
    refine rw_call rfl rfl rfl rfl (f := 17) (args := #[.pointer (some ⟨g, 0, none⟩)]) (by simp [go_sem, sEv, sLook, nbeq, i64_w, -List.getD_eq_getElem?_getD]) (read_T w0 w g m x (fun q h_ => by have := hx q h_; omega) s hT hok) ?_
    rintro e_ w5 ⟨A2, n3, c4, rfl, hO6, hB7⟩
    refine ⟨_, rfl, ?_⟩
    have hl8 := Own.len hO6
    subst hl8
    have hs_w5 := hB7.size
    have hL9 : OwnK (Kd.int .u8) 5 w5 w.heap.size w.heap.size A2 s.xs.length c4 s.xs := OwnK.lower hO6 (by omega)
    refine rw_val (v := .slice A2 s.xs.length c4) (w' := w5) rfl rfl rfl rfl rfl ?_
    refine rw_end ?_
    refine w_seq ?_
    refine w_region ?_
    refine rw_val (v := .slice A2 s.xs.length c4) (w' := w5) rfl rfl rfl rfl rfl ?_
    refine rw_call rfl rfl rfl rfl (f := 36) (args := #[.slice A2 s.xs.length c4]) (by simp [go_sem, sEv, sLook, nbeq, i64_w, -List.getD_eq_getElem?_getD]) (split_callsS w5 A2 c4 s.xs (Kd.C_below (OwnK.C (d := (Kd.int .u8)) hL9) (Below.refl _ _)) (OwnK.cap (d := (Kd.int .u8)) hL9) hby (by omega)) ?_
    rintro e_ w14 ⟨out10, n11, A12, c13, rfl, hS15, ⟨f_, hR16⟩, hB17⟩
    refine ⟨_, rfl, ?_⟩
    have hs_w14 := hB17.size
    have hsp_ := splitR_bound hS15
    have hL18 : OwnK (Kd.tag f_ (Kd.slice 5 (Kd.int .u8))) 32 w14 w.heap.size w5.heap.size A12 out10.length c13 out10.zipIdx := OwnK.lower hR16 (by omega)
    refine rw_val (v := .tuple #[.slice A12 out10.length c13, .int .i64 ((n11 : Nat) : Int)]) (w' := w14) rfl rfl rfl rfl rfl ?_
    refine rw_val (v := .slice A12 out10.length c13) (w' := w14) rfl rfl rfl rfl (by simp [go_sem, sEv, sLook, nbeq, i64_w, -List.getD_eq_getElem?_getD]) ?_
    refine rw_val (v := .int .i64 ((n11 : Nat) : Int)) (w' := w14) rfl rfl rfl rfl (by simp [go_sem, sEv, sLook, nbeq, i64_w, -List.getD_eq_getElem?_getD]) ?_
    refine rw_val (v := .slice A12 out10.length c13) (w' := w14) rfl rfl rfl rfl rfl ?_
    refine rw_val (v := .int .i64 ((n11 : Nat) : Int)) (w' := w14) rfl rfl rfl rfl rfl ?_
    refine rw_end ?_
    refine w_weaken (G' := [(0, .pointer (some ⟨g, 0, none⟩)), (2, .pointer none), (3, .slice none 0 0), (4, .nilIface), (5, .slice A2 s.xs.length c4), (6, .slice A12 out10.length c13), (7, .int .i64 ((n11 : Nat) : Int))]) ⟨rfl, rfl, rfl, rfl, rfl, rfl, rfl, trivial⟩ ?_
    refine w_seq ?_
    refine w_seq ?_
    refine w_region ?_
    refine rw_val (v := .int .i64 ((n11 : Nat) : Int)) (w' := w14) rfl rfl rfl rfl rfl ?_
    refine rw_val (v := .slice A2 s.xs.length c4) (w' := w14) rfl rfl rfl rfl rfl ?_
    refine rw_val (v := .int .i64 ((s.xs.length : Nat) : Int)) (w' := w14) rfl rfl rfl rfl (by simp [go_sem, sEv, sLook, nbeq, i64_w, -List.getD_eq_getElem?_getD]) ?_
    refine rw_val (v := .bool (decide (((n11 : Nat) : Int) < ((s.xs.length : Nat) : Int)))) (w' := w14) rfl rfl rfl rfl (by simp [go_sem, sEv, sLook, nbeq, i64_w, -List.getD_eq_getElem?_getD]) ?_
    refine rw_end ?_
    refine w_weaken (G' := [(0, .pointer (some ⟨g, 0, none⟩)), (2, .pointer none), (3, .slice none 0 0), (4, .nilIface), (5, .slice A2 s.xs.length c4), (6, .slice A12 out10.length c13), (7, .int .i64 ((n11 : Nat) : Int)), (22, .bool (decide (((n11 : Nat) : Int) < ((s.xs.length : Nat) : Int))))]) ⟨rfl, rfl, rfl, rfl, rfl, rfl, rfl, rfl, trivial⟩ ?_
    refine w_cond rfl rfl (fun cL => ?_) (fun cL => ?_)
    · have l19 : (((n11 : Nat) : Int) < ((s.xs.length : Nat) : Int)) := of_decide_eq_true cL
      refine w_seq ?_
      refine w_region ?_
      refine rw_val (v := .pointer (some ⟨g, 0, none⟩)) (w' := w14) rfl rfl rfl rfl rfl ?_
      refine rw_val (v := .slice A2 s.xs.length c4) (w' := w14) rfl rfl rfl rfl rfl ?_
      refine rw_val (v := .int .i64 ((n11 : Nat) : Int)) (w' := w14) rfl rfl rfl rfl rfl ?_
      have hP20 : (Kd.int .u8).C w14 A2 (s.xs.take n11).length (s.xs.take n11) := Kd.C_take (Kd.C_below (OwnK.C (d := (Kd.int .u8)) hL9) hB17) (by omega)
      have hP20_ : (s.xs.take n11).length = n11 := by rw [List.length_take]; omega
      refine rw_val (v := .slice A2 ((s.xs.take n11).length) c4) (w' := w14) rfl rfl rfl rfl (by rw [hP20_]; exact run_as (sl_to (sz := 1) (e := 5) (by kernel_rfl) (fun _ => by kernel_rfl) n11 _ (by first | rfl | (simp; done) | omega) (by have q_ := OwnK.cap (d := (Kd.int .u8)) hL9; omega) _)) ?_
      refine rw_call rfl rfl rfl rfl (f := 37) (args := #[.pointer (some ⟨g, 0, none⟩), .slice A2 ((s.xs.take n11).length) c4]) (by simp [go_sem, sEv, sLook, nbeq, i64_w, -List.getD_eq_getElem?_getD]) (replace_T w0 w14 g m (HZ x w.heap.size w14.heap.size) (fun q h_ => Or.elim h_ (fun h_ => by have := hx q h_; omega) (fun h_ => by omega)) s (TapeAt.hole (TapeAt.on (TapeAt.on hT hB7) hB17) _ (fun q h1_ h2_ h3_ h4_ => Or.elim h4_ h3_ (fun h_ => by omega))) hok A2 (s.xs.take n11) c4 (fun W_ hk_ => Kd.C_take (ownK_kept (S := fun k => k = g) (OwnK.on (d := (Kd.int .u8)) hL9 hB17) (fun q hq h => by omega) W_ hk_) (by omega))) ?_
      rintro e_ w22 ⟨rfl, hT23, hs24, hx25, hq26⟩
      refine ⟨_, rfl, ?_⟩
      have hts_w22 := hT23.size
      have hO28 : OwnK (Kd.tag f_ (Kd.slice 5 (Kd.int .u8))) 32 w22 w.heap.size w5.heap.size A12 out10.length c13 out10.zipIdx := OwnK.step (d := (Kd.tag f_ (Kd.slice 5 (Kd.int .u8)))) hL18 (fun q hq_ hlt_ => hq26.2 q hlt_ (fun e_ => by omega))
      have hZ21 : (Kd.tag f_ (Kd.slice 5 (Kd.int .u8))).R 32 w22 w.heap.size (fun q => w.heap.size ≤ q ∧ q < w14.heap.size) (.slice A12 out10.length c13) out10.zipIdx := Kd.R_step (Kd.R_mono (Kd.R_bound hL18) (fun q h_ => ⟨by have h2_ := h_.1; omega, h_.2.2.1⟩)) (fun q hq_ hlt_ => hq26.2 q hlt_ (fun e_ => by have h2_ := hq_.1; omega))
      refine rw_val (v := errT (s.repE (s.xs.take n11))) (w' := w22) rfl rfl rfl rfl rfl ?_
      refine rw_end ?_
      refine w_weaken (G' := [(0, .pointer (some ⟨g, 0, none⟩)), (2, .pointer none), (3, .slice none 0 0), (4, .nilIface), (6, .slice A12 out10.length c13), (7, .int .i64 ((n11 : Nat) : Int)), (8, errT (s.repE (s.xs.take n11)))]) ⟨rfl, rfl, rfl, rfl, rfl, rfl, rfl, trivial⟩ ?_
      refine w_seq ?_
      refine w_region ?_
      refine rw_val (v := errT (s.repE (s.xs.take n11))) (w' := w22) rfl rfl rfl rfl rfl ?_
      refine rw_val (v := .bool ((s.repE (s.xs.take n11)).isSome)) (w' := w22) rfl rfl rfl rfl (run_as (guard_err_neq _ (s.repE (s.xs.take n11)) _)) ?_
      refine rw_end ?_
      refine w_cond rfl rfl (fun cE => ?_) (fun cE => ?_)
      · refine w_seq ?_
        refine w_region ?_
        refine rw_val (v := errT (s.repE (s.xs.take n11))) (w' := w22) rfl rfl rfl rfl rfl ?_
        refine rw_val (v := .pointer none) (w' := w22) rfl rfl rfl rfl rfl ?_
        refine rw_val (v := .slice none 0 0) (w' := w22) rfl rfl rfl rfl rfl ?_
        refine rw_val (v := errT (s.repE (s.xs.take n11))) (w' := w22) rfl rfl rfl rfl rfl ?_
        refine rw_end ?_
        refine w_weaken (G' := [(0, .pointer (some ⟨g, 0, none⟩)), (2, .pointer none), (3, .slice none 0 0), (4, errT (s.repE (s.xs.take n11))), (6, .slice A12 out10.length c13), (7, .int .i64 ((n11 : Nat) : Int))]) ⟨rfl, rfl, rfl, rfl, rfl, rfl, trivial⟩ ?_
        refine w_ret (post_ret3 rfl rfl rfl rfl ?_)
        have nd_ : ¬ s.dn = true := by rw [cD]; simp
        refine ⟨by omega, (Kept.then_ (Kept.of_below (chain hB7 hB17) (fun k => k = g)) hq26 (fun _ h => .inl h)), .inr ⟨cD, out10, n11, hS15, ?_⟩⟩
        have eE_ : openE s n11 = s.repE (s.xs.take n11) := by rw [openE, if_neg nd_, if_pos (by omega)]
        have eS_ : openS s n11 = s.rep (s.xs.take n11) := by rw [openS, if_neg nd_, if_pos (by omega)]
        rw [eE_, eS_]
        obtain ⟨c_, hc_⟩ := Option.isSome_iff_exists.1 cE
        exact .inl ⟨c_, hc_, by rw [← hc_], _, TapeAt.hole hT23 _ (fun q h1_ h2_ h3_ h4_ => h3_ (.inl h4_))⟩
      · refine w_skip ?_
        refine w_seq ?_
        refine w_region ?_
        refine rw_val (v := .pointer (some ⟨g, 0, none⟩)) (w' := w22) rfl rfl rfl rfl rfl ?_
        refine rw_val (v := .slice A12 out10.length c13) (w' := w22) rfl rfl rfl rfl rfl ?_
        refine rw_val (v := .int .i64 ((out10.length : Nat) : Int)) (w' := w22) rfl rfl rfl rfl (by simp [go_sem, sEv, sLook, nbeq, i64_w, -List.getD_eq_getElem?_getD]) ?_
        refine rw_val (v := .int .i64 ((n11 : Nat) : Int)) (w' := w22) rfl rfl rfl rfl rfl ?_
        refine rw_val (v := .agg #[.pointer (some ⟨g, 0, none⟩), .int .i64 ((out10.length : Nat) : Int), .int .i64 ((n11 : Nat) : Int)]) (w' := w22) rfl rfl rfl rfl (by kernel_rfl) ?_
        refine rw_new (cs := #[.pointer (some ⟨g, 0, none⟩), .int .i64 ((out10.length : Nat) : Int), .int .i64 ((n11 : Nat) : Int)]) (t := 80) (fun g => .pointer (some ⟨g, 0, none⟩)) rfl rfl rfl rfl (by simp [go_sem, sEv, sLook, nbeq, i64_w, -List.getD_eq_getElem?_getD]) ?_
        intro g29 w30 hg34 hz33 hb31 hk32
        have hs_w30 := hb31.size
        refine rw_val (v := .slice A12 out10.length c13) (w' := w30) rfl rfl rfl rfl rfl ?_
        refine rw_val (v := .pointer (some ⟨g29, 0, none⟩)) (w' := w30) rfl rfl rfl rfl rfl ?_
        refine rw_val (v := .slice A12 out10.length c13) (w' := w30) rfl rfl rfl rfl rfl ?_
        refine rw_val (v := .nilIface) (w' := w30) rfl rfl rfl rfl rfl ?_
        refine rw_end ?_
        refine w_weaken (G' := [(2, .pointer (some ⟨g29, 0, none⟩)), (3, .slice A12 out10.length c13), (4, .nilIface)]) ⟨rfl, rfl, rfl, trivial⟩ ?_
        refine w_ret (post_ret3 rfl rfl rfl rfl ?_)
        have nd_ : ¬ s.dn = true := by rw [cD]; simp
        refine ⟨by omega, (Kept.below (Kept.then_ (Kept.of_below (chain hB7 hB17) (fun k => k = g)) hq26 (fun _ h => .inl h)) hb31), .inr ⟨cD, out10, n11, hS15, ?_⟩⟩
        have eE_ : openE s n11 = s.repE (s.xs.take n11) := by rw [openE, if_neg nd_, if_pos (by omega)]
        have eS_ : openS s n11 = s.rep (s.xs.take n11) := by rw [openS, if_neg nd_, if_pos (by omega)]
        rw [eE_, eS_]
        have hT_ := TapeAt.holeX (TapeAt.on hT23 hb31) (gd := g29) (by omega)
        have hz_ := hT_.size
        refine .inr ⟨by simpa using cE, g29, _, w14.heap.size, A12, c13, rfl, ⟨hT_, hk32, by omega, by omega, .inl rfl⟩, ⟨f_, (Kd.R_below hZ21 hb31)⟩, by omega⟩
    · have l35 : ¬ (((n11 : Nat) : Int) < ((s.xs.length : Nat) : Int)) := of_decide_eq_false cL
      refine w_skip ?_
      refine w_seq ?_
      refine w_region ?_
      refine rw_val (v := .pointer (some ⟨g, 0, none⟩)) (w' := w14) rfl rfl rfl rfl rfl ?_
      refine rw_val (v := .slice A12 out10.length c13) (w' := w14) rfl rfl rfl rfl rfl ?_
      refine rw_val (v := .int .i64 ((out10.length : Nat) : Int)) (w' := w14) rfl rfl rfl rfl (by simp [go_sem, sEv, sLook, nbeq, i64_w, -List.getD_eq_getElem?_getD]) ?_
      refine rw_val (v := .int .i64 ((n11 : Nat) : Int)) (w' := w14) rfl rfl rfl rfl rfl ?_
      refine rw_val (v := .agg #[.pointer (some ⟨g, 0, none⟩), .int .i64 ((out10.length : Nat) : Int), .int .i64 ((n11 : Nat) : Int)]) (w' := w14) rfl rfl rfl rfl (by kernel_rfl) ?_
      refine rw_new (cs := #[.pointer (some ⟨g, 0, none⟩), .int .i64 ((out10.length : Nat) : Int), .int .i64 ((n11 : Nat) : Int)]) (t := 80) (fun g => .pointer (some ⟨g, 0, none⟩)) rfl rfl rfl rfl (by simp [go_sem, sEv, sLook, nbeq, i64_w, -List.getD_eq_getElem?_getD]) ?_
      intro g36 w37 hg41 hz40 hb38 hk39
      have hs_w37 := hb38.size
      refine rw_val (v := .slice A12 out10.length c13) (w' := w37) rfl rfl rfl rfl rfl ?_
      refine rw_val (v := .pointer (some ⟨g36, 0, none⟩)) (w' := w37) rfl rfl rfl rfl rfl ?_
      refine rw_val (v := .slice A12 out10.length c13) (w' := w37) rfl rfl rfl rfl rfl ?_
      refine rw_val (v := .nilIface) (w' := w37) rfl rfl rfl rfl rfl ?_
      refine rw_end ?_
      refine w_weaken (G' := [(2, .pointer (some ⟨g36, 0, none⟩)), (3, .slice A12 out10.length c13), (4, .nilIface)]) ⟨rfl, rfl, rfl, trivial⟩ ?_
      refine w_ret (post_ret3 rfl rfl rfl rfl ?_)
      have nd_ : ¬ s.dn = true := by rw [cD]; simp
      refine ⟨by omega, (Kept.of_below (chain (chain hB7 hB17) hb38) (fun k => k = g)), .inr ⟨cD, out10, n11, hS15, ?_⟩⟩
      have eE_ : openE s n11 = none := by rw [openE, if_neg nd_, if_neg (by omega)]
      have eS_ : openS s n11 = s := by rw [openS, if_neg nd_, if_neg (by omega)]
      rw [eE_, eS_]
      have hT_ := TapeAt.holeX (TapeAt.hole (TapeAt.on (TapeAt.on (TapeAt.on hT hB7) hB17) hb38) (HZ x w.heap.size w14.heap.size) (fun q h1_ h2_ h3_ h4_ => Or.elim h4_ h3_ (fun h_ => by omega))) (gd := g36) (by omega)
      have hz_ := hT_.size
      refine .inr ⟨rfl, g36, _, w14.heap.size, A12, c13, rfl, ⟨hT_, hk39, by omega, by omega, .inl rfl⟩, ⟨f_, (Kd.R_below (Kd.R_mono (Kd.R_bound hL18) (fun q h_ => ⟨by have h2_ := h_.1; omega, h_.2.2.1⟩)) hb38)⟩, by omega⟩
theorem open_D (w0 w : World) (g m : Nat) (x : Nat → Prop) (hx : ∀ q, x q → q < w.heap.size) (s : TS) (hT : TapeAt w0 w g m x s) (hok : s.Ok) (hby : Bytes s.xs) : Calls Try.prog 11 #[.pointer (some ⟨g, 0, none⟩)] w fun e w' => w.heap.size ≤ w'.heap.size ∧ Kept w w' (fun k => k = g) ∧ ((s.dn = true ∧ e = .returned (.tuple #[.pointer none, .slice none 0 0, errT (some 5)]) ∧ ∃ m', TapeAt w0 w' g m' x s) ∨ (s.dn = false ∧ ∃ (out : List (List Int)) (n : Nat), SplitR s.xs out n ∧ ((∃ c, openE s n = some c ∧ e = .returned (.tuple #[.pointer none, .slice none 0 0, errT (some c)]) ∧ ∃ m', TapeAt w0 w' g m' x (openS s n)) ∨ (openE s n = none ∧ ∃ (gd m' : Nat) (A : Option Addr) (c : Nat), e = .returned (.tuple #[.pointer (some ⟨gd, 0, none⟩), .slice A out.length c, errT none]) ∧ DiaryAt w0 w' g gd m' (HX gd x) ⟨openS s n, (out.length : Int), (n : Int)⟩ ∧ OwnK (Kd.slice 5 (Kd.int .u8)) 32 w' w.heap.size w.heap.size A out.length c out)))) := by
  refine (open_S w0 w g m x hx s hT hok hby).mono fun e w' h => ?_
  obtain ⟨h1, h2, h3 | ⟨h3, out, n, h4, h5 | ⟨h5, gd, m', z, A, c, h6, ⟨h7, h8⟩, h9, _⟩⟩⟩ := h
  · exact ⟨h1, h2, .inl h3⟩
  · exact ⟨h1, h2, .inr ⟨h3, out, n, h4, .inl h5⟩⟩
  · exact ⟨h1, h2, .inr ⟨h3, out, n, h4, .inr ⟨h5, gd, m', A, c, h6, ⟨TapeAt.hole h7 _ (fun q a b c d => c (d.imp id .inl)), h8.1, h8.2.1, h8.2.2.1, .inl rfl⟩, Kd.S_R (Kd.S_mono h9 (fun q hq => hq.1))⟩⟩⟩
end Go.Proofs.Ytiiljpaedelhlaa.Tp
end
section
namespace Go.Proofs.Ytiiljpaedelhlaa.Tp
open Go.RowKit Go.Proofs.YtiiljpaedelhlaaW.PrintWords Go.Proofs.YtiiljpaedelhlaaW.PrintLast Go.Proofs.YtiiljpaedelhlaaW.PrintMore
open Go.Proofs.Ytiiljpaedelhlaa.Flow
open Go.Proofs.Ytiiljpaedelhlaa.PDiaryPlays (SplitR Bytes frameB frameE FC wholeP frameB_len frameB_bytes ends split_frames)
set_option linter.unusedVariables false
set_option linter.unusedSimpArgs false
def pl (xs : List Int) (sure steps : Int) : TS := ⟨xs, sure, steps, false, 0, false, 0, false⟩
def FB (w : World) (g : Nat) (t : TypeId) (cs : Array Value) : Prop := ∃ q, w.heap[g]? = some (.cells cs t q)
theorem FB.C {k : IntKind} {w : World} {g : Nat} {t : TypeId} {cs : Array Value} {xs : List Int} (h : FB w g t cs) (hN : Nums k cs xs) (hm : xs.length ≤ 9223372036854775807) : (Kd.int k).C w (some ⟨g, 0, none⟩) xs.length xs := by
  obtain ⟨q, h⟩ := h
  refine ⟨rfl, hm, fun hn => ⟨_, rfl, fun j p hj => ⟨[.int k p], rfl, rfl, fun i u hu => ?_⟩⟩⟩
  obtain ⟨hl, hp⟩ := List.getElem?_eq_some_iff.1 hj
  have h2 := hN j hl
  rcases i with _ | i
  · have hu' : u = .int k p := by simpa using hu.symm
    subst hu'
    have e : (⟨g, 0, none⟩ : Addr).add (j * 1 + 0) = ⟨g, j, none⟩ := by rw [add_plain]; simp
    show w.cell? ((⟨g, 0, none⟩ : Addr).add (j * 1 + 0)) = _
    rw [e]
    have e2 : w.cell? ⟨g, j, none⟩ = cs[j]? := by simp [World.cell?, h]
    rw [e2, h2]
    simp [List.getD_eq_getElem?_getD, hj]
  · simp at hu
theorem conv_same {w : World} {g : Nat} {cs : Array Value} (hb : Blk w g 5 cs) (n c : Nat) : ∃ w', (convert 32 32 (.slice (some ⟨g, 0, none⟩) n c)).run Try.prog w = .ok (.slice (some ⟨g, 0, none⟩) n c) w' ∧ Keep g w w' ∧ FB w' g 5 cs := by
  have hb' : w.heap[g]? = some (.cells cs 5 (0, 0)) := hb
  have hsh : w.shape? g = some (5, cs.size) := by simp [World.shape?, hb']
  refine ⟨w.freeze ⟨g, cs.size, none⟩ 1, ?_, ?_, ?_⟩
  · simp [convert, run_underlying Try.underlying32, run_underlying Try.underlying5, markStringish, hsh, Result.andThen]
  · refine ⟨rfl, rfl, rfl, by simp [World.freeze], fun k hk => ?_⟩
    simp [World.freeze, Array.getElem?_modify, Ne.symm hk]
  · refine ⟨(cs.size, cs.size + 1), ?_⟩
    simp [World.freeze, Array.getElem?_modify, hb']
theorem TapeAt.far {w0 w w' : World} {g m q : Nat} {x : Nat → Prop} {s : TS} (h : TapeAt w0 w g m x s) (k : Keep q w w') (hq : m ≤ q) (hq0 : w0.heap.size ≤ q) : TapeAt w0 w' g m x s := by
  obtain ⟨h1, h2, h3, A, n, c, h4, h5⟩ := h
  exact ⟨k.below hq0 h1, h2, ⟨h3.1, by rw [k.size]; exact h3.2⟩, A, n, c, h4.keep k (by omega), BR.step h5 (fun z hz _ => k.block z (by have := hz.2.1; omega))⟩
def okB (s : TS) : Bool := decide (0 ≤ s.steps) && decide (s.steps ≤ 1000000000000000) && decide (0 ≤ s.pl) && decide (s.pl ≤ 9223372036854775807) && decide (0 ≤ s.fl) && decide (s.fl ≤ 9223372036854775807) && decide (0 ≤ s.sure) && decide (s.sure ≤ s.xs.length) && decide (s.xs.length ≤ 1048576)
theorem okB_ok {s : TS} (h : okB s = true) : s.Ok := by
  unfold okB at h
  simp only [Bool.and_eq_true, decide_eq_true_eq] at h
  obtain ⟨⟨⟨⟨⟨⟨⟨⟨h1, h2⟩, h3⟩, h4⟩, h5⟩, h6⟩, h7⟩, h8⟩, h9⟩ := h
  exact ⟨⟨h1, h2⟩, ⟨h3, h4⟩, ⟨h5, h6⟩, ⟨h7, h8⟩, h9⟩
theorem new_on {w w1 w2 : World} {g : Nat} (hb : Below w.heap.size w w1) (h : TapeAt w1 w2 g w2.heap.size (fun _ => False) TS.start) : TapeAt w w2 g w2.heap.size (fun _ => False) TS.start := by
  obtain ⟨h1, h2, h3, A, n, c, h4, h5⟩ := h
  have hs := hb.size
  exact ⟨chain hb h1, by omega, h3, A, n, c, h4, BR.lower h5 hs⟩
theorem FC_append (a b : List (List Int)) : FC (a ++ b) = FC a ++ FC b := by unfold FC; rw [List.map_append, List.flatten_append]
theorem FC_one (r : List Int) : FC [r] = frameB r := by unfold FC; simp
theorem FC_bytes {rows : List (List Int)} (h : ∀ r ∈ rows, Bytes r) : Bytes (FC rows) := by
  intro c hc
  unfold FC at hc
  obtain ⟨l, hl, hc⟩ := List.mem_flatten.1 hc
  obtain ⟨r, hr, rfl⟩ := List.mem_map.1 hl
  exact frameB_bytes r (h r hr) c hc
theorem ends_full (ps : List (List Int)) : ends ps ps.length = (FC ps).length := by unfold ends; rw [List.take_length]
theorem ends_le (ps : List (List Int)) (j : Nat) : ends ps j ≤ (FC ps).length := FC_take_le ps j
theorem split_FC {ps : List (List Int)} (h : ∀ p ∈ ps, p.length ≤ 16376) {l : List (List Int)} {n : Nat} (hS : SplitR (FC ps) l n) : l = ps ∧ n = (FC ps).length := by
  have h2 := split_frames ps h (FC ps).length l n (by rw [List.take_length]; exact hS)
  obtain ⟨wh, h3, h4, h5, h6, h7⟩ := h2
  have h8 : wh = ps.length := by
    rcases Nat.lt_or_ge wh ps.length with h9 | h9
    · have := h7 h9
      have := ends_le ps (wh + 1)
      omega
    · omega
  subst h8
  rw [List.take_length] at h4
  exact ⟨h4, by rw [h5, ends_full]⟩
theorem open_full (w0 w : World) (g m : Nat) (x : Nat → Prop) (hx : ∀ q, x q → q < w.heap.size) (s : TS) (hT : TapeAt w0 w g m x s) (hok : s.Ok) (rows : List (List Int)) (hxs : s.xs = FC rows) (hr : ∀ r ∈ rows, r.length ≤ 16376) (hb : ∀ r ∈ rows, Bytes r) (hdn : s.dn = false) :
    Calls Try.prog 11 #[.pointer (some ⟨g, 0, none⟩)] w fun e w' => ∃ (gd m' : Nat) (A : Option Addr) (c : Nat), e = .returned (.tuple #[.pointer (some ⟨gd, 0, none⟩), .slice A rows.length c, errT none]) ∧ DiaryAt w0 w' g gd m' (HX gd x) ⟨s, (rows.length : Int), ((FC rows).length : Int)⟩ ∧ OwnK (Kd.slice 5 (Kd.int .u8)) 32 w' w.heap.size w.heap.size A rows.length c rows ∧ w.heap.size ≤ w'.heap.size ∧ Kept w w' (fun k => k = g) := by
  refine (open_D w0 w g m x hx s hT hok (by rw [hxs]; exact FC_bytes hb)).mono fun e w' h => ?_
  obtain ⟨hs, hK, h | ⟨_, out, n, hS, h⟩⟩ := h
  · rw [hdn] at h; cases h.1
  · rw [hxs] at hS
    obtain ⟨rfl, rfl⟩ := split_FC hr hS
    have e1 : openE s (FC out).length = none := by rw [openE, hdn, hxs]; simp
    have e2 : openS s (FC out).length = s := by rw [openS, hdn, hxs]; simp
    rcases h with ⟨c, h1, _⟩ | ⟨_, gd, m', A, c, h2, h3, h4⟩
    · rw [e1] at h1; cases h1
    · rw [e2] at h3
      exact ⟨gd, m', A, c, h2, h3, h4, hs, hK⟩
end Go.Proofs.Ytiiljpaedelhlaa.Tp
namespace Go.Proofs.Ytiiljpaedelhlaa.Tp
open Go.RowKit Go.Proofs.YtiiljpaedelhlaaW.PrintWords Go.Proofs.YtiiljpaedelhlaaW.PrintLast Go.Proofs.YtiiljpaedelhlaaW.PrintMore
open Go.Proofs.Ytiiljpaedelhlaa.Flow
open Go.Proofs.Ytiiljpaedelhlaa.PDiaryPlays (SplitR Bytes frameB frameE FC wholeP frameB_len frameB_bytes ends split_frames whole_frame FC_cons frameB_parts)
set_option linter.unusedVariables false
set_option linter.unusedSimpArgs false
theorem frameE_no {row : List Int} (h : row.length ≤ 16376) : frameE row = none := by unfold frameE; rw [if_neg (by omega)]
theorem take_snoc (rows : List (List Int)) (j : Nat) (h : j < rows.length) : rows.take (j + 1) = rows.take j ++ [rows.getD j []] := by
  rw [List.take_succ_eq_append_getElem h, List.getD_eq_getElem?_getD, List.getElem?_eq_getElem h]
  rfl
theorem next_same (s : TS) : s.next.xs = s.xs ∧ s.next.sure = s.sure := by
  unfold TS.next
  split
  · exact ⟨rfl, rfl⟩
  · split
    · exact ⟨rfl, rfl⟩
    · split <;> exact ⟨rfl, rfl⟩
theorem bytes_app {a b : List Int} (ha : Bytes a) (hb : Bytes b) : Bytes (a ++ b) := fun c hc => (List.mem_append.1 hc).elim (ha c) (hb c)
def numT : Option Int → Int
  | none => 0
  | some n => n
theorem err_cases (s : TS) : s.err = none ∨ s.err = some 5 ∨ s.err = some 6 := by
  unfold TS.err
  split
  · exact .inr (.inl rfl)
  · split
    · exact .inr (.inl rfl)
    · split
      · exact .inr (.inr rfl)
      · exact .inl rfl
end Go.Proofs.Ytiiljpaedelhlaa.Tp
end
section
namespace Go.Proofs.Ytiiljpaedelhlaa.Tp
open Go.RowKit Go.Proofs.YtiiljpaedelhlaaW.PrintWords Go.Proofs.YtiiljpaedelhlaaW.PrintLast Go.Proofs.YtiiljpaedelhlaaW.PrintMore
open Go.Proofs.Ytiiljpaedelhlaa.Flow
set_option linter.unusedVariables false
set_option linter.unusedSimpArgs false
structure Grow (u : Nat) (w w' : World) : Prop where
  os : w'.os = w.os
  tape : w'.tape = w.tape
  output : w'.output = w.output
  size : w.heap.size ≤ w'.heap.size
  block : ∀ k, k < w.heap.size → k ≠ u → w'.heap[k]? = w.heap[k]?
theorem Grow.refl (u : Nat) (w : World) : Grow u w w := ⟨rfl, rfl, rfl, Nat.le_refl _, fun _ _ _ => rfl⟩
theorem Grow.trans {u : Nat} {w w' w'' : World} (h : Grow u w w') (k : Grow u w' w'') : Grow u w w'' := ⟨k.os.trans h.os, k.tape.trans h.tape, k.output.trans h.output, Nat.le_trans h.size k.size, fun i hi hn => (k.block i (Nat.lt_of_lt_of_le hi h.size) hn).trans (h.block i hi hn)⟩
theorem Grow.ofB {u : Nat} {w w' : World} (h : Below w.heap.size w w') : Grow u w w' := ⟨h.os, h.tape, h.output, h.size, fun k hk _ => h.block k hk⟩
theorem Grow.ofK {u : Nat} {w w' : World} (h : Keep u w w') : Grow u w w' := ⟨h.os, h.tape, h.output, by rw [h.size]; exact Nat.le_refl _, fun k _ hn => h.block k hn⟩
theorem Grow.below {u : Nat} {w0 w w' : World} (h : Grow u w w') (hu : w0.heap.size ≤ u) (hb : Below w0.heap.size w0 w) : Below w0.heap.size w0 w' := ⟨h.os.trans hb.os, h.tape.trans hb.tape, h.output.trans hb.output, Nat.le_trans hb.size h.size, fun k hk => (h.block k (Nat.lt_of_lt_of_le hk hb.size) (by omega)).trans (hb.block k hk)⟩
theorem Blk.grow {w w' : World} {g u t : Nat} {cs : Array Value} (h : Blk w g t cs) (k : Grow u w w') (hne : g ≠ u) : Blk w' g t cs := (k.block g h.lt hne).trans h
theorem rd_at (l : List Int) (i : Nat) (h : i < l.length) : rd l (i : Int) = l[i] := by
  unfold rd
  rw [List.getD_eq_getElem?_getD, show ((i : Int)).toNat = i by omega, List.getElem?_eq_getElem h]
  rfl
theorem strOfNums_app (xs ys : List Int) : strOfNums (xs ++ ys) = strOfNums xs ++ strOfNums ys := by
  apply ByteArray.ext
  simp [strOfNums]
theorem run_str_add {t : TypeId} (a b : List Int) (h : a.length + b.length ≤ 9223372036854775807) (w : World) : (binOp .add t (.string (strOfNums a)) (.string (strOfNums b))).run Try.prog w = .ok (.string (strOfNums (a ++ b))) w := by
  have h1 : (strOfNums a).size + (strOfNums b).size ≤ 9223372036854775807 := by rw [strOfNums_size, strOfNums_size]; exact h
  rw [strOfNums_app]
  simp [go_sem]
  omega
theorem str_extract (xs : List Int) (k : Nat) : (strOfNums xs).extract 0 k = strOfNums (xs.take k) := by
  apply ByteArray.ext
  simp [strOfNums, ByteArray.data_extract, List.map_take, List.extract_toArray, List.extract_eq_take_drop]
theorem str_to {t : TypeId} (hu : Try.prog.underlying t = some .string) (xs : List Int) (x : Int) (h0 : 0 ≤ x) (h1 : x ≤ xs.length) (w : World) : (Instr.sliceAt t (.string (strOfNums xs)) none (some (.int .i64 x)) none).run Try.prog w = .ok (.string (strOfNums (xs.take x.toNat))) w := by
  have h2 : x ≤ ((strOfNums xs).size : Int) := by rw [strOfNums_size]; exact h1
  rw [← str_extract]
  simp [go_sem, hu, h0, h2]
structure RS where
  S : List Int
  R : List Int
  st : Int
  a : Bool
  b : Bool
  l : Int
  u : Int
  d : Bool
structure RS.Ok (r : RS) : Prop where
  st : 0 ≤ r.st ∧ r.st ≤ 1000000000000000
  l : 0 ≤ r.l ∧ r.l ≤ 9223372036854775807
  u : 0 ≤ r.u ∧ r.u ≤ 9223372036854775807
  len : r.S.length + r.R.length ≤ 1048576
def rcells (r : RS) : Array Value := #[.string (strOfNums r.S), .string (strOfNums r.R), .int .i64 r.st, .bool r.a, .bool r.b, .int .i64 r.l, .int .i64 r.u, .bool r.d]
def RS.err (r : RS) : Int := if r.d then 5 else if r.a && (r.l == 0) then 5 else if r.b && (r.u == 0) then 6 else 0
def RS.next (r : RS) : RS :=
  if r.d then r else if r.a && (r.l == 0) then { r with d := true }
  else if r.b && (r.u == 0) then { r with l := duel r.a r.l, st := r.st + 1, b := false }
  else { r with l := duel r.a r.l, st := r.st + 1, u := duel r.b r.u }
def RS.appE (r : RS) (ys : List Int) : Int := if 1048576 < r.S.length + r.R.length + ys.length then 7 else r.err
def RS.app (r : RS) (ys : List Int) : RS := if 1048576 < r.S.length + r.R.length + ys.length then r else if r.err == 0 then { r.next with R := r.next.R ++ ys } else r.next
def RS.sync (r : RS) : RS := if r.err == 0 then { r.next with S := r.next.S ++ r.next.R, R := [] } else r.next
def RS.repE (r : RS) (ys : List Int) : Int := if 1048576 < ys.length then 7 else r.err
def RS.rep (r : RS) (ys : List Int) : RS := if 1048576 < ys.length then r else if r.err == 0 then { r.next with S := ys, R := [] } else r.next
def RS.cut (r : RS) : RS := if r.d then r else { r with R := [] }
def RS.left (r : RS) (k : Int) : Nat := min k.toNat r.R.length
def RS.crash (r : RS) (k : Int) : RS := { r with S := r.S ++ r.R.take (r.left k), R := [], a := false, b := false, d := false }
theorem RS.next_SR (r : RS) : r.next.S = r.S ∧ r.next.R = r.R := by
  unfold RS.next
  split
  · exact ⟨rfl, rfl⟩
  · split
    · exact ⟨rfl, rfl⟩
    · split <;> exact ⟨rfl, rfl⟩
theorem RS.next_ok {r : RS} (h : r.Ok) (h9 : r.st ≤ 999999999999999) : r.next.Ok := by
  obtain ⟨a, b, c, e⟩ := h
  have p1 := duel_ok r.a r.l b
  have p2 := duel_ok r.b r.u c
  unfold RS.next
  split <;> (try split) <;> (try split) <;> exact ⟨⟨by (try simp only); omega, by (try simp only); omega⟩, by first | exact b | exact p1, by first | exact c | exact p2, e⟩
structure Rel (s : TS) (r : RS) : Prop where
  S : r.S = s.xs.take s.sure.toNat
  R : r.R = s.xs.drop s.sure.toNat
  st : r.st = s.steps
  a : r.a = s.ps
  b : r.b = s.fs
  d : r.d = s.dn
  l : s.ps = true → r.l = s.pl
  u : s.fs = true → r.u = s.fl
theorem Rel.err {s : TS} {r : RS} (h : Rel s r) : r.err = numT s.err := by
  obtain ⟨hS, hR, h1, h2, h3, h4, h5, h6⟩ := h
  unfold RS.err TS.err
  rw [h2, h3, h4]
  cases hd : s.dn
  · cases hp : s.ps
    · cases hf : s.fs
      · rfl
      · rw [h6 hf]
        cases hz : (s.fl == 0) <;> simp [numT]
    · rw [h5 hp]
      cases hz : (s.pl == 0)
      · cases hf : s.fs
        · simp [numT]
        · rw [h6 hf]
          cases hz2 : (s.fl == 0) <;> simp [numT]
      · simp [numT]
  · simp [numT]
theorem Rel.next {s : TS} {r : RS} (h : Rel s r) : Rel s.next r.next := by
  obtain ⟨hS, hR, h1, h2, h3, h4, h5, h6⟩ := h
  have e1 := s.next_xs
  have e2 := s.next_sure
  have e3 := r.next_SR
  refine ⟨by rw [e3.1, e1, e2, hS], by rw [e3.2, e1, e2, hR], ?_, ?_, ?_, ?_, ?_, ?_⟩ <;> unfold RS.next TS.next <;> rw [h4, h2, h3] <;> cases hd : s.dn <;> cases hp : s.ps <;> cases hf : s.fs <;> simp only [Bool.false_and, Bool.true_and, if_true, if_false, Bool.false_eq_true, duel] <;> (try rw [h5 hp]) <;> (try rw [h6 hf]) <;> (try (split <;> (try split))) <;> simp_all
theorem Rel.app {s : TS} {r : RS} (h : Rel s r) (hok : s.Ok) (ys : List Int) : Rel (s.app ys) (r.app ys) ∧ r.appE ys = numT (s.appE ys) := by
  have hl : r.S.length + r.R.length = s.xs.length := by
    rw [h.S, h.R, ← List.length_append, List.take_append_drop]
  have he := h.err
  have hn := h.next
  have h0 := hok.sure
  unfold TS.app RS.app RS.appE TS.appE
  rw [hl]
  by_cases hc : 1048576 < s.xs.length + ys.length
  · simp only [if_pos hc]
    exact ⟨h, rfl⟩
  · simp only [if_neg hc]
    refine ⟨?_, he⟩
    cases hs : s.err with
    | some c =>
      have hc0 : ¬ (r.err == 0) = true := by
        rw [he, hs]
        unfold TS.err at hs
        split at hs
        · cases hs; decide
        · split at hs
          · cases hs; decide
          · split at hs
            · cases hs; decide
            · cases hs
      rw [if_neg hc0]
      exact hn
    | none =>
      have hc0 : (r.err == 0) = true := by rw [he, hs]; rfl
      rw [if_pos hc0]
      have e1 := s.next_xs
      have e2 := s.next_sure
      refine ⟨?_, ?_, hn.st, hn.a, hn.b, hn.d, hn.l, hn.u⟩
      · show r.next.S = (s.xs ++ ys).take s.next.sure.toNat
        rw [hn.S, e1, e2, List.take_append_of_le_length (by omega)]
      · show r.next.R ++ ys = (s.xs ++ ys).drop s.next.sure.toNat
        rw [hn.R, e1, e2, List.drop_append_of_le_length (by omega)]
theorem err_zero {s : TS} {r : RS} (h : Rel s r) : (r.err == 0) = s.err.isNone := by
  rw [h.err]
  unfold TS.err
  split
  · rfl
  · split
    · rfl
    · split <;> rfl
theorem Rel.sync {s : TS} {r : RS} (h : Rel s r) (hok : s.Ok) : Rel s.sync r.sync := by
  have hn := h.next
  have hz := err_zero h
  have e1 := s.next_xs
  have e2 := s.next_sure
  unfold TS.sync RS.sync
  rw [hz]
  cases hs : s.err with
  | some c => exact hn
  | none =>
    refine ⟨?_, ?_, hn.st, hn.a, hn.b, hn.d, hn.l, hn.u⟩
    · show r.next.S ++ r.next.R = s.next.xs.take (s.xs.length : Int).toNat
      rw [hn.S, hn.R, List.take_append_drop, e1]
      simp
    · show [] = s.next.xs.drop (s.xs.length : Int).toNat
      rw [e1]
      simp
theorem Rel.rep {s : TS} {r : RS} (h : Rel s r) (hok : s.Ok) (ys : List Int) : Rel (s.rep ys) (r.rep ys) ∧ r.repE ys = numT (s.repE ys) := by
  have hn := h.next
  have hz := err_zero h
  unfold TS.rep RS.rep RS.repE TS.repE
  by_cases hc : 1048576 < ys.length
  · simp only [if_pos hc]
    exact ⟨h, rfl⟩
  · simp only [if_neg hc]
    refine ⟨?_, h.err⟩
    rw [hz]
    cases hs : s.err with
    | some c => exact hn
    | none =>
      refine ⟨?_, ?_, hn.st, hn.a, hn.b, hn.d, hn.l, hn.u⟩
      · show ys = ys.take (ys.length : Int).toNat
        simp
      · show [] = ys.drop (ys.length : Int).toNat
        simp
theorem Rel.cut {s : TS} {r : RS} (h : Rel s r) (hok : s.Ok) : Rel s.cut r.cut := by
  unfold TS.cut RS.cut
  rw [h.d]
  by_cases hd : s.dn = true
  · rw [if_pos hd, if_pos hd]
    exact h
  · rw [if_neg hd, if_neg hd]
    have h0 := hok.sure
    refine ⟨?_, ?_, h.st, h.a, h.b, (by first | exact h.d | rfl), h.l, h.u⟩
    · show r.S = (s.xs.take s.sure.toNat).take s.sure.toNat
      rw [List.take_take, Nat.min_self, h.S]
    · show [] = (s.xs.take s.sure.toNat).drop s.sure.toNat
      rw [List.drop_take]
      simp
theorem Rel.crash {s : TS} {r : RS} (h : Rel s r) (hok : s.Ok) (k : Int) : Rel (s.crash k) (r.crash k) := by
  have h0 := hok.sure
  have e : (s.sure + s.left k).toNat = s.sure.toNat + r.left k := by
    have h1 : r.R.length = s.xs.length - s.sure.toNat := by rw [h.R, List.length_drop]
    unfold TS.left RS.left
    rw [h1]
    omega
  refine ⟨?_, ?_, h.st, rfl, rfl, rfl, (fun h2 => by cases h2), (fun h2 => by cases h2)⟩
  · show r.S ++ r.R.take (r.left k) = (s.xs.take (s.sure + s.left k).toNat).take (((s.xs.take (s.sure + s.left k).toNat).length : Nat) : Int).toNat
    rw [Int.toNat_natCast, List.take_length, e, h.S, h.R, List.take_add]
  · show [] = (s.xs.take (s.sure + s.left k).toNat).drop (((s.xs.take (s.sure + s.left k).toNat).length : Nat) : Int).toNat
    rw [Int.toNat_natCast, List.drop_length]
theorem RS.ok_of {s : TS} {r : RS} (h : Rel s r) (hok : s.Ok) (hl : 0 ≤ r.l ∧ r.l ≤ 9223372036854775807) (hu : 0 ≤ r.u ∧ r.u ≤ 9223372036854775807) : r.Ok :=
  ⟨by rw [h.st]; exact hok.steps, hl, hu, by rw [h.S, h.R, ← List.length_append, List.take_append_drop]; exact hok.len⟩
end Go.Proofs.Ytiiljpaedelhlaa.Tp
end
section
namespace Go.Proofs.Ytiiljpaedelhlaa.Tp
open Go.RowKit Go.Proofs.YtiiljpaedelhlaaW.PrintWords Go.Proofs.YtiiljpaedelhlaaW.PrintLast Go.Proofs.YtiiljpaedelhlaaW.PrintMore
open Go.Proofs.Ytiiljpaedelhlaa.Flow
set_option linter.unusedVariables false
set_option linter.unusedSimpArgs false
set_option maxHeartbeats 4000000 in
theorem rstep (w : World) (u : Nat) (r : RS) (hst : 0 ≤ r.st ∧ r.st ≤ 999999999999999) (hl : 0 ≤ r.l ∧ r.l ≤ 9223372036854775807) (hu_ : 0 ≤ r.u ∧ r.u ≤ 9223372036854775807) (hn : r.S.length + r.R.length ≤ 1048576) (hb : Blk w u 59 (rcells r)) :
    Calls Try.prog 55 #[.pointer (some ⟨u, 0, none⟩)] w fun e w' => e = .returned (.int .i64 r.err) ∧ Grow u w w' ∧ Blk w' u 59 (rcells r.next) := by
  refine calls_flow Try.func55 rfl 55 rfl (Nat.le_of_ble_eq_true rfl) [(0, .pointer (some ⟨u, 0, none⟩))] ?_ ?_
  · intro t v h; exact args_look rfl t v h
  refine w_seq ?_
  refine w_region ?_
  refine rw_val (v := .int .i64 0) (w' := w) rfl rfl rfl rfl rfl ?_
  refine rw_end ?_
  refine w_seq ?_
  refine w_seq ?_
  refine w_region ?_
  refine rw_val (v := .pointer (some ⟨u, 0, none⟩)) (w' := w) rfl rfl rfl rfl rfl ?_
  refine rw_val (v := .pointer (some ⟨u, 0, none⟩)) (w' := w) rfl rfl rfl rfl (by simp [go_sem, sEv, sLook, nbeq, i64_w, -List.getD_eq_getElem?_getD]) ?_
  refine rw_val (v := .pointer (some ⟨u, 7, none⟩)) (w' := w) rfl rfl rfl rfl (by simp [go_sem, sEv, sLook, nbeq, i64_w, -List.getD_eq_getElem?_getD, Try.underlying59]) ?_
  refine rw_val (v := .bool r.d) (w' := w) rfl rfl rfl rfl (by have eb_ := hb; have e0_ := eb_.cellv (i := 7) (v := (.bool r.d : Value)) rfl; simp [go_sem, sEv, sLook, nbeq, i64_w, -List.getD_eq_getElem?_getD, e0_]) ?_
  refine rw_end ?_
  refine w_weaken (G' := [(0, .pointer (some ⟨u, 0, none⟩)), (2, .int .i64 0), (6, .bool r.d)]) ⟨rfl, rfl, rfl, trivial⟩ ?_
  refine w_cond rfl rfl (fun cD => ?_) (fun cD => ?_)
  · refine w_seq ?_
    refine w_region ?_
    refine rw_val (v := .int .i64 5) (w' := w) rfl rfl rfl rfl rfl ?_
    refine rw_end ?_
    refine w_ret (post_ret1 rfl rfl ?_)
    have e1_ : r.err = 5 := by unfold RS.err; simp [cD]
    rw [e1_]
    have e2_ : r.next = (⟨r.S, r.R, r.st, r.a, r.b, r.l, r.u, r.d⟩ : RS) := by rw [RS.next, if_pos cD]
    rw [e2_]
    exact ⟨rfl, (Grow.refl _ _), hb⟩
  · refine w_skip ?_
    refine w_seq ?_
    refine w_seq ?_
    refine w_region ?_
    refine rw_val (v := .pointer (some ⟨u, 0, none⟩)) (w' := w) rfl rfl rfl rfl rfl ?_
    refine rw_val (v := .pointer (some ⟨u, 0, none⟩)) (w' := w) rfl rfl rfl rfl (by simp [go_sem, sEv, sLook, nbeq, i64_w, -List.getD_eq_getElem?_getD]) ?_
    refine rw_val (v := .pointer (some ⟨u, 3, none⟩)) (w' := w) rfl rfl rfl rfl (by simp [go_sem, sEv, sLook, nbeq, i64_w, -List.getD_eq_getElem?_getD, Try.underlying59]) ?_
    refine rw_val (v := .bool r.a) (w' := w) rfl rfl rfl rfl (by have eb_ := hb; have e0_ := eb_.cellv (i := 3) (v := (.bool r.a : Value)) rfl; simp [go_sem, sEv, sLook, nbeq, i64_w, -List.getD_eq_getElem?_getD, e0_]) ?_
    refine rw_end ?_
    refine w_weaken (G' := [(0, .pointer (some ⟨u, 0, none⟩)), (2, .int .i64 0), (10, .bool r.a)]) ⟨rfl, rfl, rfl, trivial⟩ ?_
    refine w_cond rfl rfl (fun cA => ?_) (fun cA => ?_)
    · refine w_seq ?_
      refine w_seq ?_
      refine w_region ?_
      refine rw_val (v := .pointer (some ⟨u, 0, none⟩)) (w' := w) rfl rfl rfl rfl rfl ?_
      refine rw_val (v := .pointer (some ⟨u, 0, none⟩)) (w' := w) rfl rfl rfl rfl (by simp [go_sem, sEv, sLook, nbeq, i64_w, -List.getD_eq_getElem?_getD]) ?_
      refine rw_val (v := .pointer (some ⟨u, 5, none⟩)) (w' := w) rfl rfl rfl rfl (by simp [go_sem, sEv, sLook, nbeq, i64_w, -List.getD_eq_getElem?_getD, Try.underlying59]) ?_
      refine rw_val (v := .int .i64 r.l) (w' := w) rfl rfl rfl rfl (by have eb_ := hb; have e0_ := eb_.cellv (i := 5) (v := (.int .i64 r.l : Value)) rfl; simp [go_sem, sEv, sLook, nbeq, i64_w, -List.getD_eq_getElem?_getD, e0_]) ?_
      refine rw_val (v := .bool (r.l == 0)) (w' := w) rfl rfl rfl rfl (by simp [go_sem, sEv, sLook, nbeq, i64_w, -List.getD_eq_getElem?_getD]) ?_
      refine rw_end ?_
      refine w_weaken (G' := [(0, .pointer (some ⟨u, 0, none⟩)), (2, .int .i64 0), (15, .bool (r.l == 0))]) ⟨rfl, rfl, rfl, trivial⟩ ?_
      refine w_cond rfl rfl (fun cL => ?_) (fun cL => ?_)
      · have l1 : r.l = 0 := by simpa using cL
        refine w_seq ?_
        refine w_region ?_
        refine rw_val (v := .pointer (some ⟨u, 0, none⟩)) (w' := w) rfl rfl rfl rfl rfl ?_
        refine rw_val (v := .pointer (some ⟨u, 0, none⟩)) (w' := w) rfl rfl rfl rfl (by simp [go_sem, sEv, sLook, nbeq, i64_w, -List.getD_eq_getElem?_getD]) ?_
        refine rw_val (v := .pointer (some ⟨u, 7, none⟩)) (w' := w) rfl rfl rfl rfl (by simp [go_sem, sEv, sLook, nbeq, i64_w, -List.getD_eq_getElem?_getD, Try.underlying59]) ?_
        have hb5 := hb
        refine rw_store (g := u) (i := 7) (l := [.bool true]) (cs' := #[.string (strOfNums r.S), .string (strOfNums r.R), .int .i64 r.st, .bool r.a, .bool r.b, .int .i64 r.l, .int .i64 r.u, .bool true]) rfl rfl rfl hb5 rfl (by have e0_ := hb5.cellv (i := 7) (v := (.bool r.d : Value)) rfl; have f0_ := hb5.frozen 7; simp [go_sem, sEv, sLook, nbeq, i64_w, -List.getD_eq_getElem?_getD, putCells, e0_, f0_]) ?_
        intro w2 hk3 hk4
        have hs_w2 := hk3.size
        refine rw_end ?_
        refine w_weaken (G' := [(0, .pointer (some ⟨u, 0, none⟩)), (2, .int .i64 0)]) ⟨rfl, rfl, trivial⟩ ?_
        refine w_seq ?_
        refine w_region ?_
        refine rw_val (v := .int .i64 5) (w' := w2) rfl rfl rfl rfl rfl ?_
        refine rw_end ?_
        refine w_ret (post_ret1 rfl rfl ?_)
        have e1_ : r.err = 5 := by unfold RS.err; simp [cD, cA, cL]
        rw [e1_]
        have e2_ : r.next = (⟨r.S, r.R, r.st, r.a, r.b, r.l, r.u, true⟩ : RS) := by rw [RS.next, if_neg (by simp [cD]), if_pos (by simp [cA, cL])]
        rw [e2_]
        exact ⟨rfl, (Grow.ofK hk3), hk4⟩
      · have l6 : ¬ r.l = 0 := by simpa using cL
        refine w_skip ?_
        refine w_region ?_
        refine rw_val (v := .pointer (some ⟨u, 0, none⟩)) (w' := w) rfl rfl rfl rfl rfl ?_
        refine rw_val (v := .pointer (some ⟨u, 0, none⟩)) (w' := w) rfl rfl rfl rfl rfl ?_
        refine rw_val (v := .pointer (some ⟨u, 0, none⟩)) (w' := w) rfl rfl rfl rfl (by simp [go_sem, sEv, sLook, nbeq, i64_w, -List.getD_eq_getElem?_getD]) ?_
        refine rw_val (v := .pointer (some ⟨u, 5, none⟩)) (w' := w) rfl rfl rfl rfl (by simp [go_sem, sEv, sLook, nbeq, i64_w, -List.getD_eq_getElem?_getD, Try.underlying59]) ?_
        refine rw_val (v := .int .i64 r.l) (w' := w) rfl rfl rfl rfl (by have eb_ := hb; have e0_ := eb_.cellv (i := 5) (v := (.int .i64 r.l : Value)) rfl; simp [go_sem, sEv, sLook, nbeq, i64_w, -List.getD_eq_getElem?_getD, e0_]) ?_
        refine rw_val (v := .int .i64 (r.l - 1)) (w' := w) rfl rfl rfl rfl (by simp [go_sem, sEv, sLook, nbeq, i64_w, -List.getD_eq_getElem?_getD]; exact wrap_id (by omega) (by omega)) ?_
        refine rw_val (v := .pointer (some ⟨u, 0, none⟩)) (w' := w) rfl rfl rfl rfl (by simp [go_sem, sEv, sLook, nbeq, i64_w, -List.getD_eq_getElem?_getD]) ?_
        refine rw_val (v := .pointer (some ⟨u, 5, none⟩)) (w' := w) rfl rfl rfl rfl (by simp [go_sem, sEv, sLook, nbeq, i64_w, -List.getD_eq_getElem?_getD, Try.underlying59]) ?_
        have hb10 := hb
        refine rw_store (g := u) (i := 5) (l := [.int .i64 (r.l - 1)]) (cs' := #[.string (strOfNums r.S), .string (strOfNums r.R), .int .i64 r.st, .bool r.a, .bool r.b, .int .i64 (r.l - 1), .int .i64 r.u, .bool r.d]) rfl rfl rfl hb10 rfl (by have e0_ := hb10.cellv (i := 5) (v := (.int .i64 r.l : Value)) rfl; have f0_ := hb10.frozen 5; simp [go_sem, sEv, sLook, nbeq, i64_w, -List.getD_eq_getElem?_getD, putCells, e0_, f0_]) ?_
        intro w7 hk8 hk9
        have hs_w7 := hk8.size
        refine rw_end ?_
        refine w_weaken (G' := [(0, .pointer (some ⟨u, 0, none⟩)), (2, .int .i64 0)]) ⟨rfl, rfl, trivial⟩ ?_
        refine w_seq ?_
        refine w_region ?_
        refine rw_val (v := .pointer (some ⟨u, 0, none⟩)) (w' := w7) rfl rfl rfl rfl rfl ?_
        refine rw_val (v := .pointer (some ⟨u, 0, none⟩)) (w' := w7) rfl rfl rfl rfl rfl ?_
        refine rw_val (v := .pointer (some ⟨u, 0, none⟩)) (w' := w7) rfl rfl rfl rfl (by simp [go_sem, sEv, sLook, nbeq, i64_w, -List.getD_eq_getElem?_getD]) ?_
        refine rw_val (v := .pointer (some ⟨u, 2, none⟩)) (w' := w7) rfl rfl rfl rfl (by simp [go_sem, sEv, sLook, nbeq, i64_w, -List.getD_eq_getElem?_getD, Try.underlying59]) ?_
        refine rw_val (v := .int .i64 r.st) (w' := w7) rfl rfl rfl rfl (by have eb_ := hk9; have e0_ := eb_.cellv (i := 2) (v := (.int .i64 r.st : Value)) rfl; simp [go_sem, sEv, sLook, nbeq, i64_w, -List.getD_eq_getElem?_getD, e0_]) ?_
        refine rw_val (v := .int .i64 (r.st + 1)) (w' := w7) rfl rfl rfl rfl (by simp [go_sem, sEv, sLook, nbeq, i64_w, -List.getD_eq_getElem?_getD]; exact wrap_id (by omega) (by omega)) ?_
        refine rw_val (v := .pointer (some ⟨u, 0, none⟩)) (w' := w7) rfl rfl rfl rfl (by simp [go_sem, sEv, sLook, nbeq, i64_w, -List.getD_eq_getElem?_getD]) ?_
        refine rw_val (v := .pointer (some ⟨u, 2, none⟩)) (w' := w7) rfl rfl rfl rfl (by simp [go_sem, sEv, sLook, nbeq, i64_w, -List.getD_eq_getElem?_getD, Try.underlying59]) ?_
        have hb14 := hk9
        refine rw_store (g := u) (i := 2) (l := [.int .i64 (r.st + 1)]) (cs' := #[.string (strOfNums r.S), .string (strOfNums r.R), .int .i64 (r.st + 1), .bool r.a, .bool r.b, .int .i64 (r.l - 1), .int .i64 r.u, .bool r.d]) rfl rfl rfl hb14 rfl (by have e0_ := hb14.cellv (i := 2) (v := (.int .i64 r.st : Value)) rfl; have f0_ := hb14.frozen 2; simp [go_sem, sEv, sLook, nbeq, i64_w, -List.getD_eq_getElem?_getD, putCells, e0_, f0_]) ?_
        intro w11 hk12 hk13
        have hs_w11 := hk12.size
        refine rw_end ?_
        refine w_weaken (G' := [(0, .pointer (some ⟨u, 0, none⟩)), (2, .int .i64 0)]) ⟨rfl, rfl, trivial⟩ ?_
        refine w_seq ?_
        refine w_seq ?_
        refine w_region ?_
        refine rw_val (v := .pointer (some ⟨u, 0, none⟩)) (w' := w11) rfl rfl rfl rfl rfl ?_
        refine rw_val (v := .pointer (some ⟨u, 0, none⟩)) (w' := w11) rfl rfl rfl rfl (by simp [go_sem, sEv, sLook, nbeq, i64_w, -List.getD_eq_getElem?_getD]) ?_
        refine rw_val (v := .pointer (some ⟨u, 4, none⟩)) (w' := w11) rfl rfl rfl rfl (by simp [go_sem, sEv, sLook, nbeq, i64_w, -List.getD_eq_getElem?_getD, Try.underlying59]) ?_
        refine rw_val (v := .bool r.b) (w' := w11) rfl rfl rfl rfl (by have eb_ := hk13; have e0_ := eb_.cellv (i := 4) (v := (.bool r.b : Value)) rfl; simp [go_sem, sEv, sLook, nbeq, i64_w, -List.getD_eq_getElem?_getD, e0_]) ?_
        refine rw_end ?_
        refine w_weaken (G' := [(0, .pointer (some ⟨u, 0, none⟩)), (2, .int .i64 0), (38, .bool r.b)]) ⟨rfl, rfl, rfl, trivial⟩ ?_
        refine w_cond rfl rfl (fun cB => ?_) (fun cB => ?_)
        · refine w_seq ?_
          refine w_seq ?_
          refine w_region ?_
          refine rw_val (v := .pointer (some ⟨u, 0, none⟩)) (w' := w11) rfl rfl rfl rfl rfl ?_
          refine rw_val (v := .pointer (some ⟨u, 0, none⟩)) (w' := w11) rfl rfl rfl rfl (by simp [go_sem, sEv, sLook, nbeq, i64_w, -List.getD_eq_getElem?_getD]) ?_
          refine rw_val (v := .pointer (some ⟨u, 6, none⟩)) (w' := w11) rfl rfl rfl rfl (by simp [go_sem, sEv, sLook, nbeq, i64_w, -List.getD_eq_getElem?_getD, Try.underlying59]) ?_
          refine rw_val (v := .int .i64 r.u) (w' := w11) rfl rfl rfl rfl (by have eb_ := hk13; have e0_ := eb_.cellv (i := 6) (v := (.int .i64 r.u : Value)) rfl; simp [go_sem, sEv, sLook, nbeq, i64_w, -List.getD_eq_getElem?_getD, e0_]) ?_
          refine rw_val (v := .bool (r.u == 0)) (w' := w11) rfl rfl rfl rfl (by simp [go_sem, sEv, sLook, nbeq, i64_w, -List.getD_eq_getElem?_getD]) ?_
          refine rw_end ?_
          refine w_weaken (G' := [(0, .pointer (some ⟨u, 0, none⟩)), (2, .int .i64 0), (43, .bool (r.u == 0))]) ⟨rfl, rfl, rfl, trivial⟩ ?_
          refine w_cond rfl rfl (fun cU => ?_) (fun cU => ?_)
          · have l15 : r.u = 0 := by simpa using cU
            refine w_seq ?_
            refine w_region ?_
            refine rw_val (v := .pointer (some ⟨u, 0, none⟩)) (w' := w11) rfl rfl rfl rfl rfl ?_
            refine rw_val (v := .pointer (some ⟨u, 0, none⟩)) (w' := w11) rfl rfl rfl rfl (by simp [go_sem, sEv, sLook, nbeq, i64_w, -List.getD_eq_getElem?_getD]) ?_
            refine rw_val (v := .pointer (some ⟨u, 4, none⟩)) (w' := w11) rfl rfl rfl rfl (by simp [go_sem, sEv, sLook, nbeq, i64_w, -List.getD_eq_getElem?_getD, Try.underlying59]) ?_
            have hb19 := hk13
            refine rw_store (g := u) (i := 4) (l := [.bool false]) (cs' := #[.string (strOfNums r.S), .string (strOfNums r.R), .int .i64 (r.st + 1), .bool r.a, .bool false, .int .i64 (r.l - 1), .int .i64 r.u, .bool r.d]) rfl rfl rfl hb19 rfl (by have e0_ := hb19.cellv (i := 4) (v := (.bool r.b : Value)) rfl; have f0_ := hb19.frozen 4; simp [go_sem, sEv, sLook, nbeq, i64_w, -List.getD_eq_getElem?_getD, putCells, e0_, f0_]) ?_
            intro w16 hk17 hk18
            have hs_w16 := hk17.size
            refine rw_end ?_
            refine w_weaken (G' := [(0, .pointer (some ⟨u, 0, none⟩)), (2, .int .i64 0)]) ⟨rfl, rfl, trivial⟩ ?_
            refine w_seq ?_
            refine w_region ?_
            refine rw_val (v := .int .i64 6) (w' := w16) rfl rfl rfl rfl rfl ?_
            refine rw_end ?_
            refine w_ret (post_ret1 rfl rfl ?_)
            have e1_ : r.err = 6 := by unfold RS.err; simp [cD, cA, cL, cB, cU]
            rw [e1_]
            have e2_ : r.next = (⟨r.S, r.R, (r.st + 1), r.a, false, (r.l - 1), r.u, r.d⟩ : RS) := by have d1_ : duel r.a r.l = (r.l - 1) := (by unfold duel; simp [cA, cL]); rw [RS.next, if_neg (by simp [cD]), if_neg (by simp [cA, cL]), if_pos (by simp [cB, cU]), d1_]
            rw [e2_]
            exact ⟨rfl, (((Grow.ofK hk8).trans (Grow.ofK hk12)).trans (Grow.ofK hk17)), hk18⟩
          · have l20 : ¬ r.u = 0 := by simpa using cU
            refine w_skip ?_
            refine w_region ?_
            refine rw_val (v := .pointer (some ⟨u, 0, none⟩)) (w' := w11) rfl rfl rfl rfl rfl ?_
            refine rw_val (v := .pointer (some ⟨u, 0, none⟩)) (w' := w11) rfl rfl rfl rfl rfl ?_
            refine rw_val (v := .pointer (some ⟨u, 0, none⟩)) (w' := w11) rfl rfl rfl rfl (by simp [go_sem, sEv, sLook, nbeq, i64_w, -List.getD_eq_getElem?_getD]) ?_
            refine rw_val (v := .pointer (some ⟨u, 6, none⟩)) (w' := w11) rfl rfl rfl rfl (by simp [go_sem, sEv, sLook, nbeq, i64_w, -List.getD_eq_getElem?_getD, Try.underlying59]) ?_
            refine rw_val (v := .int .i64 r.u) (w' := w11) rfl rfl rfl rfl (by have eb_ := hk13; have e0_ := eb_.cellv (i := 6) (v := (.int .i64 r.u : Value)) rfl; simp [go_sem, sEv, sLook, nbeq, i64_w, -List.getD_eq_getElem?_getD, e0_]) ?_
            refine rw_val (v := .int .i64 (r.u - 1)) (w' := w11) rfl rfl rfl rfl (by simp [go_sem, sEv, sLook, nbeq, i64_w, -List.getD_eq_getElem?_getD]; exact wrap_id (by omega) (by omega)) ?_
            refine rw_val (v := .pointer (some ⟨u, 0, none⟩)) (w' := w11) rfl rfl rfl rfl (by simp [go_sem, sEv, sLook, nbeq, i64_w, -List.getD_eq_getElem?_getD]) ?_
            refine rw_val (v := .pointer (some ⟨u, 6, none⟩)) (w' := w11) rfl rfl rfl rfl (by simp [go_sem, sEv, sLook, nbeq, i64_w, -List.getD_eq_getElem?_getD, Try.underlying59]) ?_
            have hb24 := hk13
            refine rw_store (g := u) (i := 6) (l := [.int .i64 (r.u - 1)]) (cs' := #[.string (strOfNums r.S), .string (strOfNums r.R), .int .i64 (r.st + 1), .bool r.a, .bool r.b, .int .i64 (r.l - 1), .int .i64 (r.u - 1), .bool r.d]) rfl rfl rfl hb24 rfl (by have e0_ := hb24.cellv (i := 6) (v := (.int .i64 r.u : Value)) rfl; have f0_ := hb24.frozen 6; simp [go_sem, sEv, sLook, nbeq, i64_w, -List.getD_eq_getElem?_getD, putCells, e0_, f0_]) ?_
            intro w21 hk22 hk23
            have hs_w21 := hk22.size
            refine rw_end ?_
            refine w_weaken (G' := [(2, .int .i64 0)]) ⟨rfl, trivial⟩ ?_
            refine w_seq ?_
            refine w_region ?_
            refine rw_val (v := .int .i64 0) (w' := w21) rfl rfl rfl rfl rfl ?_
            refine rw_end ?_
            refine w_ret (post_ret1 rfl rfl ?_)
            have e1_ : r.err = 0 := by unfold RS.err; simp [cD, cA, cL, cB, cU]
            rw [e1_]
            have e2_ : r.next = (⟨r.S, r.R, (r.st + 1), r.a, r.b, (r.l - 1), (r.u - 1), r.d⟩ : RS) := by have d1_ : duel r.a r.l = (r.l - 1) := (by unfold duel; simp [cA, cL]); have d2_ : duel r.b r.u = (r.u - 1) := (by unfold duel; simp [cB, cU]); rw [RS.next, if_neg (by simp [cD]), if_neg (by simp [cA, cL]), if_neg (by simp [cB, cU]), d1_, d2_]
            rw [e2_]
            exact ⟨rfl, (((Grow.ofK hk8).trans (Grow.ofK hk12)).trans (Grow.ofK hk22)), hk23⟩
        · refine w_skip ?_
          refine w_seq ?_
          refine w_region ?_
          refine rw_val (v := .int .i64 0) (w' := w11) rfl rfl rfl rfl rfl ?_
          refine rw_end ?_
          refine w_ret (post_ret1 rfl rfl ?_)
          have e1_ : r.err = 0 := by unfold RS.err; simp [cD, cA, cL, cB]
          rw [e1_]
          have e2_ : r.next = (⟨r.S, r.R, (r.st + 1), r.a, r.b, (r.l - 1), r.u, r.d⟩ : RS) := by have d1_ : duel r.a r.l = (r.l - 1) := (by unfold duel; simp [cA, cL]); have d2_ : duel r.b r.u = r.u := (by unfold duel; simp [cB]); rw [RS.next, if_neg (by simp [cD]), if_neg (by simp [cA, cL]), if_neg (by simp [cB]), d1_, d2_]
          rw [e2_]
          exact ⟨rfl, ((Grow.ofK hk8).trans (Grow.ofK hk12)), hk13⟩
    · refine w_skip ?_
      refine w_seq ?_
      refine w_region ?_
      refine rw_val (v := .pointer (some ⟨u, 0, none⟩)) (w' := w) rfl rfl rfl rfl rfl ?_
      refine rw_val (v := .pointer (some ⟨u, 0, none⟩)) (w' := w) rfl rfl rfl rfl rfl ?_
      refine rw_val (v := .pointer (some ⟨u, 0, none⟩)) (w' := w) rfl rfl rfl rfl (by simp [go_sem, sEv, sLook, nbeq, i64_w, -List.getD_eq_getElem?_getD]) ?_
      refine rw_val (v := .pointer (some ⟨u, 2, none⟩)) (w' := w) rfl rfl rfl rfl (by simp [go_sem, sEv, sLook, nbeq, i64_w, -List.getD_eq_getElem?_getD, Try.underlying59]) ?_
      refine rw_val (v := .int .i64 r.st) (w' := w) rfl rfl rfl rfl (by have eb_ := hb; have e0_ := eb_.cellv (i := 2) (v := (.int .i64 r.st : Value)) rfl; simp [go_sem, sEv, sLook, nbeq, i64_w, -List.getD_eq_getElem?_getD, e0_]) ?_
      refine rw_val (v := .int .i64 (r.st + 1)) (w' := w) rfl rfl rfl rfl (by simp [go_sem, sEv, sLook, nbeq, i64_w, -List.getD_eq_getElem?_getD]; exact wrap_id (by omega) (by omega)) ?_
      refine rw_val (v := .pointer (some ⟨u, 0, none⟩)) (w' := w) rfl rfl rfl rfl (by simp [go_sem, sEv, sLook, nbeq, i64_w, -List.getD_eq_getElem?_getD]) ?_
      refine rw_val (v := .pointer (some ⟨u, 2, none⟩)) (w' := w) rfl rfl rfl rfl (by simp [go_sem, sEv, sLook, nbeq, i64_w, -List.getD_eq_getElem?_getD, Try.underlying59]) ?_
      have hb28 := hb
      refine rw_store (g := u) (i := 2) (l := [.int .i64 (r.st + 1)]) (cs' := #[.string (strOfNums r.S), .string (strOfNums r.R), .int .i64 (r.st + 1), .bool r.a, .bool r.b, .int .i64 r.l, .int .i64 r.u, .bool r.d]) rfl rfl rfl hb28 rfl (by have e0_ := hb28.cellv (i := 2) (v := (.int .i64 r.st : Value)) rfl; have f0_ := hb28.frozen 2; simp [go_sem, sEv, sLook, nbeq, i64_w, -List.getD_eq_getElem?_getD, putCells, e0_, f0_]) ?_
      intro w25 hk26 hk27
      have hs_w25 := hk26.size
      refine rw_end ?_
      refine w_weaken (G' := [(0, .pointer (some ⟨u, 0, none⟩)), (2, .int .i64 0)]) ⟨rfl, rfl, trivial⟩ ?_
      refine w_seq ?_
      refine w_seq ?_
      refine w_region ?_
      refine rw_val (v := .pointer (some ⟨u, 0, none⟩)) (w' := w25) rfl rfl rfl rfl rfl ?_
      refine rw_val (v := .pointer (some ⟨u, 0, none⟩)) (w' := w25) rfl rfl rfl rfl (by simp [go_sem, sEv, sLook, nbeq, i64_w, -List.getD_eq_getElem?_getD]) ?_
      refine rw_val (v := .pointer (some ⟨u, 4, none⟩)) (w' := w25) rfl rfl rfl rfl (by simp [go_sem, sEv, sLook, nbeq, i64_w, -List.getD_eq_getElem?_getD, Try.underlying59]) ?_
      refine rw_val (v := .bool r.b) (w' := w25) rfl rfl rfl rfl (by have eb_ := hk27; have e0_ := eb_.cellv (i := 4) (v := (.bool r.b : Value)) rfl; simp [go_sem, sEv, sLook, nbeq, i64_w, -List.getD_eq_getElem?_getD, e0_]) ?_
      refine rw_end ?_
      refine w_weaken (G' := [(0, .pointer (some ⟨u, 0, none⟩)), (2, .int .i64 0), (38, .bool r.b)]) ⟨rfl, rfl, rfl, trivial⟩ ?_
      refine w_cond rfl rfl (fun cB => ?_) (fun cB => ?_)
      · refine w_seq ?_
        refine w_seq ?_
        refine w_region ?_
        refine rw_val (v := .pointer (some ⟨u, 0, none⟩)) (w' := w25) rfl rfl rfl rfl rfl ?_
        refine rw_val (v := .pointer (some ⟨u, 0, none⟩)) (w' := w25) rfl rfl rfl rfl (by simp [go_sem, sEv, sLook, nbeq, i64_w, -List.getD_eq_getElem?_getD]) ?_
        refine rw_val (v := .pointer (some ⟨u, 6, none⟩)) (w' := w25) rfl rfl rfl rfl (by simp [go_sem, sEv, sLook, nbeq, i64_w, -List.getD_eq_getElem?_getD, Try.underlying59]) ?_
        refine rw_val (v := .int .i64 r.u) (w' := w25) rfl rfl rfl rfl (by have eb_ := hk27; have e0_ := eb_.cellv (i := 6) (v := (.int .i64 r.u : Value)) rfl; simp [go_sem, sEv, sLook, nbeq, i64_w, -List.getD_eq_getElem?_getD, e0_]) ?_
        refine rw_val (v := .bool (r.u == 0)) (w' := w25) rfl rfl rfl rfl (by simp [go_sem, sEv, sLook, nbeq, i64_w, -List.getD_eq_getElem?_getD]) ?_
        refine rw_end ?_
        refine w_weaken (G' := [(0, .pointer (some ⟨u, 0, none⟩)), (2, .int .i64 0), (43, .bool (r.u == 0))]) ⟨rfl, rfl, rfl, trivial⟩ ?_
        refine w_cond rfl rfl (fun cU => ?_) (fun cU => ?_)
        · have l29 : r.u = 0 := by simpa using cU
          refine w_seq ?_
          refine w_region ?_
          refine rw_val (v := .pointer (some ⟨u, 0, none⟩)) (w' := w25) rfl rfl rfl rfl rfl ?_
          refine rw_val (v := .pointer (some ⟨u, 0, none⟩)) (w' := w25) rfl rfl rfl rfl (by simp [go_sem, sEv, sLook, nbeq, i64_w, -List.getD_eq_getElem?_getD]) ?_
          refine rw_val (v := .pointer (some ⟨u, 4, none⟩)) (w' := w25) rfl rfl rfl rfl (by simp [go_sem, sEv, sLook, nbeq, i64_w, -List.getD_eq_getElem?_getD, Try.underlying59]) ?_
          have hb33 := hk27
          refine rw_store (g := u) (i := 4) (l := [.bool false]) (cs' := #[.string (strOfNums r.S), .string (strOfNums r.R), .int .i64 (r.st + 1), .bool r.a, .bool false, .int .i64 r.l, .int .i64 r.u, .bool r.d]) rfl rfl rfl hb33 rfl (by have e0_ := hb33.cellv (i := 4) (v := (.bool r.b : Value)) rfl; have f0_ := hb33.frozen 4; simp [go_sem, sEv, sLook, nbeq, i64_w, -List.getD_eq_getElem?_getD, putCells, e0_, f0_]) ?_
          intro w30 hk31 hk32
          have hs_w30 := hk31.size
          refine rw_end ?_
          refine w_weaken (G' := [(0, .pointer (some ⟨u, 0, none⟩)), (2, .int .i64 0)]) ⟨rfl, rfl, trivial⟩ ?_
          refine w_seq ?_
          refine w_region ?_
          refine rw_val (v := .int .i64 6) (w' := w30) rfl rfl rfl rfl rfl ?_
          refine rw_end ?_
          refine w_ret (post_ret1 rfl rfl ?_)
          have e1_ : r.err = 6 := by unfold RS.err; simp [cD, cA, cB, cU]
          rw [e1_]
          have e2_ : r.next = (⟨r.S, r.R, (r.st + 1), r.a, false, r.l, r.u, r.d⟩ : RS) := by have d1_ : duel r.a r.l = r.l := (by unfold duel; simp [cA]); rw [RS.next, if_neg (by simp [cD]), if_neg (by simp [cA]), if_pos (by simp [cB, cU]), d1_]
          rw [e2_]
          exact ⟨rfl, ((Grow.ofK hk26).trans (Grow.ofK hk31)), hk32⟩
        · have l34 : ¬ r.u = 0 := by simpa using cU
          refine w_skip ?_
          refine w_region ?_
          refine rw_val (v := .pointer (some ⟨u, 0, none⟩)) (w' := w25) rfl rfl rfl rfl rfl ?_
          refine rw_val (v := .pointer (some ⟨u, 0, none⟩)) (w' := w25) rfl rfl rfl rfl rfl ?_
          refine rw_val (v := .pointer (some ⟨u, 0, none⟩)) (w' := w25) rfl rfl rfl rfl (by simp [go_sem, sEv, sLook, nbeq, i64_w, -List.getD_eq_getElem?_getD]) ?_
          refine rw_val (v := .pointer (some ⟨u, 6, none⟩)) (w' := w25) rfl rfl rfl rfl (by simp [go_sem, sEv, sLook, nbeq, i64_w, -List.getD_eq_getElem?_getD, Try.underlying59]) ?_
          refine rw_val (v := .int .i64 r.u) (w' := w25) rfl rfl rfl rfl (by have eb_ := hk27; have e0_ := eb_.cellv (i := 6) (v := (.int .i64 r.u : Value)) rfl; simp [go_sem, sEv, sLook, nbeq, i64_w, -List.getD_eq_getElem?_getD, e0_]) ?_
          refine rw_val (v := .int .i64 (r.u - 1)) (w' := w25) rfl rfl rfl rfl (by simp [go_sem, sEv, sLook, nbeq, i64_w, -List.getD_eq_getElem?_getD]; exact wrap_id (by omega) (by omega)) ?_
          refine rw_val (v := .pointer (some ⟨u, 0, none⟩)) (w' := w25) rfl rfl rfl rfl (by simp [go_sem, sEv, sLook, nbeq, i64_w, -List.getD_eq_getElem?_getD]) ?_
          refine rw_val (v := .pointer (some ⟨u, 6, none⟩)) (w' := w25) rfl rfl rfl rfl (by simp [go_sem, sEv, sLook, nbeq, i64_w, -List.getD_eq_getElem?_getD, Try.underlying59]) ?_
          have hb38 := hk27
          refine rw_store (g := u) (i := 6) (l := [.int .i64 (r.u - 1)]) (cs' := #[.string (strOfNums r.S), .string (strOfNums r.R), .int .i64 (r.st + 1), .bool r.a, .bool r.b, .int .i64 r.l, .int .i64 (r.u - 1), .bool r.d]) rfl rfl rfl hb38 rfl (by have e0_ := hb38.cellv (i := 6) (v := (.int .i64 r.u : Value)) rfl; have f0_ := hb38.frozen 6; simp [go_sem, sEv, sLook, nbeq, i64_w, -List.getD_eq_getElem?_getD, putCells, e0_, f0_]) ?_
          intro w35 hk36 hk37
          have hs_w35 := hk36.size
          refine rw_end ?_
          refine w_weaken (G' := [(2, .int .i64 0)]) ⟨rfl, trivial⟩ ?_
          refine w_seq ?_
          refine w_region ?_
          refine rw_val (v := .int .i64 0) (w' := w35) rfl rfl rfl rfl rfl ?_
          refine rw_end ?_
          refine w_ret (post_ret1 rfl rfl ?_)
          have e1_ : r.err = 0 := by unfold RS.err; simp [cD, cA, cB, cU]
          rw [e1_]
          have e2_ : r.next = (⟨r.S, r.R, (r.st + 1), r.a, r.b, r.l, (r.u - 1), r.d⟩ : RS) := by have d1_ : duel r.a r.l = r.l := (by unfold duel; simp [cA]); have d2_ : duel r.b r.u = (r.u - 1) := (by unfold duel; simp [cB, cU]); rw [RS.next, if_neg (by simp [cD]), if_neg (by simp [cA]), if_neg (by simp [cB, cU]), d1_, d2_]
          rw [e2_]
          exact ⟨rfl, ((Grow.ofK hk26).trans (Grow.ofK hk36)), hk37⟩
      · refine w_skip ?_
        refine w_seq ?_
        refine w_region ?_
        refine rw_val (v := .int .i64 0) (w' := w25) rfl rfl rfl rfl rfl ?_
        refine rw_end ?_
        refine w_ret (post_ret1 rfl rfl ?_)
        have e1_ : r.err = 0 := by unfold RS.err; simp [cD, cA, cB]
        rw [e1_]
        have e2_ : r.next = (⟨r.S, r.R, (r.st + 1), r.a, r.b, r.l, r.u, r.d⟩ : RS) := by have d1_ : duel r.a r.l = r.l := (by unfold duel; simp [cA]); have d2_ : duel r.b r.u = r.u := (by unfold duel; simp [cB]); rw [RS.next, if_neg (by simp [cD]), if_neg (by simp [cA]), if_neg (by simp [cB]), d1_, d2_]
        rw [e2_]
        exact ⟨rfl, (Grow.ofK hk26), hk27⟩
set_option maxHeartbeats 4000000 in
theorem rappend (w : World) (u : Nat) (r : RS) (hst : 0 ≤ r.st ∧ r.st ≤ 999999999999999) (hl : 0 ≤ r.l ∧ r.l ≤ 9223372036854775807) (hu_ : 0 ≤ r.u ∧ r.u ≤ 9223372036854775807) (hn : r.S.length + r.R.length ≤ 1048576) (ys : List Int) (hy : ys.length ≤ 140737488355328) (hb : Blk w u 59 (rcells r)) :
    Calls Try.prog 46 #[.pointer (some ⟨u, 0, none⟩), .string (strOfNums ys)] w fun e w' => e = .returned (.int .i64 (r.appE ys)) ∧ Grow u w w' ∧ Blk w' u 59 (rcells (r.app ys)) := by
  refine calls_flow Try.func46 rfl 35 rfl (Nat.le_of_ble_eq_true rfl) [(0, .pointer (some ⟨u, 0, none⟩)), (1, .string (strOfNums ys))] ?_ ?_
  · intro t v h; exact args_look rfl t v h
  refine w_seq ?_
  refine w_region ?_
  refine rw_val (v := .int .i64 0) (w' := w) rfl rfl rfl rfl rfl ?_
  refine rw_end ?_
  refine w_seq ?_
  refine w_seq ?_
  refine w_drawk (M := [0, 1, 3, 7, 15, 0, 32, 96, 224, 480, 1023, 0, 2048, 8191, 16383]) (ss := [Is (.pointer (some ⟨u, 0, none⟩)), Is (.pointer (some ⟨u, 0, none⟩)), Is (.pointer (some ⟨u, 0, none⟩)), Is (.string (strOfNums r.S)), Is (.int .i64 ((r.S.length : Nat) : Int)), Is (.pointer (some ⟨u, 0, none⟩)), Is (.pointer (some ⟨u, 0, none⟩)), Is (.pointer (some ⟨u, 1, none⟩)), Is (.string (strOfNums r.R)), Is (.int .i64 ((r.R.length : Nat) : Int)), Is (.int .i64 ((r.S.length + r.R.length : Nat) : Int)), Is (.string (strOfNums ys)), Is (.int .i64 ((ys.length : Nat) : Int))]) 13 rfl (by decide +kernel) ?_
  refine t_is (.pointer (some ⟨u, 0, none⟩)) rfl rfl rfl rfl (fun W_ hW_ F_ => rfl) ?_
  refine t_is (.pointer (some ⟨u, 0, none⟩)) rfl rfl rfl rfl (fun W_ hW_ F_ => by simp [go_sem, sEv, sLook, nbeq, i64_w, -List.getD_eq_getElem?_getD]) ?_
  refine t_is (.pointer (some ⟨u, 0, none⟩)) rfl rfl rfl rfl (fun W_ hW_ F_ => by simp [go_sem, sEv, sLook, nbeq, i64_w, -List.getD_eq_getElem?_getD, Try.underlying59]) ?_
  refine t_is (.string (strOfNums r.S)) rfl rfl rfl rfl (fun W_ hW_ F_ => by have eb_ := (hb.on (below_of_drew hW_)); have e0_ := eb_.cellv (i := 0) (v := (.string (strOfNums r.S) : Value)) rfl; simp [go_sem, sEv, sLook, nbeq, i64_w, -List.getD_eq_getElem?_getD, e0_]) ?_
  refine t_is (.int .i64 ((r.S.length : Nat) : Int)) rfl rfl rfl rfl (fun W_ hW_ F_ => (by simp [go_sem, sEv, sLook, nbeq, i64_w, -List.getD_eq_getElem?_getD, strOfNums_size])) ?_
  refine t_is (.pointer (some ⟨u, 0, none⟩)) rfl rfl rfl rfl (fun W_ hW_ F_ => rfl) ?_
  refine t_is (.pointer (some ⟨u, 0, none⟩)) rfl rfl rfl rfl (fun W_ hW_ F_ => by simp [go_sem, sEv, sLook, nbeq, i64_w, -List.getD_eq_getElem?_getD]) ?_
  refine t_is (.pointer (some ⟨u, 1, none⟩)) rfl rfl rfl rfl (fun W_ hW_ F_ => by simp [go_sem, sEv, sLook, nbeq, i64_w, -List.getD_eq_getElem?_getD, Try.underlying59]) ?_
  refine t_is (.string (strOfNums r.R)) rfl rfl rfl rfl (fun W_ hW_ F_ => by have eb_ := (hb.on (below_of_drew hW_)); have e0_ := eb_.cellv (i := 1) (v := (.string (strOfNums r.R) : Value)) rfl; simp [go_sem, sEv, sLook, nbeq, i64_w, -List.getD_eq_getElem?_getD, e0_]) ?_
  refine t_is (.int .i64 ((r.R.length : Nat) : Int)) rfl rfl rfl rfl (fun W_ hW_ F_ => (by simp [go_sem, sEv, sLook, nbeq, i64_w, -List.getD_eq_getElem?_getD, strOfNums_size])) ?_
  refine t_is (.int .i64 ((r.S.length + r.R.length : Nat) : Int)) rfl rfl rfl rfl (fun W_ hW_ F_ => by simp [go_sem, sEv, sLook, nbeq, i64_w, -List.getD_eq_getElem?_getD]; exact wrap_id (by omega) (by omega)) ?_
  refine t_is (.string (strOfNums ys)) rfl rfl rfl rfl (fun W_ hW_ F_ => rfl) ?_
  refine t_is (.int .i64 ((ys.length : Nat) : Int)) rfl rfl rfl rfl (fun W_ hW_ F_ => (by simp [go_sem, sEv, sLook, nbeq, i64_w, -List.getD_eq_getElem?_getD, strOfNums_size])) ?_
  refine t_tail ?_
  intro w1 hb2_ F3
  have hb2 := below_of_drew hb2_
  have hs_w1 := hb2.size
  refine rw_val (v := .int .i64 ((r.S.length + r.R.length + ys.length : Nat) : Int)) (w' := w1) rfl rfl rfl rfl (by simp [go_sem, sEv, sLook, nbeq, i64_w, -List.getD_eq_getElem?_getD]; exact wrap_id (by omega) (by omega)) ?_
  refine rw_val (v := .bool (decide (1048576 < ((r.S.length + r.R.length + ys.length : Nat) : Int)))) (w' := w1) rfl rfl rfl rfl (by simp [go_sem, sEv, sLook, nbeq, i64_w, -List.getD_eq_getElem?_getD]) ?_
  refine rw_end ?_
  refine w_weaken (G' := [(0, .pointer (some ⟨u, 0, none⟩)), (1, .string (strOfNums ys)), (4, .int .i64 0), (20, .bool (decide (1048576 < ((r.S.length + r.R.length + ys.length : Nat) : Int))))]) ⟨rfl, rfl, rfl, rfl, trivial⟩ ?_
  refine w_cond rfl rfl (fun c4 => ?_) (fun c4 => ?_)
  · have l5 : (1048576 < ((r.S.length + r.R.length + ys.length : Nat) : Int)) := of_decide_eq_true c4
    refine w_seq ?_
    refine w_region ?_
    refine rw_val (v := .int .i64 7) (w' := w1) rfl rfl rfl rfl rfl ?_
    refine rw_end ?_
    refine w_ret (post_ret1 rfl rfl ?_)
    have e1_ : r.appE ys = 7 := by unfold RS.appE; rw [if_pos (by have := of_decide_eq_true c4; omega)]
    rw [e1_]
    have e2_ : r.app ys = (⟨r.S, r.R, r.st, r.a, r.b, r.l, r.u, r.d⟩ : RS) := by unfold RS.app; rw [if_pos (by have := of_decide_eq_true c4; omega)]
    rw [e2_]
    exact ⟨rfl, (Grow.ofB hb2), (hb.on hb2)⟩
  · have l6 : ¬ (1048576 < ((r.S.length + r.R.length + ys.length : Nat) : Int)) := of_decide_eq_false c4
    refine w_skip ?_
    refine w_seq ?_
    refine w_region ?_
    refine rw_val (v := .pointer (some ⟨u, 0, none⟩)) (w' := w1) rfl rfl rfl rfl rfl ?_
    refine rw_call rfl rfl rfl rfl (f := 55) (args := #[.pointer (some ⟨u, 0, none⟩)]) (by simp [go_sem, sEv, sLook, nbeq, i64_w, -List.getD_eq_getElem?_getD]) (rstep w1 u r hst hl hu_ hn (hb.on hb2)) ?_
    rintro e_ w7 ⟨rfl, hG8, hb9⟩
    refine ⟨_, rfl, ?_⟩
    have hs_w7 := hG8.size
    refine rw_val (v := .int .i64 r.err) (w' := w7) rfl rfl rfl rfl rfl ?_
    refine rw_end ?_
    refine w_seq ?_
    refine w_seq ?_
    refine w_region ?_
    refine rw_val (v := .int .i64 r.err) (w' := w7) rfl rfl rfl rfl rfl ?_
    refine rw_val (v := .bool (r.err == 0)) (w' := w7) rfl rfl rfl rfl (by simp [go_sem, sEv, sLook, nbeq, i64_w, -List.getD_eq_getElem?_getD]) ?_
    refine rw_end ?_
    refine w_cond rfl rfl (fun cE => ?_) (fun cE => ?_)
    · have l10 : r.err = 0 := by simpa using cE
      refine w_region ?_
      refine rw_val (v := .pointer (some ⟨u, 0, none⟩)) (w' := w7) rfl rfl rfl rfl rfl ?_
      refine rw_val (v := .pointer (some ⟨u, 0, none⟩)) (w' := w7) rfl rfl rfl rfl rfl ?_
      refine rw_val (v := .pointer (some ⟨u, 0, none⟩)) (w' := w7) rfl rfl rfl rfl (by simp [go_sem, sEv, sLook, nbeq, i64_w, -List.getD_eq_getElem?_getD]) ?_
      refine rw_val (v := .pointer (some ⟨u, 1, none⟩)) (w' := w7) rfl rfl rfl rfl (by simp [go_sem, sEv, sLook, nbeq, i64_w, -List.getD_eq_getElem?_getD, Try.underlying59]) ?_
      refine rw_val (v := .string (strOfNums r.next.R)) (w' := w7) rfl rfl rfl rfl (by have eb_ := hb9; have e0_ := eb_.cellv (i := 1) (v := (.string (strOfNums r.next.R) : Value)) rfl; simp [go_sem, sEv, sLook, nbeq, i64_w, -List.getD_eq_getElem?_getD, e0_]) ?_
      refine rw_val (v := .string (strOfNums ys)) (w' := w7) rfl rfl rfl rfl rfl ?_
      refine rw_val (v := .string (strOfNums (r.next.R ++ ys))) (w' := w7) rfl rfl rfl rfl (run_as (run_str_add (t := 9) r.next.R ys (by have h_ := r.next_SR; (try simp only [h_.1, h_.2, List.length_take]); omega) _)) ?_
      refine rw_val (v := .pointer (some ⟨u, 0, none⟩)) (w' := w7) rfl rfl rfl rfl (by simp [go_sem, sEv, sLook, nbeq, i64_w, -List.getD_eq_getElem?_getD]) ?_
      refine rw_val (v := .pointer (some ⟨u, 1, none⟩)) (w' := w7) rfl rfl rfl rfl (by simp [go_sem, sEv, sLook, nbeq, i64_w, -List.getD_eq_getElem?_getD, Try.underlying59]) ?_
      have hb14 := hb9
      refine rw_store (g := u) (i := 1) (l := [.string (strOfNums (r.next.R ++ ys))]) (cs' := #[.string (strOfNums r.next.S), .string (strOfNums (r.next.R ++ ys)), .int .i64 r.next.st, .bool r.next.a, .bool r.next.b, .int .i64 r.next.l, .int .i64 r.next.u, .bool r.next.d]) rfl rfl rfl hb14 rfl (by have e0_ := hb14.cellv (i := 1) (v := (.string (strOfNums r.next.R) : Value)) rfl; have f0_ := hb14.frozen 1; simp [go_sem, sEv, sLook, nbeq, i64_w, -List.getD_eq_getElem?_getD, putCells, e0_, f0_]) ?_
      intro w11 hk12 hk13
      have hs_w11 := hk12.size
      refine rw_end ?_
      refine w_weaken (G' := [(4, .int .i64 0), (5, .int .i64 r.err)]) ⟨rfl, rfl, trivial⟩ ?_
      refine w_seq ?_
      refine w_region ?_
      refine rw_val (v := .int .i64 r.err) (w' := w11) rfl rfl rfl rfl rfl ?_
      refine rw_val (v := .int .i64 r.err) (w' := w11) rfl rfl rfl rfl rfl ?_
      refine rw_end ?_
      refine w_ret (post_ret1 rfl rfl ?_)
      have e1_ : r.appE ys = r.err := by unfold RS.appE; rw [if_neg (by have := of_decide_eq_false c4; omega)]
      rw [e1_]
      have e2_ : r.app ys = (⟨r.next.S, (r.next.R ++ ys), r.next.st, r.next.a, r.next.b, r.next.l, r.next.u, r.next.d⟩ : RS) := by unfold RS.app; rw [if_neg (by have := of_decide_eq_false c4; omega)]; rw [if_pos cE]
      rw [e2_]
      exact ⟨rfl, (((Grow.ofB hb2).trans hG8).trans (Grow.ofK hk12)), hk13⟩
    · have l15 : ¬ r.err = 0 := by simpa using cE
      refine w_skip ?_
      refine w_seq ?_
      refine w_region ?_
      refine rw_val (v := .int .i64 r.err) (w' := w7) rfl rfl rfl rfl rfl ?_
      refine rw_val (v := .int .i64 r.err) (w' := w7) rfl rfl rfl rfl rfl ?_
      refine rw_end ?_
      refine w_ret (post_ret1 rfl rfl ?_)
      have e1_ : r.appE ys = r.err := by unfold RS.appE; rw [if_neg (by have := of_decide_eq_false c4; omega)]
      rw [e1_]
      have e2_ : r.app ys = (⟨r.next.S, r.next.R, r.next.st, r.next.a, r.next.b, r.next.l, r.next.u, r.next.d⟩ : RS) := by unfold RS.app; rw [if_neg (by have := of_decide_eq_false c4; omega)]; rw [if_neg (by simp [cE])]
      rw [e2_]
      exact ⟨rfl, ((Grow.ofB hb2).trans hG8), hb9⟩
set_option maxHeartbeats 4000000 in
theorem rsync (w : World) (u : Nat) (r : RS) (hst : 0 ≤ r.st ∧ r.st ≤ 999999999999999) (hl : 0 ≤ r.l ∧ r.l ≤ 9223372036854775807) (hu_ : 0 ≤ r.u ∧ r.u ≤ 9223372036854775807) (hn : r.S.length + r.R.length ≤ 1048576) (hb : Blk w u 59 (rcells r)) :
    Calls Try.prog 47 #[.pointer (some ⟨u, 0, none⟩)] w fun e w' => e = .returned (.int .i64 r.err) ∧ Grow u w w' ∧ Blk w' u 59 (rcells r.sync) := by
  refine calls_flow Try.func47 rfl 24 rfl (Nat.le_of_ble_eq_true rfl) [(0, .pointer (some ⟨u, 0, none⟩))] ?_ ?_
  · intro t v h; exact args_look rfl t v h
  refine w_seq ?_
  refine w_region ?_
  refine rw_val (v := .int .i64 0) (w' := w) rfl rfl rfl rfl rfl ?_
  refine rw_end ?_
  refine w_seq ?_
  refine w_region ?_
  refine rw_val (v := .pointer (some ⟨u, 0, none⟩)) (w' := w) rfl rfl rfl rfl rfl ?_
  refine rw_call rfl rfl rfl rfl (f := 55) (args := #[.pointer (some ⟨u, 0, none⟩)]) (by simp [go_sem, sEv, sLook, nbeq, i64_w, -List.getD_eq_getElem?_getD]) (rstep w u r hst hl hu_ hn hb) ?_
  rintro e_ w1 ⟨rfl, hG2, hb3⟩
  refine ⟨_, rfl, ?_⟩
  have hs_w1 := hG2.size
  refine rw_val (v := .int .i64 r.err) (w' := w1) rfl rfl rfl rfl rfl ?_
  refine rw_end ?_
  refine w_seq ?_
  refine w_seq ?_
  refine w_region ?_
  refine rw_val (v := .int .i64 r.err) (w' := w1) rfl rfl rfl rfl rfl ?_
  refine rw_val (v := .bool (r.err == 0)) (w' := w1) rfl rfl rfl rfl (by simp [go_sem, sEv, sLook, nbeq, i64_w, -List.getD_eq_getElem?_getD]) ?_
  refine rw_end ?_
  refine w_cond rfl rfl (fun cE => ?_) (fun cE => ?_)
  · have l4 : r.err = 0 := by simpa using cE
    refine w_seq ?_
    refine w_drawk (M := [0, 0, 2, 6, 14, 0, 32, 96, 224, 510, 1023, 2047, 4095]) (ss := [Is (.pointer (some ⟨u, 0, none⟩)), Is (.pointer (some ⟨u, 0, none⟩)), Is (.pointer (some ⟨u, 0, none⟩)), Is (.pointer (some ⟨u, 0, none⟩)), Is (.string (strOfNums r.next.S)), Is (.pointer (some ⟨u, 0, none⟩)), Is (.pointer (some ⟨u, 0, none⟩)), Is (.pointer (some ⟨u, 1, none⟩)), Is (.string (strOfNums r.next.R)), Is (.string (strOfNums (r.next.S ++ r.next.R)))]) 10 rfl (by decide +kernel) ?_
    refine t_is (.pointer (some ⟨u, 0, none⟩)) rfl rfl rfl rfl (fun W_ hW_ F_ => rfl) ?_
    refine t_is (.pointer (some ⟨u, 0, none⟩)) rfl rfl rfl rfl (fun W_ hW_ F_ => rfl) ?_
    refine t_is (.pointer (some ⟨u, 0, none⟩)) rfl rfl rfl rfl (fun W_ hW_ F_ => by simp [go_sem, sEv, sLook, nbeq, i64_w, -List.getD_eq_getElem?_getD]) ?_
    refine t_is (.pointer (some ⟨u, 0, none⟩)) rfl rfl rfl rfl (fun W_ hW_ F_ => by simp [go_sem, sEv, sLook, nbeq, i64_w, -List.getD_eq_getElem?_getD, Try.underlying59]) ?_
    refine t_is (.string (strOfNums r.next.S)) rfl rfl rfl rfl (fun W_ hW_ F_ => by have eb_ := (hb3.on (below_of_drew hW_)); have e0_ := eb_.cellv (i := 0) (v := (.string (strOfNums r.next.S) : Value)) rfl; simp [go_sem, sEv, sLook, nbeq, i64_w, -List.getD_eq_getElem?_getD, e0_]) ?_
    refine t_is (.pointer (some ⟨u, 0, none⟩)) rfl rfl rfl rfl (fun W_ hW_ F_ => rfl) ?_
    refine t_is (.pointer (some ⟨u, 0, none⟩)) rfl rfl rfl rfl (fun W_ hW_ F_ => by simp [go_sem, sEv, sLook, nbeq, i64_w, -List.getD_eq_getElem?_getD]) ?_
    refine t_is (.pointer (some ⟨u, 1, none⟩)) rfl rfl rfl rfl (fun W_ hW_ F_ => by simp [go_sem, sEv, sLook, nbeq, i64_w, -List.getD_eq_getElem?_getD, Try.underlying59]) ?_
    refine t_is (.string (strOfNums r.next.R)) rfl rfl rfl rfl (fun W_ hW_ F_ => by have eb_ := (hb3.on (below_of_drew hW_)); have e0_ := eb_.cellv (i := 1) (v := (.string (strOfNums r.next.R) : Value)) rfl; simp [go_sem, sEv, sLook, nbeq, i64_w, -List.getD_eq_getElem?_getD, e0_]) ?_
    refine t_is (.string (strOfNums (r.next.S ++ r.next.R))) rfl rfl rfl rfl (fun W_ hW_ F_ => (run_as (run_str_add (t := 9) r.next.S r.next.R (by have h_ := r.next_SR; (try simp only [h_.1, h_.2, List.length_take]); omega) _))) ?_
    refine t_tail ?_
    intro w5 hb6_ F7
    have hb6 := below_of_drew hb6_
    have hs_w5 := hb6.size
    refine rw_val (v := .pointer (some ⟨u, 0, none⟩)) (w' := w5) rfl rfl rfl rfl (by simp [go_sem, sEv, sLook, nbeq, i64_w, -List.getD_eq_getElem?_getD]) ?_
    refine rw_val (v := .pointer (some ⟨u, 0, none⟩)) (w' := w5) rfl rfl rfl rfl (by simp [go_sem, sEv, sLook, nbeq, i64_w, -List.getD_eq_getElem?_getD, Try.underlying59]) ?_
    have hb11 := (hb3.on hb6)
    refine rw_store (g := u) (i := 0) (l := [.string (strOfNums (r.next.S ++ r.next.R))]) (cs' := #[.string (strOfNums (r.next.S ++ r.next.R)), .string (strOfNums r.next.R), .int .i64 r.next.st, .bool r.next.a, .bool r.next.b, .int .i64 r.next.l, .int .i64 r.next.u, .bool r.next.d]) rfl rfl rfl hb11 rfl (by have e0_ := hb11.cellv (i := 0) (v := (.string (strOfNums r.next.S) : Value)) rfl; have f0_ := hb11.frozen 0; simp [go_sem, sEv, sLook, nbeq, i64_w, -List.getD_eq_getElem?_getD, putCells, e0_, f0_]) ?_
    intro w8 hk9 hk10
    have hs_w8 := hk9.size
    refine rw_end ?_
    refine w_weaken (G' := [(0, .pointer (some ⟨u, 0, none⟩)), (2, .int .i64 0), (3, .int .i64 r.err)]) ⟨rfl, rfl, rfl, trivial⟩ ?_
    refine w_region ?_
    refine rw_val (v := .pointer (some ⟨u, 0, none⟩)) (w' := w8) rfl rfl rfl rfl rfl ?_
    refine rw_val (v := .pointer (some ⟨u, 0, none⟩)) (w' := w8) rfl rfl rfl rfl (by simp [go_sem, sEv, sLook, nbeq, i64_w, -List.getD_eq_getElem?_getD]) ?_
    refine rw_val (v := .pointer (some ⟨u, 1, none⟩)) (w' := w8) rfl rfl rfl rfl (by simp [go_sem, sEv, sLook, nbeq, i64_w, -List.getD_eq_getElem?_getD, Try.underlying59]) ?_
    have hb15 := hk10
    refine rw_store (g := u) (i := 1) (l := [.string (⟨#[]⟩ : ByteArray)]) (cs' := #[.string (strOfNums (r.next.S ++ r.next.R)), .string (⟨#[]⟩ : ByteArray), .int .i64 r.next.st, .bool r.next.a, .bool r.next.b, .int .i64 r.next.l, .int .i64 r.next.u, .bool r.next.d]) rfl rfl rfl hb15 rfl (by have e0_ := hb15.cellv (i := 1) (v := (.string (strOfNums r.next.R) : Value)) rfl; have f0_ := hb15.frozen 1; simp [go_sem, sEv, sLook, nbeq, i64_w, -List.getD_eq_getElem?_getD, putCells, e0_, f0_]) ?_
    intro w12 hk13 hk14
    have hs_w12 := hk13.size
    refine rw_end ?_
    refine w_weaken (G' := [(2, .int .i64 0), (3, .int .i64 r.err)]) ⟨rfl, rfl, trivial⟩ ?_
    refine w_seq ?_
    refine w_region ?_
    refine rw_val (v := .int .i64 r.err) (w' := w12) rfl rfl rfl rfl rfl ?_
    refine rw_val (v := .int .i64 r.err) (w' := w12) rfl rfl rfl rfl rfl ?_
    refine rw_end ?_
    refine w_ret (post_ret1 rfl rfl ?_)
    have e1_ : r.err = r.err := rfl
    rw [e1_]
    have e2_ : r.sync = (⟨(r.next.S ++ r.next.R), [], r.next.st, r.next.a, r.next.b, r.next.l, r.next.u, r.next.d⟩ : RS) := by unfold RS.sync; rw [if_pos cE]
    rw [e2_]
    exact ⟨rfl, (((hG2.trans (Grow.ofB hb6)).trans (Grow.ofK hk9)).trans (Grow.ofK hk13)), hk14⟩
  · have l16 : ¬ r.err = 0 := by simpa using cE
    refine w_skip ?_
    refine w_seq ?_
    refine w_region ?_
    refine rw_val (v := .int .i64 r.err) (w' := w1) rfl rfl rfl rfl rfl ?_
    refine rw_val (v := .int .i64 r.err) (w' := w1) rfl rfl rfl rfl rfl ?_
    refine rw_end ?_
    refine w_ret (post_ret1 rfl rfl ?_)
    have e1_ : r.err = r.err := rfl
    rw [e1_]
    have e2_ : r.sync = (⟨r.next.S, r.next.R, r.next.st, r.next.a, r.next.b, r.next.l, r.next.u, r.next.d⟩ : RS) := by unfold RS.sync; rw [if_neg (by simp [cE])]
    rw [e2_]
    exact ⟨rfl, hG2, hb3⟩
set_option maxHeartbeats 4000000 in
theorem rreplace (w : World) (u : Nat) (r : RS) (hst : 0 ≤ r.st ∧ r.st ≤ 999999999999999) (hl : 0 ≤ r.l ∧ r.l ≤ 9223372036854775807) (hu_ : 0 ≤ r.u ∧ r.u ≤ 9223372036854775807) (hn : r.S.length + r.R.length ≤ 1048576) (ys : List Int) (hy : ys.length ≤ 140737488355328) (hb : Blk w u 59 (rcells r)) :
    Calls Try.prog 44 #[.pointer (some ⟨u, 0, none⟩), .string (strOfNums ys)] w fun e w' => e = .returned (.int .i64 (r.repE ys)) ∧ Grow u w w' ∧ Blk w' u 59 (rcells (r.rep ys)) := by
  refine calls_flow Try.func44 rfl 21 rfl (Nat.le_of_ble_eq_true rfl) [(0, .pointer (some ⟨u, 0, none⟩)), (1, .string (strOfNums ys))] ?_ ?_
  · intro t v h; exact args_look rfl t v h
  refine w_seq ?_
  refine w_region ?_
  refine rw_val (v := .int .i64 0) (w' := w) rfl rfl rfl rfl rfl ?_
  refine rw_end ?_
  refine w_seq ?_
  refine w_seq ?_
  refine w_region ?_
  refine rw_val (v := .string (strOfNums ys)) (w' := w) rfl rfl rfl rfl rfl ?_
  refine rw_val (v := .int .i64 ((ys.length : Nat) : Int)) (w' := w) rfl rfl rfl rfl (by simp [go_sem, sEv, sLook, nbeq, i64_w, -List.getD_eq_getElem?_getD, strOfNums_size]) ?_
  refine rw_val (v := .bool (decide (1048576 < ((ys.length : Nat) : Int)))) (w' := w) rfl rfl rfl rfl (by simp [go_sem, sEv, sLook, nbeq, i64_w, -List.getD_eq_getElem?_getD]) ?_
  refine rw_end ?_
  refine w_cond rfl rfl (fun c1 => ?_) (fun c1 => ?_)
  · have l2 : (1048576 < ((ys.length : Nat) : Int)) := of_decide_eq_true c1
    refine w_seq ?_
    refine w_region ?_
    refine rw_val (v := .int .i64 7) (w' := w) rfl rfl rfl rfl rfl ?_
    refine rw_end ?_
    refine w_ret (post_ret1 rfl rfl ?_)
    have e1_ : r.repE ys = 7 := by unfold RS.repE; rw [if_pos (by have := of_decide_eq_true c1; omega)]
    rw [e1_]
    have e2_ : r.rep ys = (⟨r.S, r.R, r.st, r.a, r.b, r.l, r.u, r.d⟩ : RS) := by unfold RS.rep; rw [if_pos (by have := of_decide_eq_true c1; omega)]
    rw [e2_]
    exact ⟨rfl, (Grow.refl _ _), hb⟩
  · have l3 : ¬ (1048576 < ((ys.length : Nat) : Int)) := of_decide_eq_false c1
    refine w_skip ?_
    refine w_seq ?_
    refine w_region ?_
    refine rw_val (v := .pointer (some ⟨u, 0, none⟩)) (w' := w) rfl rfl rfl rfl rfl ?_
    refine rw_call rfl rfl rfl rfl (f := 55) (args := #[.pointer (some ⟨u, 0, none⟩)]) (by simp [go_sem, sEv, sLook, nbeq, i64_w, -List.getD_eq_getElem?_getD]) (rstep w u r hst hl hu_ hn hb) ?_
    rintro e_ w4 ⟨rfl, hG5, hb6⟩
    refine ⟨_, rfl, ?_⟩
    have hs_w4 := hG5.size
    refine rw_val (v := .int .i64 r.err) (w' := w4) rfl rfl rfl rfl rfl ?_
    refine rw_end ?_
    refine w_seq ?_
    refine w_seq ?_
    refine w_region ?_
    refine rw_val (v := .int .i64 r.err) (w' := w4) rfl rfl rfl rfl rfl ?_
    refine rw_val (v := .bool (r.err == 0)) (w' := w4) rfl rfl rfl rfl (by simp [go_sem, sEv, sLook, nbeq, i64_w, -List.getD_eq_getElem?_getD]) ?_
    refine rw_end ?_
    refine w_cond rfl rfl (fun cE => ?_) (fun cE => ?_)
    · have l7 : r.err = 0 := by simpa using cE
      refine w_seq ?_
      refine w_region ?_
      refine rw_val (v := .pointer (some ⟨u, 0, none⟩)) (w' := w4) rfl rfl rfl rfl rfl ?_
      refine rw_val (v := .string (strOfNums ys)) (w' := w4) rfl rfl rfl rfl rfl ?_
      refine rw_val (v := .pointer (some ⟨u, 0, none⟩)) (w' := w4) rfl rfl rfl rfl (by simp [go_sem, sEv, sLook, nbeq, i64_w, -List.getD_eq_getElem?_getD]) ?_
      refine rw_val (v := .pointer (some ⟨u, 0, none⟩)) (w' := w4) rfl rfl rfl rfl (by simp [go_sem, sEv, sLook, nbeq, i64_w, -List.getD_eq_getElem?_getD, Try.underlying59]) ?_
      have hb11 := hb6
      refine rw_store (g := u) (i := 0) (l := [.string (strOfNums ys)]) (cs' := #[.string (strOfNums ys), .string (strOfNums r.next.R), .int .i64 r.next.st, .bool r.next.a, .bool r.next.b, .int .i64 r.next.l, .int .i64 r.next.u, .bool r.next.d]) rfl rfl rfl hb11 rfl (by have e0_ := hb11.cellv (i := 0) (v := (.string (strOfNums r.next.S) : Value)) rfl; have f0_ := hb11.frozen 0; simp [go_sem, sEv, sLook, nbeq, i64_w, -List.getD_eq_getElem?_getD, putCells, e0_, f0_]) ?_
      intro w8 hk9 hk10
      have hs_w8 := hk9.size
      refine rw_end ?_
      refine w_weaken (G' := [(0, .pointer (some ⟨u, 0, none⟩)), (4, .int .i64 0), (5, .int .i64 r.err)]) ⟨rfl, rfl, rfl, trivial⟩ ?_
      refine w_region ?_
      refine rw_val (v := .pointer (some ⟨u, 0, none⟩)) (w' := w8) rfl rfl rfl rfl rfl ?_
      refine rw_val (v := .pointer (some ⟨u, 0, none⟩)) (w' := w8) rfl rfl rfl rfl (by simp [go_sem, sEv, sLook, nbeq, i64_w, -List.getD_eq_getElem?_getD]) ?_
      refine rw_val (v := .pointer (some ⟨u, 1, none⟩)) (w' := w8) rfl rfl rfl rfl (by simp [go_sem, sEv, sLook, nbeq, i64_w, -List.getD_eq_getElem?_getD, Try.underlying59]) ?_
      have hb15 := hk10
      refine rw_store (g := u) (i := 1) (l := [.string (⟨#[]⟩ : ByteArray)]) (cs' := #[.string (strOfNums ys), .string (⟨#[]⟩ : ByteArray), .int .i64 r.next.st, .bool r.next.a, .bool r.next.b, .int .i64 r.next.l, .int .i64 r.next.u, .bool r.next.d]) rfl rfl rfl hb15 rfl (by have e0_ := hb15.cellv (i := 1) (v := (.string (strOfNums r.next.R) : Value)) rfl; have f0_ := hb15.frozen 1; simp [go_sem, sEv, sLook, nbeq, i64_w, -List.getD_eq_getElem?_getD, putCells, e0_, f0_]) ?_
      intro w12 hk13 hk14
      have hs_w12 := hk13.size
      refine rw_end ?_
      refine w_weaken (G' := [(4, .int .i64 0), (5, .int .i64 r.err)]) ⟨rfl, rfl, trivial⟩ ?_
      refine w_seq ?_
      refine w_region ?_
      refine rw_val (v := .int .i64 r.err) (w' := w12) rfl rfl rfl rfl rfl ?_
      refine rw_val (v := .int .i64 r.err) (w' := w12) rfl rfl rfl rfl rfl ?_
      refine rw_end ?_
      refine w_ret (post_ret1 rfl rfl ?_)
      have e1_ : r.repE ys = r.err := by unfold RS.repE; rw [if_neg (by have := of_decide_eq_false c1; omega)]
      rw [e1_]
      have e2_ : r.rep ys = (⟨ys, [], r.next.st, r.next.a, r.next.b, r.next.l, r.next.u, r.next.d⟩ : RS) := by unfold RS.rep; rw [if_neg (by have := of_decide_eq_false c1; omega)]; rw [if_pos cE]
      rw [e2_]
      exact ⟨rfl, ((hG5.trans (Grow.ofK hk9)).trans (Grow.ofK hk13)), hk14⟩
    · have l16 : ¬ r.err = 0 := by simpa using cE
      refine w_skip ?_
      refine w_seq ?_
      refine w_region ?_
      refine rw_val (v := .int .i64 r.err) (w' := w4) rfl rfl rfl rfl rfl ?_
      refine rw_val (v := .int .i64 r.err) (w' := w4) rfl rfl rfl rfl rfl ?_
      refine rw_end ?_
      refine w_ret (post_ret1 rfl rfl ?_)
      have e1_ : r.repE ys = r.err := by unfold RS.repE; rw [if_neg (by have := of_decide_eq_false c1; omega)]
      rw [e1_]
      have e2_ : r.rep ys = (⟨r.next.S, r.next.R, r.next.st, r.next.a, r.next.b, r.next.l, r.next.u, r.next.d⟩ : RS) := by unfold RS.rep; rw [if_neg (by have := of_decide_eq_false c1; omega)]; rw [if_neg (by simp [cE])]
      rw [e2_]
      exact ⟨rfl, hG5, hb6⟩
set_option maxHeartbeats 4000000 in
theorem rcut (w : World) (u : Nat) (r : RS) (hst : 0 ≤ r.st ∧ r.st ≤ 999999999999999) (hl : 0 ≤ r.l ∧ r.l ≤ 9223372036854775807) (hu_ : 0 ≤ r.u ∧ r.u ≤ 9223372036854775807) (hn : r.S.length + r.R.length ≤ 1048576) (hb : Blk w u 59 (rcells r)) :
    Calls Try.prog 48 #[.pointer (some ⟨u, 0, none⟩)] w fun e w' => e = .returned (.tuple #[]) ∧ Grow u w w' ∧ Blk w' u 59 (rcells r.cut) := by
  refine calls_flow Try.func48 rfl 10 rfl (Nat.le_of_ble_eq_true rfl) [(0, .pointer (some ⟨u, 0, none⟩))] ?_ ?_
  · intro t v h; exact args_look rfl t v h
  refine w_seq ?_
  refine w_region ?_
  refine rw_val (v := .pointer (some ⟨u, 0, none⟩)) (w' := w) rfl rfl rfl rfl rfl ?_
  refine rw_val (v := .pointer (some ⟨u, 0, none⟩)) (w' := w) rfl rfl rfl rfl (by simp [go_sem, sEv, sLook, nbeq, i64_w, -List.getD_eq_getElem?_getD]) ?_
  refine rw_val (v := .pointer (some ⟨u, 7, none⟩)) (w' := w) rfl rfl rfl rfl (by simp [go_sem, sEv, sLook, nbeq, i64_w, -List.getD_eq_getElem?_getD, Try.underlying59]) ?_
  refine rw_val (v := .bool r.d) (w' := w) rfl rfl rfl rfl (by have eb_ := hb; have e0_ := eb_.cellv (i := 7) (v := (.bool r.d : Value)) rfl; simp [go_sem, sEv, sLook, nbeq, i64_w, -List.getD_eq_getElem?_getD, e0_]) ?_
  refine rw_val (v := .bool (!r.d)) (w' := w) rfl rfl rfl rfl (by simp [go_sem, sEv, sLook, nbeq, i64_w, -List.getD_eq_getElem?_getD]) ?_
  refine rw_end ?_
  refine w_weaken (G' := [(0, .pointer (some ⟨u, 0, none⟩)), (6, .bool (!r.d))]) ⟨rfl, rfl, trivial⟩ ?_
  refine w_cond rfl rfl (fun c1 => ?_) (fun c1 => ?_)
  · refine w_region ?_
    refine rw_val (v := .pointer (some ⟨u, 0, none⟩)) (w' := w) rfl rfl rfl rfl rfl ?_
    refine rw_val (v := .pointer (some ⟨u, 0, none⟩)) (w' := w) rfl rfl rfl rfl (by simp [go_sem, sEv, sLook, nbeq, i64_w, -List.getD_eq_getElem?_getD]) ?_
    refine rw_val (v := .pointer (some ⟨u, 1, none⟩)) (w' := w) rfl rfl rfl rfl (by simp [go_sem, sEv, sLook, nbeq, i64_w, -List.getD_eq_getElem?_getD, Try.underlying59]) ?_
    have hb5 := hb
    refine rw_store (g := u) (i := 1) (l := [.string (⟨#[]⟩ : ByteArray)]) (cs' := #[.string (strOfNums r.S), .string (⟨#[]⟩ : ByteArray), .int .i64 r.st, .bool r.a, .bool r.b, .int .i64 r.l, .int .i64 r.u, .bool r.d]) rfl rfl rfl hb5 rfl (by have e0_ := hb5.cellv (i := 1) (v := (.string (strOfNums r.R) : Value)) rfl; have f0_ := hb5.frozen 1; simp [go_sem, sEv, sLook, nbeq, i64_w, -List.getD_eq_getElem?_getD, putCells, e0_, f0_]) ?_
    intro w2 hk3 hk4
    have hs_w2 := hk3.size
    refine rw_end ?_
    refine w_weaken (G' := []) trivial ?_
    refine w_end (post_end0 rfl ?_)
    have e2_ : r.cut = (⟨r.S, [], r.st, r.a, r.b, r.l, r.u, r.d⟩ : RS) := by rw [RS.cut, if_neg (by simp [(not_true c1)])]
    rw [e2_]
    exact ⟨rfl, (Grow.ofK hk3), hk4⟩
  · refine w_skip ?_
    refine w_end (post_end0 rfl ?_)
    have e2_ : r.cut = (⟨r.S, r.R, r.st, r.a, r.b, r.l, r.u, r.d⟩ : RS) := by rw [RS.cut, if_pos (not_false c1)]
    rw [e2_]
    exact ⟨rfl, (Grow.refl _ _), hb⟩
set_option maxHeartbeats 4000000 in
theorem rcrash (w : World) (u : Nat) (r : RS) (hst : 0 ≤ r.st ∧ r.st ≤ 999999999999999) (hl : 0 ≤ r.l ∧ r.l ≤ 9223372036854775807) (hu_ : 0 ≤ r.u ∧ r.u ≤ 9223372036854775807) (hn : r.S.length + r.R.length ≤ 1048576) (k : Int) (hb : Blk w u 59 (rcells r)) :
    Calls Try.prog 32 #[.pointer (some ⟨u, 0, none⟩), .int .i64 k] w fun e w' => e = .returned (.tuple #[]) ∧ Grow u w w' ∧ Blk w' u 59 (rcells (r.crash k)) := by
  refine calls_flow Try.func32 rfl 44 rfl (Nat.le_of_ble_eq_true rfl) [(0, .pointer (some ⟨u, 0, none⟩)), (1, .int .i64 k)] ?_ ?_
  · intro t v h; exact args_look rfl t v h
  refine w_seq ?_
  refine w_seq ?_
  refine w_region ?_
  refine rw_val (v := .int .i64 k) (w' := w) rfl rfl rfl rfl rfl ?_
  refine rw_val (v := .bool (decide (k < 0))) (w' := w) rfl rfl rfl rfl (by simp [go_sem, sEv, sLook, nbeq, i64_w, -List.getD_eq_getElem?_getD]) ?_
  refine rw_end ?_
  refine w_cond rfl rfl (fun c1 => ?_) (fun c1 => ?_)
  · have l2 : (k < 0) := of_decide_eq_true c1
    refine w_region ?_
    refine rw_val (v := .int .i64 0) (w' := w) rfl rfl rfl rfl rfl ?_
    refine rw_end ?_
    refine w_seq ?_
    refine w_seq ?_
    refine w_region ?_
    refine rw_val (v := .int .i64 0) (w' := w) rfl rfl rfl rfl rfl ?_
    refine rw_val (v := .pointer (some ⟨u, 0, none⟩)) (w' := w) rfl rfl rfl rfl rfl ?_
    refine rw_val (v := .pointer (some ⟨u, 0, none⟩)) (w' := w) rfl rfl rfl rfl (by simp [go_sem, sEv, sLook, nbeq, i64_w, -List.getD_eq_getElem?_getD]) ?_
    refine rw_val (v := .pointer (some ⟨u, 1, none⟩)) (w' := w) rfl rfl rfl rfl (by simp [go_sem, sEv, sLook, nbeq, i64_w, -List.getD_eq_getElem?_getD, Try.underlying59]) ?_
    refine rw_val (v := .string (strOfNums r.R)) (w' := w) rfl rfl rfl rfl (by have eb_ := hb; have e0_ := eb_.cellv (i := 1) (v := (.string (strOfNums r.R) : Value)) rfl; simp [go_sem, sEv, sLook, nbeq, i64_w, -List.getD_eq_getElem?_getD, e0_]) ?_
    refine rw_val (v := .int .i64 ((r.R.length : Nat) : Int)) (w' := w) rfl rfl rfl rfl (by simp [go_sem, sEv, sLook, nbeq, i64_w, -List.getD_eq_getElem?_getD, strOfNums_size]) ?_
    refine rw_val (v := .bool (decide (((r.R.length : Nat) : Int) < 0))) (w' := w) rfl rfl rfl rfl (by simp [go_sem, sEv, sLook, nbeq, i64_w, -List.getD_eq_getElem?_getD]) ?_
    refine rw_end ?_
    refine w_weaken (G' := [(0, .pointer (some ⟨u, 0, none⟩)), (1, .int .i64 0), (12, .bool (decide (((r.R.length : Nat) : Int) < 0)))]) ⟨rfl, rfl, rfl, trivial⟩ ?_
    refine w_cond rfl rfl (fun c3 => ?_) (fun c3 => ?_)
    · have l4 : (((r.R.length : Nat) : Int) < 0) := of_decide_eq_true c3
      refine w_region ?_
      refine rw_val (v := .pointer (some ⟨u, 0, none⟩)) (w' := w) rfl rfl rfl rfl rfl ?_
      refine rw_val (v := .pointer (some ⟨u, 0, none⟩)) (w' := w) rfl rfl rfl rfl (by simp [go_sem, sEv, sLook, nbeq, i64_w, -List.getD_eq_getElem?_getD]) ?_
      refine rw_val (v := .pointer (some ⟨u, 1, none⟩)) (w' := w) rfl rfl rfl rfl (by simp [go_sem, sEv, sLook, nbeq, i64_w, -List.getD_eq_getElem?_getD, Try.underlying59]) ?_
      refine rw_val (v := .string (strOfNums r.R)) (w' := w) rfl rfl rfl rfl (by have eb_ := hb; have e0_ := eb_.cellv (i := 1) (v := (.string (strOfNums r.R) : Value)) rfl; simp [go_sem, sEv, sLook, nbeq, i64_w, -List.getD_eq_getElem?_getD, e0_]) ?_
      refine rw_val (v := .int .i64 ((r.R.length : Nat) : Int)) (w' := w) rfl rfl rfl rfl (by simp [go_sem, sEv, sLook, nbeq, i64_w, -List.getD_eq_getElem?_getD, strOfNums_size]) ?_
      refine rw_val (v := .int .i64 ((r.R.length : Nat) : Int)) (w' := w) rfl rfl rfl rfl rfl ?_
      refine rw_end ?_
      refine w_weaken (G' := [(0, .pointer (some ⟨u, 0, none⟩)), (1, .int .i64 ((r.R.length : Nat) : Int))]) ⟨rfl, rfl, trivial⟩ ?_
      refine w_seq ?_
      refine w_drawk (M := [0, 0, 2, 6, 14, 0, 32, 96, 224, 0, 992, 2046, 4095, 8191, 16383]) (ss := [Is (.pointer (some ⟨u, 0, none⟩)), Is (.pointer (some ⟨u, 0, none⟩)), Is (.pointer (some ⟨u, 0, none⟩)), Is (.pointer (some ⟨u, 0, none⟩)), Is (.string (strOfNums r.S)), Is (.pointer (some ⟨u, 0, none⟩)), Is (.pointer (some ⟨u, 0, none⟩)), Is (.pointer (some ⟨u, 1, none⟩)), Is (.string (strOfNums r.R)), Is (.int .i64 ((r.R.length : Nat) : Int)), Is (.string (strOfNums (r.R.take ((r.R.length : Nat) : Int).toNat))), Is (.string (strOfNums (r.S ++ (r.R.take ((r.R.length : Nat) : Int).toNat))))]) 12 rfl (by decide +kernel) ?_
      refine t_is (.pointer (some ⟨u, 0, none⟩)) rfl rfl rfl rfl (fun W_ hW_ F_ => rfl) ?_
      refine t_is (.pointer (some ⟨u, 0, none⟩)) rfl rfl rfl rfl (fun W_ hW_ F_ => rfl) ?_
      refine t_is (.pointer (some ⟨u, 0, none⟩)) rfl rfl rfl rfl (fun W_ hW_ F_ => by simp [go_sem, sEv, sLook, nbeq, i64_w, -List.getD_eq_getElem?_getD]) ?_
      refine t_is (.pointer (some ⟨u, 0, none⟩)) rfl rfl rfl rfl (fun W_ hW_ F_ => by simp [go_sem, sEv, sLook, nbeq, i64_w, -List.getD_eq_getElem?_getD, Try.underlying59]) ?_
      refine t_is (.string (strOfNums r.S)) rfl rfl rfl rfl (fun W_ hW_ F_ => by have eb_ := (hb.on (below_of_drew hW_)); have e0_ := eb_.cellv (i := 0) (v := (.string (strOfNums r.S) : Value)) rfl; simp [go_sem, sEv, sLook, nbeq, i64_w, -List.getD_eq_getElem?_getD, e0_]) ?_
      refine t_is (.pointer (some ⟨u, 0, none⟩)) rfl rfl rfl rfl (fun W_ hW_ F_ => rfl) ?_
      refine t_is (.pointer (some ⟨u, 0, none⟩)) rfl rfl rfl rfl (fun W_ hW_ F_ => by simp [go_sem, sEv, sLook, nbeq, i64_w, -List.getD_eq_getElem?_getD]) ?_
      refine t_is (.pointer (some ⟨u, 1, none⟩)) rfl rfl rfl rfl (fun W_ hW_ F_ => by simp [go_sem, sEv, sLook, nbeq, i64_w, -List.getD_eq_getElem?_getD, Try.underlying59]) ?_
      refine t_is (.string (strOfNums r.R)) rfl rfl rfl rfl (fun W_ hW_ F_ => by have eb_ := (hb.on (below_of_drew hW_)); have e0_ := eb_.cellv (i := 1) (v := (.string (strOfNums r.R) : Value)) rfl; simp [go_sem, sEv, sLook, nbeq, i64_w, -List.getD_eq_getElem?_getD, e0_]) ?_
      refine t_is (.int .i64 ((r.R.length : Nat) : Int)) rfl rfl rfl rfl (fun W_ hW_ F_ => rfl) ?_
      refine t_is (.string (strOfNums (r.R.take ((r.R.length : Nat) : Int).toNat))) rfl rfl rfl rfl (fun W_ hW_ F_ => (run_as (str_to (t := 9) (by kernel_rfl) r.R ((r.R.length : Nat) : Int) (by omega) (by omega) _))) ?_
      refine t_is (.string (strOfNums (r.S ++ (r.R.take ((r.R.length : Nat) : Int).toNat)))) rfl rfl rfl rfl (fun W_ hW_ F_ => (run_as (run_str_add (t := 9) r.S (r.R.take ((r.R.length : Nat) : Int).toNat) (by have h_ := r.next_SR; (try simp only [h_.1, h_.2, List.length_take]); omega) _))) ?_
      refine t_tail ?_
      intro w5 hb6_ F7
      have hb6 := below_of_drew hb6_
      have hs_w5 := hb6.size
      refine rw_val (v := .pointer (some ⟨u, 0, none⟩)) (w' := w5) rfl rfl rfl rfl (by simp [go_sem, sEv, sLook, nbeq, i64_w, -List.getD_eq_getElem?_getD]) ?_
      refine rw_val (v := .pointer (some ⟨u, 0, none⟩)) (w' := w5) rfl rfl rfl rfl (by simp [go_sem, sEv, sLook, nbeq, i64_w, -List.getD_eq_getElem?_getD, Try.underlying59]) ?_
      have hb11 := (hb.on hb6)
      refine rw_store (g := u) (i := 0) (l := [.string (strOfNums (r.S ++ (r.R.take ((r.R.length : Nat) : Int).toNat)))]) (cs' := #[.string (strOfNums (r.S ++ (r.R.take ((r.R.length : Nat) : Int).toNat))), .string (strOfNums r.R), .int .i64 r.st, .bool r.a, .bool r.b, .int .i64 r.l, .int .i64 r.u, .bool r.d]) rfl rfl rfl hb11 rfl (by have e0_ := hb11.cellv (i := 0) (v := (.string (strOfNums r.S) : Value)) rfl; have f0_ := hb11.frozen 0; simp [go_sem, sEv, sLook, nbeq, i64_w, -List.getD_eq_getElem?_getD, putCells, e0_, f0_]) ?_
      intro w8 hk9 hk10
      have hs_w8 := hk9.size
      refine rw_end ?_
      refine w_weaken (G' := [(0, .pointer (some ⟨u, 0, none⟩))]) ⟨rfl, trivial⟩ ?_
      refine w_seq ?_
      refine w_region ?_
      refine rw_val (v := .pointer (some ⟨u, 0, none⟩)) (w' := w8) rfl rfl rfl rfl rfl ?_
      refine rw_val (v := .pointer (some ⟨u, 0, none⟩)) (w' := w8) rfl rfl rfl rfl (by simp [go_sem, sEv, sLook, nbeq, i64_w, -List.getD_eq_getElem?_getD]) ?_
      refine rw_val (v := .pointer (some ⟨u, 1, none⟩)) (w' := w8) rfl rfl rfl rfl (by simp [go_sem, sEv, sLook, nbeq, i64_w, -List.getD_eq_getElem?_getD, Try.underlying59]) ?_
      have hb15 := hk10
      refine rw_store (g := u) (i := 1) (l := [.string (⟨#[]⟩ : ByteArray)]) (cs' := #[.string (strOfNums (r.S ++ (r.R.take ((r.R.length : Nat) : Int).toNat))), .string (⟨#[]⟩ : ByteArray), .int .i64 r.st, .bool r.a, .bool r.b, .int .i64 r.l, .int .i64 r.u, .bool r.d]) rfl rfl rfl hb15 rfl (by have e0_ := hb15.cellv (i := 1) (v := (.string (strOfNums r.R) : Value)) rfl; have f0_ := hb15.frozen 1; simp [go_sem, sEv, sLook, nbeq, i64_w, -List.getD_eq_getElem?_getD, putCells, e0_, f0_]) ?_
      intro w12 hk13 hk14
      have hs_w12 := hk13.size
      refine rw_end ?_
      refine w_weaken (G' := [(0, .pointer (some ⟨u, 0, none⟩))]) ⟨rfl, trivial⟩ ?_
      refine w_seq ?_
      refine w_region ?_
      refine rw_val (v := .pointer (some ⟨u, 0, none⟩)) (w' := w12) rfl rfl rfl rfl rfl ?_
      refine rw_val (v := .pointer (some ⟨u, 0, none⟩)) (w' := w12) rfl rfl rfl rfl (by simp [go_sem, sEv, sLook, nbeq, i64_w, -List.getD_eq_getElem?_getD]) ?_
      refine rw_val (v := .pointer (some ⟨u, 3, none⟩)) (w' := w12) rfl rfl rfl rfl (by simp [go_sem, sEv, sLook, nbeq, i64_w, -List.getD_eq_getElem?_getD, Try.underlying59]) ?_
      have hb19 := hk14
      refine rw_store (g := u) (i := 3) (l := [.bool false]) (cs' := #[.string (strOfNums (r.S ++ (r.R.take ((r.R.length : Nat) : Int).toNat))), .string (⟨#[]⟩ : ByteArray), .int .i64 r.st, .bool false, .bool r.b, .int .i64 r.l, .int .i64 r.u, .bool r.d]) rfl rfl rfl hb19 rfl (by have e0_ := hb19.cellv (i := 3) (v := (.bool r.a : Value)) rfl; have f0_ := hb19.frozen 3; simp [go_sem, sEv, sLook, nbeq, i64_w, -List.getD_eq_getElem?_getD, putCells, e0_, f0_]) ?_
      intro w16 hk17 hk18
      have hs_w16 := hk17.size
      refine rw_end ?_
      refine w_weaken (G' := [(0, .pointer (some ⟨u, 0, none⟩))]) ⟨rfl, trivial⟩ ?_
      refine w_seq ?_
      refine w_region ?_
      refine rw_val (v := .pointer (some ⟨u, 0, none⟩)) (w' := w16) rfl rfl rfl rfl rfl ?_
      refine rw_val (v := .pointer (some ⟨u, 0, none⟩)) (w' := w16) rfl rfl rfl rfl (by simp [go_sem, sEv, sLook, nbeq, i64_w, -List.getD_eq_getElem?_getD]) ?_
      refine rw_val (v := .pointer (some ⟨u, 4, none⟩)) (w' := w16) rfl rfl rfl rfl (by simp [go_sem, sEv, sLook, nbeq, i64_w, -List.getD_eq_getElem?_getD, Try.underlying59]) ?_
      have hb23 := hk18
      refine rw_store (g := u) (i := 4) (l := [.bool false]) (cs' := #[.string (strOfNums (r.S ++ (r.R.take ((r.R.length : Nat) : Int).toNat))), .string (⟨#[]⟩ : ByteArray), .int .i64 r.st, .bool false, .bool false, .int .i64 r.l, .int .i64 r.u, .bool r.d]) rfl rfl rfl hb23 rfl (by have e0_ := hb23.cellv (i := 4) (v := (.bool r.b : Value)) rfl; have f0_ := hb23.frozen 4; simp [go_sem, sEv, sLook, nbeq, i64_w, -List.getD_eq_getElem?_getD, putCells, e0_, f0_]) ?_
      intro w20 hk21 hk22
      have hs_w20 := hk21.size
      refine rw_end ?_
      refine w_weaken (G' := [(0, .pointer (some ⟨u, 0, none⟩))]) ⟨rfl, trivial⟩ ?_
      refine w_region ?_
      refine rw_val (v := .pointer (some ⟨u, 0, none⟩)) (w' := w20) rfl rfl rfl rfl rfl ?_
      refine rw_val (v := .pointer (some ⟨u, 0, none⟩)) (w' := w20) rfl rfl rfl rfl (by simp [go_sem, sEv, sLook, nbeq, i64_w, -List.getD_eq_getElem?_getD]) ?_
      refine rw_val (v := .pointer (some ⟨u, 7, none⟩)) (w' := w20) rfl rfl rfl rfl (by simp [go_sem, sEv, sLook, nbeq, i64_w, -List.getD_eq_getElem?_getD, Try.underlying59]) ?_
      have hb27 := hk22
      refine rw_store (g := u) (i := 7) (l := [.bool false]) (cs' := #[.string (strOfNums (r.S ++ (r.R.take ((r.R.length : Nat) : Int).toNat))), .string (⟨#[]⟩ : ByteArray), .int .i64 r.st, .bool false, .bool false, .int .i64 r.l, .int .i64 r.u, .bool false]) rfl rfl rfl hb27 rfl (by have e0_ := hb27.cellv (i := 7) (v := (.bool r.d : Value)) rfl; have f0_ := hb27.frozen 7; simp [go_sem, sEv, sLook, nbeq, i64_w, -List.getD_eq_getElem?_getD, putCells, e0_, f0_]) ?_
      intro w24 hk25 hk26
      have hs_w24 := hk25.size
      refine rw_end ?_
      refine w_weaken (G' := []) trivial ?_
      refine w_end (post_end0 rfl ?_)
      have e2_ : r.crash k = (⟨(r.S ++ (r.R.take ((r.R.length : Nat) : Int).toNat)), [], r.st, false, false, r.l, r.u, false⟩ : RS) := by have e3_ : r.left k = ((r.R.length : Nat) : Int).toNat := (by unfold RS.left; omega); rw [RS.crash, e3_]
      rw [e2_]
      exact ⟨rfl, ((((((Grow.ofB hb6).trans (Grow.ofK hk9)).trans (Grow.ofK hk13)).trans (Grow.ofK hk17)).trans (Grow.ofK hk21)).trans (Grow.ofK hk25)), hk26⟩
    · have l28 : ¬ (((r.R.length : Nat) : Int) < 0) := of_decide_eq_false c3
      refine w_skip ?_
      refine w_seq ?_
      refine w_drawk (M := [0, 0, 2, 6, 14, 0, 32, 96, 224, 0, 992, 2046, 4095, 8191, 16383]) (ss := [Is (.pointer (some ⟨u, 0, none⟩)), Is (.pointer (some ⟨u, 0, none⟩)), Is (.pointer (some ⟨u, 0, none⟩)), Is (.pointer (some ⟨u, 0, none⟩)), Is (.string (strOfNums r.S)), Is (.pointer (some ⟨u, 0, none⟩)), Is (.pointer (some ⟨u, 0, none⟩)), Is (.pointer (some ⟨u, 1, none⟩)), Is (.string (strOfNums r.R)), Is (.int .i64 0), Is (.string (strOfNums (r.R.take (0 : Int).toNat))), Is (.string (strOfNums (r.S ++ (r.R.take (0 : Int).toNat))))]) 12 rfl (by decide +kernel) ?_
      refine t_is (.pointer (some ⟨u, 0, none⟩)) rfl rfl rfl rfl (fun W_ hW_ F_ => rfl) ?_
      refine t_is (.pointer (some ⟨u, 0, none⟩)) rfl rfl rfl rfl (fun W_ hW_ F_ => rfl) ?_
      refine t_is (.pointer (some ⟨u, 0, none⟩)) rfl rfl rfl rfl (fun W_ hW_ F_ => by simp [go_sem, sEv, sLook, nbeq, i64_w, -List.getD_eq_getElem?_getD]) ?_
      refine t_is (.pointer (some ⟨u, 0, none⟩)) rfl rfl rfl rfl (fun W_ hW_ F_ => by simp [go_sem, sEv, sLook, nbeq, i64_w, -List.getD_eq_getElem?_getD, Try.underlying59]) ?_
      refine t_is (.string (strOfNums r.S)) rfl rfl rfl rfl (fun W_ hW_ F_ => by have eb_ := (hb.on (below_of_drew hW_)); have e0_ := eb_.cellv (i := 0) (v := (.string (strOfNums r.S) : Value)) rfl; simp [go_sem, sEv, sLook, nbeq, i64_w, -List.getD_eq_getElem?_getD, e0_]) ?_
      refine t_is (.pointer (some ⟨u, 0, none⟩)) rfl rfl rfl rfl (fun W_ hW_ F_ => rfl) ?_
      refine t_is (.pointer (some ⟨u, 0, none⟩)) rfl rfl rfl rfl (fun W_ hW_ F_ => by simp [go_sem, sEv, sLook, nbeq, i64_w, -List.getD_eq_getElem?_getD]) ?_
      refine t_is (.pointer (some ⟨u, 1, none⟩)) rfl rfl rfl rfl (fun W_ hW_ F_ => by simp [go_sem, sEv, sLook, nbeq, i64_w, -List.getD_eq_getElem?_getD, Try.underlying59]) ?_
      refine t_is (.string (strOfNums r.R)) rfl rfl rfl rfl (fun W_ hW_ F_ => by have eb_ := (hb.on (below_of_drew hW_)); have e0_ := eb_.cellv (i := 1) (v := (.string (strOfNums r.R) : Value)) rfl; simp [go_sem, sEv, sLook, nbeq, i64_w, -List.getD_eq_getElem?_getD, e0_]) ?_
      refine t_is (.int .i64 0) rfl rfl rfl rfl (fun W_ hW_ F_ => rfl) ?_
      refine t_is (.string (strOfNums (r.R.take (0 : Int).toNat))) rfl rfl rfl rfl (fun W_ hW_ F_ => (run_as (str_to (t := 9) (by kernel_rfl) r.R (0 : Int) (by omega) (by omega) _))) ?_
      refine t_is (.string (strOfNums (r.S ++ (r.R.take (0 : Int).toNat)))) rfl rfl rfl rfl (fun W_ hW_ F_ => (run_as (run_str_add (t := 9) r.S (r.R.take (0 : Int).toNat) (by have h_ := r.next_SR; (try simp only [h_.1, h_.2, List.length_take]); omega) _))) ?_
      refine t_tail ?_
      intro w29 hb30_ F31
      have hb30 := below_of_drew hb30_
      have hs_w29 := hb30.size
      refine rw_val (v := .pointer (some ⟨u, 0, none⟩)) (w' := w29) rfl rfl rfl rfl (by simp [go_sem, sEv, sLook, nbeq, i64_w, -List.getD_eq_getElem?_getD]) ?_
      refine rw_val (v := .pointer (some ⟨u, 0, none⟩)) (w' := w29) rfl rfl rfl rfl (by simp [go_sem, sEv, sLook, nbeq, i64_w, -List.getD_eq_getElem?_getD, Try.underlying59]) ?_
      have hb35 := (hb.on hb30)
      refine rw_store (g := u) (i := 0) (l := [.string (strOfNums (r.S ++ (r.R.take (0 : Int).toNat)))]) (cs' := #[.string (strOfNums (r.S ++ (r.R.take (0 : Int).toNat))), .string (strOfNums r.R), .int .i64 r.st, .bool r.a, .bool r.b, .int .i64 r.l, .int .i64 r.u, .bool r.d]) rfl rfl rfl hb35 rfl (by have e0_ := hb35.cellv (i := 0) (v := (.string (strOfNums r.S) : Value)) rfl; have f0_ := hb35.frozen 0; simp [go_sem, sEv, sLook, nbeq, i64_w, -List.getD_eq_getElem?_getD, putCells, e0_, f0_]) ?_
      intro w32 hk33 hk34
      have hs_w32 := hk33.size
      refine rw_end ?_
      refine w_weaken (G' := [(0, .pointer (some ⟨u, 0, none⟩))]) ⟨rfl, trivial⟩ ?_
      refine w_seq ?_
      refine w_region ?_
      refine rw_val (v := .pointer (some ⟨u, 0, none⟩)) (w' := w32) rfl rfl rfl rfl rfl ?_
      refine rw_val (v := .pointer (some ⟨u, 0, none⟩)) (w' := w32) rfl rfl rfl rfl (by simp [go_sem, sEv, sLook, nbeq, i64_w, -List.getD_eq_getElem?_getD]) ?_
      refine rw_val (v := .pointer (some ⟨u, 1, none⟩)) (w' := w32) rfl rfl rfl rfl (by simp [go_sem, sEv, sLook, nbeq, i64_w, -List.getD_eq_getElem?_getD, Try.underlying59]) ?_
      have hb39 := hk34
      refine rw_store (g := u) (i := 1) (l := [.string (⟨#[]⟩ : ByteArray)]) (cs' := #[.string (strOfNums (r.S ++ (r.R.take (0 : Int).toNat))), .string (⟨#[]⟩ : ByteArray), .int .i64 r.st, .bool r.a, .bool r.b, .int .i64 r.l, .int .i64 r.u, .bool r.d]) rfl rfl rfl hb39 rfl (by have e0_ := hb39.cellv (i := 1) (v := (.string (strOfNums r.R) : Value)) rfl; have f0_ := hb39.frozen 1; simp [go_sem, sEv, sLook, nbeq, i64_w, -List.getD_eq_getElem?_getD, putCells, e0_, f0_]) ?_
      intro w36 hk37 hk38
      have hs_w36 := hk37.size
      refine rw_end ?_
      refine w_weaken (G' := [(0, .pointer (some ⟨u, 0, none⟩))]) ⟨rfl, trivial⟩ ?_
      refine w_seq ?_
      refine w_region ?_
      refine rw_val (v := .pointer (some ⟨u, 0, none⟩)) (w' := w36) rfl rfl rfl rfl rfl ?_
      refine rw_val (v := .pointer (some ⟨u, 0, none⟩)) (w' := w36) rfl rfl rfl rfl (by simp [go_sem, sEv, sLook, nbeq, i64_w, -List.getD_eq_getElem?_getD]) ?_
      refine rw_val (v := .pointer (some ⟨u, 3, none⟩)) (w' := w36) rfl rfl rfl rfl (by simp [go_sem, sEv, sLook, nbeq, i64_w, -List.getD_eq_getElem?_getD, Try.underlying59]) ?_
      have hb43 := hk38
      refine rw_store (g := u) (i := 3) (l := [.bool false]) (cs' := #[.string (strOfNums (r.S ++ (r.R.take (0 : Int).toNat))), .string (⟨#[]⟩ : ByteArray), .int .i64 r.st, .bool false, .bool r.b, .int .i64 r.l, .int .i64 r.u, .bool r.d]) rfl rfl rfl hb43 rfl (by have e0_ := hb43.cellv (i := 3) (v := (.bool r.a : Value)) rfl; have f0_ := hb43.frozen 3; simp [go_sem, sEv, sLook, nbeq, i64_w, -List.getD_eq_getElem?_getD, putCells, e0_, f0_]) ?_
      intro w40 hk41 hk42
      have hs_w40 := hk41.size
      refine rw_end ?_
      refine w_weaken (G' := [(0, .pointer (some ⟨u, 0, none⟩))]) ⟨rfl, trivial⟩ ?_
      refine w_seq ?_
      refine w_region ?_
      refine rw_val (v := .pointer (some ⟨u, 0, none⟩)) (w' := w40) rfl rfl rfl rfl rfl ?_
      refine rw_val (v := .pointer (some ⟨u, 0, none⟩)) (w' := w40) rfl rfl rfl rfl (by simp [go_sem, sEv, sLook, nbeq, i64_w, -List.getD_eq_getElem?_getD]) ?_
      refine rw_val (v := .pointer (some ⟨u, 4, none⟩)) (w' := w40) rfl rfl rfl rfl (by simp [go_sem, sEv, sLook, nbeq, i64_w, -List.getD_eq_getElem?_getD, Try.underlying59]) ?_
      have hb47 := hk42
      refine rw_store (g := u) (i := 4) (l := [.bool false]) (cs' := #[.string (strOfNums (r.S ++ (r.R.take (0 : Int).toNat))), .string (⟨#[]⟩ : ByteArray), .int .i64 r.st, .bool false, .bool false, .int .i64 r.l, .int .i64 r.u, .bool r.d]) rfl rfl rfl hb47 rfl (by have e0_ := hb47.cellv (i := 4) (v := (.bool r.b : Value)) rfl; have f0_ := hb47.frozen 4; simp [go_sem, sEv, sLook, nbeq, i64_w, -List.getD_eq_getElem?_getD, putCells, e0_, f0_]) ?_
      intro w44 hk45 hk46
      have hs_w44 := hk45.size
      refine rw_end ?_
      refine w_weaken (G' := [(0, .pointer (some ⟨u, 0, none⟩))]) ⟨rfl, trivial⟩ ?_
      refine w_region ?_
      refine rw_val (v := .pointer (some ⟨u, 0, none⟩)) (w' := w44) rfl rfl rfl rfl rfl ?_
      refine rw_val (v := .pointer (some ⟨u, 0, none⟩)) (w' := w44) rfl rfl rfl rfl (by simp [go_sem, sEv, sLook, nbeq, i64_w, -List.getD_eq_getElem?_getD]) ?_
      refine rw_val (v := .pointer (some ⟨u, 7, none⟩)) (w' := w44) rfl rfl rfl rfl (by simp [go_sem, sEv, sLook, nbeq, i64_w, -List.getD_eq_getElem?_getD, Try.underlying59]) ?_
      have hb51 := hk46
      refine rw_store (g := u) (i := 7) (l := [.bool false]) (cs' := #[.string (strOfNums (r.S ++ (r.R.take (0 : Int).toNat))), .string (⟨#[]⟩ : ByteArray), .int .i64 r.st, .bool false, .bool false, .int .i64 r.l, .int .i64 r.u, .bool false]) rfl rfl rfl hb51 rfl (by have e0_ := hb51.cellv (i := 7) (v := (.bool r.d : Value)) rfl; have f0_ := hb51.frozen 7; simp [go_sem, sEv, sLook, nbeq, i64_w, -List.getD_eq_getElem?_getD, putCells, e0_, f0_]) ?_
      intro w48 hk49 hk50
      have hs_w48 := hk49.size
      refine rw_end ?_
      refine w_weaken (G' := []) trivial ?_
      refine w_end (post_end0 rfl ?_)
      have e2_ : r.crash k = (⟨(r.S ++ (r.R.take (0 : Int).toNat)), [], r.st, false, false, r.l, r.u, false⟩ : RS) := by have e3_ : r.left k = (0 : Int).toNat := (by unfold RS.left; omega); rw [RS.crash, e3_]
      rw [e2_]
      exact ⟨rfl, ((((((Grow.ofB hb30).trans (Grow.ofK hk33)).trans (Grow.ofK hk37)).trans (Grow.ofK hk41)).trans (Grow.ofK hk45)).trans (Grow.ofK hk49)), hk50⟩
  · have l52 : ¬ (k < 0) := of_decide_eq_false c1
    refine w_skip ?_
    refine w_seq ?_
    refine w_seq ?_
    refine w_region ?_
    refine rw_val (v := .int .i64 k) (w' := w) rfl rfl rfl rfl rfl ?_
    refine rw_val (v := .pointer (some ⟨u, 0, none⟩)) (w' := w) rfl rfl rfl rfl rfl ?_
    refine rw_val (v := .pointer (some ⟨u, 0, none⟩)) (w' := w) rfl rfl rfl rfl (by simp [go_sem, sEv, sLook, nbeq, i64_w, -List.getD_eq_getElem?_getD]) ?_
    refine rw_val (v := .pointer (some ⟨u, 1, none⟩)) (w' := w) rfl rfl rfl rfl (by simp [go_sem, sEv, sLook, nbeq, i64_w, -List.getD_eq_getElem?_getD, Try.underlying59]) ?_
    refine rw_val (v := .string (strOfNums r.R)) (w' := w) rfl rfl rfl rfl (by have eb_ := hb; have e0_ := eb_.cellv (i := 1) (v := (.string (strOfNums r.R) : Value)) rfl; simp [go_sem, sEv, sLook, nbeq, i64_w, -List.getD_eq_getElem?_getD, e0_]) ?_
    refine rw_val (v := .int .i64 ((r.R.length : Nat) : Int)) (w' := w) rfl rfl rfl rfl (by simp [go_sem, sEv, sLook, nbeq, i64_w, -List.getD_eq_getElem?_getD, strOfNums_size]) ?_
    refine rw_val (v := .bool (decide (((r.R.length : Nat) : Int) < k))) (w' := w) rfl rfl rfl rfl (by simp [go_sem, sEv, sLook, nbeq, i64_w, -List.getD_eq_getElem?_getD]) ?_
    refine rw_end ?_
    refine w_weaken (G' := [(0, .pointer (some ⟨u, 0, none⟩)), (1, .int .i64 k), (12, .bool (decide (((r.R.length : Nat) : Int) < k)))]) ⟨rfl, rfl, rfl, trivial⟩ ?_
    refine w_cond rfl rfl (fun c53 => ?_) (fun c53 => ?_)
    · have l54 : (((r.R.length : Nat) : Int) < k) := of_decide_eq_true c53
      refine w_region ?_
      refine rw_val (v := .pointer (some ⟨u, 0, none⟩)) (w' := w) rfl rfl rfl rfl rfl ?_
      refine rw_val (v := .pointer (some ⟨u, 0, none⟩)) (w' := w) rfl rfl rfl rfl (by simp [go_sem, sEv, sLook, nbeq, i64_w, -List.getD_eq_getElem?_getD]) ?_
      refine rw_val (v := .pointer (some ⟨u, 1, none⟩)) (w' := w) rfl rfl rfl rfl (by simp [go_sem, sEv, sLook, nbeq, i64_w, -List.getD_eq_getElem?_getD, Try.underlying59]) ?_
      refine rw_val (v := .string (strOfNums r.R)) (w' := w) rfl rfl rfl rfl (by have eb_ := hb; have e0_ := eb_.cellv (i := 1) (v := (.string (strOfNums r.R) : Value)) rfl; simp [go_sem, sEv, sLook, nbeq, i64_w, -List.getD_eq_getElem?_getD, e0_]) ?_
      refine rw_val (v := .int .i64 ((r.R.length : Nat) : Int)) (w' := w) rfl rfl rfl rfl (by simp [go_sem, sEv, sLook, nbeq, i64_w, -List.getD_eq_getElem?_getD, strOfNums_size]) ?_
      refine rw_val (v := .int .i64 ((r.R.length : Nat) : Int)) (w' := w) rfl rfl rfl rfl rfl ?_
      refine rw_end ?_
      refine w_weaken (G' := [(0, .pointer (some ⟨u, 0, none⟩)), (1, .int .i64 ((r.R.length : Nat) : Int))]) ⟨rfl, rfl, trivial⟩ ?_
      refine w_seq ?_
      refine w_drawk (M := [0, 0, 2, 6, 14, 0, 32, 96, 224, 0, 992, 2046, 4095, 8191, 16383]) (ss := [Is (.pointer (some ⟨u, 0, none⟩)), Is (.pointer (some ⟨u, 0, none⟩)), Is (.pointer (some ⟨u, 0, none⟩)), Is (.pointer (some ⟨u, 0, none⟩)), Is (.string (strOfNums r.S)), Is (.pointer (some ⟨u, 0, none⟩)), Is (.pointer (some ⟨u, 0, none⟩)), Is (.pointer (some ⟨u, 1, none⟩)), Is (.string (strOfNums r.R)), Is (.int .i64 ((r.R.length : Nat) : Int)), Is (.string (strOfNums (r.R.take ((r.R.length : Nat) : Int).toNat))), Is (.string (strOfNums (r.S ++ (r.R.take ((r.R.length : Nat) : Int).toNat))))]) 12 rfl (by decide +kernel) ?_
      refine t_is (.pointer (some ⟨u, 0, none⟩)) rfl rfl rfl rfl (fun W_ hW_ F_ => rfl) ?_
      refine t_is (.pointer (some ⟨u, 0, none⟩)) rfl rfl rfl rfl (fun W_ hW_ F_ => rfl) ?_
      refine t_is (.pointer (some ⟨u, 0, none⟩)) rfl rfl rfl rfl (fun W_ hW_ F_ => by simp [go_sem, sEv, sLook, nbeq, i64_w, -List.getD_eq_getElem?_getD]) ?_
      refine t_is (.pointer (some ⟨u, 0, none⟩)) rfl rfl rfl rfl (fun W_ hW_ F_ => by simp [go_sem, sEv, sLook, nbeq, i64_w, -List.getD_eq_getElem?_getD, Try.underlying59]) ?_
      refine t_is (.string (strOfNums r.S)) rfl rfl rfl rfl (fun W_ hW_ F_ => by have eb_ := (hb.on (below_of_drew hW_)); have e0_ := eb_.cellv (i := 0) (v := (.string (strOfNums r.S) : Value)) rfl; simp [go_sem, sEv, sLook, nbeq, i64_w, -List.getD_eq_getElem?_getD, e0_]) ?_
      refine t_is (.pointer (some ⟨u, 0, none⟩)) rfl rfl rfl rfl (fun W_ hW_ F_ => rfl) ?_
      refine t_is (.pointer (some ⟨u, 0, none⟩)) rfl rfl rfl rfl (fun W_ hW_ F_ => by simp [go_sem, sEv, sLook, nbeq, i64_w, -List.getD_eq_getElem?_getD]) ?_
      refine t_is (.pointer (some ⟨u, 1, none⟩)) rfl rfl rfl rfl (fun W_ hW_ F_ => by simp [go_sem, sEv, sLook, nbeq, i64_w, -List.getD_eq_getElem?_getD, Try.underlying59]) ?_
      refine t_is (.string (strOfNums r.R)) rfl rfl rfl rfl (fun W_ hW_ F_ => by have eb_ := (hb.on (below_of_drew hW_)); have e0_ := eb_.cellv (i := 1) (v := (.string (strOfNums r.R) : Value)) rfl; simp [go_sem, sEv, sLook, nbeq, i64_w, -List.getD_eq_getElem?_getD, e0_]) ?_
      refine t_is (.int .i64 ((r.R.length : Nat) : Int)) rfl rfl rfl rfl (fun W_ hW_ F_ => rfl) ?_
      refine t_is (.string (strOfNums (r.R.take ((r.R.length : Nat) : Int).toNat))) rfl rfl rfl rfl (fun W_ hW_ F_ => (run_as (str_to (t := 9) (by kernel_rfl) r.R ((r.R.length : Nat) : Int) (by omega) (by omega) _))) ?_
      refine t_is (.string (strOfNums (r.S ++ (r.R.take ((r.R.length : Nat) : Int).toNat)))) rfl rfl rfl rfl (fun W_ hW_ F_ => (run_as (run_str_add (t := 9) r.S (r.R.take ((r.R.length : Nat) : Int).toNat) (by have h_ := r.next_SR; (try simp only [h_.1, h_.2, List.length_take]); omega) _))) ?_
      refine t_tail ?_
      intro w55 hb56_ F57
      have hb56 := below_of_drew hb56_
      have hs_w55 := hb56.size
      refine rw_val (v := .pointer (some ⟨u, 0, none⟩)) (w' := w55) rfl rfl rfl rfl (by simp [go_sem, sEv, sLook, nbeq, i64_w, -List.getD_eq_getElem?_getD]) ?_
      refine rw_val (v := .pointer (some ⟨u, 0, none⟩)) (w' := w55) rfl rfl rfl rfl (by simp [go_sem, sEv, sLook, nbeq, i64_w, -List.getD_eq_getElem?_getD, Try.underlying59]) ?_
      have hb61 := (hb.on hb56)
      refine rw_store (g := u) (i := 0) (l := [.string (strOfNums (r.S ++ (r.R.take ((r.R.length : Nat) : Int).toNat)))]) (cs' := #[.string (strOfNums (r.S ++ (r.R.take ((r.R.length : Nat) : Int).toNat))), .string (strOfNums r.R), .int .i64 r.st, .bool r.a, .bool r.b, .int .i64 r.l, .int .i64 r.u, .bool r.d]) rfl rfl rfl hb61 rfl (by have e0_ := hb61.cellv (i := 0) (v := (.string (strOfNums r.S) : Value)) rfl; have f0_ := hb61.frozen 0; simp [go_sem, sEv, sLook, nbeq, i64_w, -List.getD_eq_getElem?_getD, putCells, e0_, f0_]) ?_
      intro w58 hk59 hk60
      have hs_w58 := hk59.size
      refine rw_end ?_
      refine w_weaken (G' := [(0, .pointer (some ⟨u, 0, none⟩))]) ⟨rfl, trivial⟩ ?_
      refine w_seq ?_
      refine w_region ?_
      refine rw_val (v := .pointer (some ⟨u, 0, none⟩)) (w' := w58) rfl rfl rfl rfl rfl ?_
      refine rw_val (v := .pointer (some ⟨u, 0, none⟩)) (w' := w58) rfl rfl rfl rfl (by simp [go_sem, sEv, sLook, nbeq, i64_w, -List.getD_eq_getElem?_getD]) ?_
      refine rw_val (v := .pointer (some ⟨u, 1, none⟩)) (w' := w58) rfl rfl rfl rfl (by simp [go_sem, sEv, sLook, nbeq, i64_w, -List.getD_eq_getElem?_getD, Try.underlying59]) ?_
      have hb65 := hk60
      refine rw_store (g := u) (i := 1) (l := [.string (⟨#[]⟩ : ByteArray)]) (cs' := #[.string (strOfNums (r.S ++ (r.R.take ((r.R.length : Nat) : Int).toNat))), .string (⟨#[]⟩ : ByteArray), .int .i64 r.st, .bool r.a, .bool r.b, .int .i64 r.l, .int .i64 r.u, .bool r.d]) rfl rfl rfl hb65 rfl (by have e0_ := hb65.cellv (i := 1) (v := (.string (strOfNums r.R) : Value)) rfl; have f0_ := hb65.frozen 1; simp [go_sem, sEv, sLook, nbeq, i64_w, -List.getD_eq_getElem?_getD, putCells, e0_, f0_]) ?_
      intro w62 hk63 hk64
      have hs_w62 := hk63.size
      refine rw_end ?_
      refine w_weaken (G' := [(0, .pointer (some ⟨u, 0, none⟩))]) ⟨rfl, trivial⟩ ?_
      refine w_seq ?_
      refine w_region ?_
      refine rw_val (v := .pointer (some ⟨u, 0, none⟩)) (w' := w62) rfl rfl rfl rfl rfl ?_
      refine rw_val (v := .pointer (some ⟨u, 0, none⟩)) (w' := w62) rfl rfl rfl rfl (by simp [go_sem, sEv, sLook, nbeq, i64_w, -List.getD_eq_getElem?_getD]) ?_
      refine rw_val (v := .pointer (some ⟨u, 3, none⟩)) (w' := w62) rfl rfl rfl rfl (by simp [go_sem, sEv, sLook, nbeq, i64_w, -List.getD_eq_getElem?_getD, Try.underlying59]) ?_
      have hb69 := hk64
      refine rw_store (g := u) (i := 3) (l := [.bool false]) (cs' := #[.string (strOfNums (r.S ++ (r.R.take ((r.R.length : Nat) : Int).toNat))), .string (⟨#[]⟩ : ByteArray), .int .i64 r.st, .bool false, .bool r.b, .int .i64 r.l, .int .i64 r.u, .bool r.d]) rfl rfl rfl hb69 rfl (by have e0_ := hb69.cellv (i := 3) (v := (.bool r.a : Value)) rfl; have f0_ := hb69.frozen 3; simp [go_sem, sEv, sLook, nbeq, i64_w, -List.getD_eq_getElem?_getD, putCells, e0_, f0_]) ?_
      intro w66 hk67 hk68
      have hs_w66 := hk67.size
      refine rw_end ?_
      refine w_weaken (G' := [(0, .pointer (some ⟨u, 0, none⟩))]) ⟨rfl, trivial⟩ ?_
      refine w_seq ?_
      refine w_region ?_
      refine rw_val (v := .pointer (some ⟨u, 0, none⟩)) (w' := w66) rfl rfl rfl rfl rfl ?_
      refine rw_val (v := .pointer (some ⟨u, 0, none⟩)) (w' := w66) rfl rfl rfl rfl (by simp [go_sem, sEv, sLook, nbeq, i64_w, -List.getD_eq_getElem?_getD]) ?_
      refine rw_val (v := .pointer (some ⟨u, 4, none⟩)) (w' := w66) rfl rfl rfl rfl (by simp [go_sem, sEv, sLook, nbeq, i64_w, -List.getD_eq_getElem?_getD, Try.underlying59]) ?_
      have hb73 := hk68
      refine rw_store (g := u) (i := 4) (l := [.bool false]) (cs' := #[.string (strOfNums (r.S ++ (r.R.take ((r.R.length : Nat) : Int).toNat))), .string (⟨#[]⟩ : ByteArray), .int .i64 r.st, .bool false, .bool false, .int .i64 r.l, .int .i64 r.u, .bool r.d]) rfl rfl rfl hb73 rfl (by have e0_ := hb73.cellv (i := 4) (v := (.bool r.b : Value)) rfl; have f0_ := hb73.frozen 4; simp [go_sem, sEv, sLook, nbeq, i64_w, -List.getD_eq_getElem?_getD, putCells, e0_, f0_]) ?_
      intro w70 hk71 hk72
      have hs_w70 := hk71.size
      refine rw_end ?_
      refine w_weaken (G' := [(0, .pointer (some ⟨u, 0, none⟩))]) ⟨rfl, trivial⟩ ?_
      refine w_region ?_
      refine rw_val (v := .pointer (some ⟨u, 0, none⟩)) (w' := w70) rfl rfl rfl rfl rfl ?_
      refine rw_val (v := .pointer (some ⟨u, 0, none⟩)) (w' := w70) rfl rfl rfl rfl (by simp [go_sem, sEv, sLook, nbeq, i64_w, -List.getD_eq_getElem?_getD]) ?_
      refine rw_val (v := .pointer (some ⟨u, 7, none⟩)) (w' := w70) rfl rfl rfl rfl (by simp [go_sem, sEv, sLook, nbeq, i64_w, -List.getD_eq_getElem?_getD, Try.underlying59]) ?_
      have hb77 := hk72
      refine rw_store (g := u) (i := 7) (l := [.bool false]) (cs' := #[.string (strOfNums (r.S ++ (r.R.take ((r.R.length : Nat) : Int).toNat))), .string (⟨#[]⟩ : ByteArray), .int .i64 r.st, .bool false, .bool false, .int .i64 r.l, .int .i64 r.u, .bool false]) rfl rfl rfl hb77 rfl (by have e0_ := hb77.cellv (i := 7) (v := (.bool r.d : Value)) rfl; have f0_ := hb77.frozen 7; simp [go_sem, sEv, sLook, nbeq, i64_w, -List.getD_eq_getElem?_getD, putCells, e0_, f0_]) ?_
      intro w74 hk75 hk76
      have hs_w74 := hk75.size
      refine rw_end ?_
      refine w_weaken (G' := []) trivial ?_
      refine w_end (post_end0 rfl ?_)
      have e2_ : r.crash k = (⟨(r.S ++ (r.R.take ((r.R.length : Nat) : Int).toNat)), [], r.st, false, false, r.l, r.u, false⟩ : RS) := by have e3_ : r.left k = ((r.R.length : Nat) : Int).toNat := (by unfold RS.left; omega); rw [RS.crash, e3_]
      rw [e2_]
      exact ⟨rfl, ((((((Grow.ofB hb56).trans (Grow.ofK hk59)).trans (Grow.ofK hk63)).trans (Grow.ofK hk67)).trans (Grow.ofK hk71)).trans (Grow.ofK hk75)), hk76⟩
    · have l78 : ¬ (((r.R.length : Nat) : Int) < k) := of_decide_eq_false c53
      refine w_skip ?_
      refine w_seq ?_
      refine w_drawk (M := [0, 0, 2, 6, 14, 0, 32, 96, 224, 0, 992, 2046, 4095, 8191, 16383]) (ss := [Is (.pointer (some ⟨u, 0, none⟩)), Is (.pointer (some ⟨u, 0, none⟩)), Is (.pointer (some ⟨u, 0, none⟩)), Is (.pointer (some ⟨u, 0, none⟩)), Is (.string (strOfNums r.S)), Is (.pointer (some ⟨u, 0, none⟩)), Is (.pointer (some ⟨u, 0, none⟩)), Is (.pointer (some ⟨u, 1, none⟩)), Is (.string (strOfNums r.R)), Is (.int .i64 k), Is (.string (strOfNums (r.R.take k.toNat))), Is (.string (strOfNums (r.S ++ (r.R.take k.toNat))))]) 12 rfl (by decide +kernel) ?_
      refine t_is (.pointer (some ⟨u, 0, none⟩)) rfl rfl rfl rfl (fun W_ hW_ F_ => rfl) ?_
      refine t_is (.pointer (some ⟨u, 0, none⟩)) rfl rfl rfl rfl (fun W_ hW_ F_ => rfl) ?_
      refine t_is (.pointer (some ⟨u, 0, none⟩)) rfl rfl rfl rfl (fun W_ hW_ F_ => by simp [go_sem, sEv, sLook, nbeq, i64_w, -List.getD_eq_getElem?_getD]) ?_
      refine t_is (.pointer (some ⟨u, 0, none⟩)) rfl rfl rfl rfl (fun W_ hW_ F_ => by simp [go_sem, sEv, sLook, nbeq, i64_w, -List.getD_eq_getElem?_getD, Try.underlying59]) ?_
      refine t_is (.string (strOfNums r.S)) rfl rfl rfl rfl (fun W_ hW_ F_ => by have eb_ := (hb.on (below_of_drew hW_)); have e0_ := eb_.cellv (i := 0) (v := (.string (strOfNums r.S) : Value)) rfl; simp [go_sem, sEv, sLook, nbeq, i64_w, -List.getD_eq_getElem?_getD, e0_]) ?_
      refine t_is (.pointer (some ⟨u, 0, none⟩)) rfl rfl rfl rfl (fun W_ hW_ F_ => rfl) ?_
      refine t_is (.pointer (some ⟨u, 0, none⟩)) rfl rfl rfl rfl (fun W_ hW_ F_ => by simp [go_sem, sEv, sLook, nbeq, i64_w, -List.getD_eq_getElem?_getD]) ?_
      refine t_is (.pointer (some ⟨u, 1, none⟩)) rfl rfl rfl rfl (fun W_ hW_ F_ => by simp [go_sem, sEv, sLook, nbeq, i64_w, -List.getD_eq_getElem?_getD, Try.underlying59]) ?_
      refine t_is (.string (strOfNums r.R)) rfl rfl rfl rfl (fun W_ hW_ F_ => by have eb_ := (hb.on (below_of_drew hW_)); have e0_ := eb_.cellv (i := 1) (v := (.string (strOfNums r.R) : Value)) rfl; simp [go_sem, sEv, sLook, nbeq, i64_w, -List.getD_eq_getElem?_getD, e0_]) ?_
      refine t_is (.int .i64 k) rfl rfl rfl rfl (fun W_ hW_ F_ => rfl) ?_
      refine t_is (.string (strOfNums (r.R.take k.toNat))) rfl rfl rfl rfl (fun W_ hW_ F_ => (run_as (str_to (t := 9) (by kernel_rfl) r.R k (by omega) (by omega) _))) ?_
      refine t_is (.string (strOfNums (r.S ++ (r.R.take k.toNat)))) rfl rfl rfl rfl (fun W_ hW_ F_ => (run_as (run_str_add (t := 9) r.S (r.R.take k.toNat) (by have h_ := r.next_SR; (try simp only [h_.1, h_.2, List.length_take]); omega) _))) ?_
      refine t_tail ?_
      intro w79 hb80_ F81
      have hb80 := below_of_drew hb80_
      have hs_w79 := hb80.size
      refine rw_val (v := .pointer (some ⟨u, 0, none⟩)) (w' := w79) rfl rfl rfl rfl (by simp [go_sem, sEv, sLook, nbeq, i64_w, -List.getD_eq_getElem?_getD]) ?_
      refine rw_val (v := .pointer (some ⟨u, 0, none⟩)) (w' := w79) rfl rfl rfl rfl (by simp [go_sem, sEv, sLook, nbeq, i64_w, -List.getD_eq_getElem?_getD, Try.underlying59]) ?_
      have hb85 := (hb.on hb80)
      refine rw_store (g := u) (i := 0) (l := [.string (strOfNums (r.S ++ (r.R.take k.toNat)))]) (cs' := #[.string (strOfNums (r.S ++ (r.R.take k.toNat))), .string (strOfNums r.R), .int .i64 r.st, .bool r.a, .bool r.b, .int .i64 r.l, .int .i64 r.u, .bool r.d]) rfl rfl rfl hb85 rfl (by have e0_ := hb85.cellv (i := 0) (v := (.string (strOfNums r.S) : Value)) rfl; have f0_ := hb85.frozen 0; simp [go_sem, sEv, sLook, nbeq, i64_w, -List.getD_eq_getElem?_getD, putCells, e0_, f0_]) ?_
      intro w82 hk83 hk84
      have hs_w82 := hk83.size
      refine rw_end ?_
      refine w_weaken (G' := [(0, .pointer (some ⟨u, 0, none⟩))]) ⟨rfl, trivial⟩ ?_
      refine w_seq ?_
      refine w_region ?_
      refine rw_val (v := .pointer (some ⟨u, 0, none⟩)) (w' := w82) rfl rfl rfl rfl rfl ?_
      refine rw_val (v := .pointer (some ⟨u, 0, none⟩)) (w' := w82) rfl rfl rfl rfl (by simp [go_sem, sEv, sLook, nbeq, i64_w, -List.getD_eq_getElem?_getD]) ?_
      refine rw_val (v := .pointer (some ⟨u, 1, none⟩)) (w' := w82) rfl rfl rfl rfl (by simp [go_sem, sEv, sLook, nbeq, i64_w, -List.getD_eq_getElem?_getD, Try.underlying59]) ?_
      have hb89 := hk84
      refine rw_store (g := u) (i := 1) (l := [.string (⟨#[]⟩ : ByteArray)]) (cs' := #[.string (strOfNums (r.S ++ (r.R.take k.toNat))), .string (⟨#[]⟩ : ByteArray), .int .i64 r.st, .bool r.a, .bool r.b, .int .i64 r.l, .int .i64 r.u, .bool r.d]) rfl rfl rfl hb89 rfl (by have e0_ := hb89.cellv (i := 1) (v := (.string (strOfNums r.R) : Value)) rfl; have f0_ := hb89.frozen 1; simp [go_sem, sEv, sLook, nbeq, i64_w, -List.getD_eq_getElem?_getD, putCells, e0_, f0_]) ?_
      intro w86 hk87 hk88
      have hs_w86 := hk87.size
      refine rw_end ?_
      refine w_weaken (G' := [(0, .pointer (some ⟨u, 0, none⟩))]) ⟨rfl, trivial⟩ ?_
      refine w_seq ?_
      refine w_region ?_
      refine rw_val (v := .pointer (some ⟨u, 0, none⟩)) (w' := w86) rfl rfl rfl rfl rfl ?_
      refine rw_val (v := .pointer (some ⟨u, 0, none⟩)) (w' := w86) rfl rfl rfl rfl (by simp [go_sem, sEv, sLook, nbeq, i64_w, -List.getD_eq_getElem?_getD]) ?_
      refine rw_val (v := .pointer (some ⟨u, 3, none⟩)) (w' := w86) rfl rfl rfl rfl (by simp [go_sem, sEv, sLook, nbeq, i64_w, -List.getD_eq_getElem?_getD, Try.underlying59]) ?_
      have hb93 := hk88
      refine rw_store (g := u) (i := 3) (l := [.bool false]) (cs' := #[.string (strOfNums (r.S ++ (r.R.take k.toNat))), .string (⟨#[]⟩ : ByteArray), .int .i64 r.st, .bool false, .bool r.b, .int .i64 r.l, .int .i64 r.u, .bool r.d]) rfl rfl rfl hb93 rfl (by have e0_ := hb93.cellv (i := 3) (v := (.bool r.a : Value)) rfl; have f0_ := hb93.frozen 3; simp [go_sem, sEv, sLook, nbeq, i64_w, -List.getD_eq_getElem?_getD, putCells, e0_, f0_]) ?_
      intro w90 hk91 hk92
      have hs_w90 := hk91.size
      refine rw_end ?_
      refine w_weaken (G' := [(0, .pointer (some ⟨u, 0, none⟩))]) ⟨rfl, trivial⟩ ?_
      refine w_seq ?_
      refine w_region ?_
      refine rw_val (v := .pointer (some ⟨u, 0, none⟩)) (w' := w90) rfl rfl rfl rfl rfl ?_
      refine rw_val (v := .pointer (some ⟨u, 0, none⟩)) (w' := w90) rfl rfl rfl rfl (by simp [go_sem, sEv, sLook, nbeq, i64_w, -List.getD_eq_getElem?_getD]) ?_
      refine rw_val (v := .pointer (some ⟨u, 4, none⟩)) (w' := w90) rfl rfl rfl rfl (by simp [go_sem, sEv, sLook, nbeq, i64_w, -List.getD_eq_getElem?_getD, Try.underlying59]) ?_
      have hb97 := hk92
      refine rw_store (g := u) (i := 4) (l := [.bool false]) (cs' := #[.string (strOfNums (r.S ++ (r.R.take k.toNat))), .string (⟨#[]⟩ : ByteArray), .int .i64 r.st, .bool false, .bool false, .int .i64 r.l, .int .i64 r.u, .bool r.d]) rfl rfl rfl hb97 rfl (by have e0_ := hb97.cellv (i := 4) (v := (.bool r.b : Value)) rfl; have f0_ := hb97.frozen 4; simp [go_sem, sEv, sLook, nbeq, i64_w, -List.getD_eq_getElem?_getD, putCells, e0_, f0_]) ?_
      intro w94 hk95 hk96
      have hs_w94 := hk95.size
      refine rw_end ?_
      refine w_weaken (G' := [(0, .pointer (some ⟨u, 0, none⟩))]) ⟨rfl, trivial⟩ ?_
      refine w_region ?_
      refine rw_val (v := .pointer (some ⟨u, 0, none⟩)) (w' := w94) rfl rfl rfl rfl rfl ?_
      refine rw_val (v := .pointer (some ⟨u, 0, none⟩)) (w' := w94) rfl rfl rfl rfl (by simp [go_sem, sEv, sLook, nbeq, i64_w, -List.getD_eq_getElem?_getD]) ?_
      refine rw_val (v := .pointer (some ⟨u, 7, none⟩)) (w' := w94) rfl rfl rfl rfl (by simp [go_sem, sEv, sLook, nbeq, i64_w, -List.getD_eq_getElem?_getD, Try.underlying59]) ?_
      have hb101 := hk96
      refine rw_store (g := u) (i := 7) (l := [.bool false]) (cs' := #[.string (strOfNums (r.S ++ (r.R.take k.toNat))), .string (⟨#[]⟩ : ByteArray), .int .i64 r.st, .bool false, .bool false, .int .i64 r.l, .int .i64 r.u, .bool false]) rfl rfl rfl hb101 rfl (by have e0_ := hb101.cellv (i := 7) (v := (.bool r.d : Value)) rfl; have f0_ := hb101.frozen 7; simp [go_sem, sEv, sLook, nbeq, i64_w, -List.getD_eq_getElem?_getD, putCells, e0_, f0_]) ?_
      intro w98 hk99 hk100
      have hs_w98 := hk99.size
      refine rw_end ?_
      refine w_weaken (G' := []) trivial ?_
      refine w_end (post_end0 rfl ?_)
      have e2_ : r.crash k = (⟨(r.S ++ (r.R.take k.toNat)), [], r.st, false, false, r.l, r.u, false⟩ : RS) := by have e3_ : r.left k = k.toNat := (by unfold RS.left; omega); rw [RS.crash, e3_]
      rw [e2_]
      exact ⟨rfl, ((((((Grow.ofB hb80).trans (Grow.ofK hk83)).trans (Grow.ofK hk87)).trans (Grow.ofK hk91)).trans (Grow.ofK hk95)).trans (Grow.ofK hk99)), hk100⟩
end Go.Proofs.Ytiiljpaedelhlaa.Tp
end
section
namespace Go.Proofs.Ytiiljpaedelhlaa.Tp
open Go.RowKit Go.Proofs.YtiiljpaedelhlaaW.PrintWords Go.Proofs.YtiiljpaedelhlaaW.PrintLast Go.Proofs.YtiiljpaedelhlaaW.PrintMore
open Go.Proofs.Ytiiljpaedelhlaa.Flow
set_option linter.unusedVariables false
set_option linter.unusedSimpArgs false
theorem make0_run (w : World) (l : Int) (n : Nat) (hl : l = (n : Int)) (hn : n ≤ 16777216) : (Instr.makeSlice 32 (.int .i64 0) (.int .i64 l)).run Try.prog w = .ok (.slice (some ⟨w.heap.size, 0, none⟩) 0 n) (w.alloc (.cells (madeCells #[Value.int .u8 0] n) 5)) := by
  subst hl
  obtain ⟨i5, hi5, hz5⟩ := Option.map_eq_some_iff.1 info5
  simp only [Prod.mk.injEq] at hz5
  have h := run_makeSlice (P := Try.prog) w 32 5 i5 (.int .u8 0) (by kernel_rfl) hi5 hz5.1 .i64 .i64 0 (n : Int) (by omega) (by omega) (by rw [hz5.2.1]; omega) (by rw [hz5.2.2]; omega) (by omega)
  simp only [Int.toNat_natCast, hz5.2.1, Nat.mul_one] at h
  exact h
theorem upto_run {P : Program} {t e : TypeId} (hu : P.underlying t = some (.slice e)) {sz : Nat} (hz : ∀ w, (sizeOf e).run P w = .ok sz w) {A : Option Addr} {n c : Nat} {x : Int} (h0 : 0 ≤ x) (h1 : x ≤ c) (w : World) : (Instr.sliceAt t (.slice A n c) none (some (.int .i64 x)) none).run P w = .ok (.slice A x.toNat c) w := by
  simp [go_sem, hu, h0, h1, hz]
theorem made_size (n : Nat) : (madeCells #[Value.int .u8 0] n).size = n := by
  rw [← Array.length_toList, toList_madeCells_one]
  simp
set_option maxHeartbeats 4000000 in
theorem copy_calls (w : World) (A0 : Option Addr) (c0 : Nat) (b : List Int) (hC : (Kd.int .u8).C w A0 b.length b) (hc : b.length ≤ c0) (hl : b.length ≤ 1000000) :
    Calls Try.prog 27 #[.slice A0 b.length c0] w fun e w' => ∃ A' c', e = .returned (.slice A' b.length c') ∧ Own .u8 5 w' w.heap.size w.heap.size A' (b.length + 2) c' (b ++ [165, 90]) ∧ Below w.heap.size w w' := by
  refine calls_flow Try.func27 rfl 14 rfl (Nat.le_of_ble_eq_true rfl) [(0, .slice A0 b.length c0)] ?_ ?_
  · intro t v h; exact args_look rfl t v h
  refine w_seq ?_
  refine w_region ?_
  refine rw_val (v := .slice none 0 0) (w' := w) rfl rfl rfl rfl rfl ?_
  refine rw_end ?_
  refine w_seq ?_
  refine w_region ?_
  refine rw_val (v := .slice A0 b.length c0) (w' := w) rfl rfl rfl rfl rfl ?_
  refine rw_val (v := .int .i64 (b.length : Int)) (w' := w) rfl rfl rfl rfl (by simp [go_sem, sEv, sLook, nbeq, i64_w, -List.length_flatten]) ?_
  refine rw_val (v := .int .i64 ((b.length + 2 : Nat) : Int)) (w' := w) rfl rfl rfl rfl (by simp [go_sem, sEv, sLook, nbeq, i64_w, -List.length_flatten]; exact wrap_id (by omega) (by omega)) ?_
  refine rw_new (cs := madeCells #[Value.int .u8 0] (b.length + 2)) (t := 5) (fun g => .slice (some ⟨g, 0, none⟩) 0 (b.length + 2)) rfl rfl rfl rfl (run_as (make0_run _ _ (b.length + 2) (by omega) (by omega))) ?_
  intro g1 w2 hg6 hz5 hb3 hk4
  have hs_w2 := hb3.size
  have hO7 : Own .u8 5 w2 w.heap.size w.heap.size (some ⟨g1, 0, none⟩) 0 (b.length + 2) [] := Own.mono (own_blk (xs := []) w.heap.size hk4 (by omega) (made_size _) (by simp) (by omega) (Nums.nil _ _)) (by omega)
  refine rw_val (v := .slice A0 b.length c0) (w' := w2) rfl rfl rfl rfl rfl ?_
  refine rw_append_row .u8 w.heap.size rfl rfl rfl (.tmp 6) (.tmp 7) rfl rfl 32 5 1 rfl (by kernel_rfl) info5 (by decide) (b := w.heap.size) rfl rfl (by omega) (hO7.on (Below.refl _ _)) (Kd.C_below hC hb3) hb3 (by omega) (by simp; omega) ?_
  intro A8 n9 c10 w11 hn12 hO13 hB14 hG15
  have hs_w11 := hB14.size
  have hgs_w11 := hG15.size
  refine rw_new (cs := #[.int .u8 165, .int .u8 90]) (t := 5) (fun g => .slice (some ⟨g, 0, none⟩) 2 2) rfl rfl rfl rfl (by kernel_rfl) ?_
  intro g16 w17 hg21 hz20 hb18 hk19
  have hs_w17 := hb18.size
  have hO22 : Own .u8 5 w17 w.heap.size g16 (some ⟨g16, 0, none⟩) 2 2 [165, 90] := own_blk (xs := [165, 90]) w.heap.size hk19 (by omega) rfl (by simp) (by omega) (fun j hj => by
    match j, hj with
    | 0, _ => rfl
    | 1, _ => rfl
    | j + 2, hj => simp at hj; omega)
  refine rw_append_row .u8 w.heap.size rfl rfl rfl (.tmp 8) (.tmp 9) rfl rfl 32 5 1 rfl (by kernel_rfl) info5 (by decide) (b := w.heap.size) rfl rfl (by omega) (hO13.on hb18) (Kd.C_below (Own.C hO22) (Below.refl _ _)) (chain hB14 hb18) (by omega) (by simp; omega) ?_
  intro A23 n24 c25 w26 hn27 hO28 hB29 hG30
  have hs_w26 := hB29.size
  have hgs_w26 := hG30.size
  refine rw_val (v := .slice A0 b.length c0) (w' := w26) rfl rfl rfl rfl rfl ?_
  refine rw_val (v := .int .i64 (b.length : Int)) (w' := w26) rfl rfl rfl rfl (by simp [go_sem, sEv, sLook, nbeq, i64_w, -List.length_flatten]) ?_
  have hn_ := hO28.len
  have hcp_ := hO28.cap
  simp only [List.nil_append, List.length_append, List.length_cons, List.length_nil] at hn_
  refine rw_val (v := .slice A23 b.length c25) (w' := w26) rfl rfl rfl rfl (by have h_ := upto_run (P := Try.prog) (t := 32) (e := 5) (sz := 1) (by kernel_rfl) (fun _ => by kernel_rfl) (A := A23) (n := n24) (c := c25) (x := (b.length : Int)) (by omega) (by omega) w26; rw [Int.toNat_natCast] at h_; exact run_as h_) ?_
  refine rw_val (v := .slice A23 b.length c25) (w' := w26) rfl rfl rfl rfl rfl ?_
  refine rw_end ?_
  refine w_weaken (G' := [(2, .slice A23 b.length c25)]) ⟨rfl, trivial⟩ ?_
  refine w_ret (post_ret1 rfl rfl ?_)
  have hf_ : Own .u8 5 w26 w.heap.size w.heap.size A23 (b.length + 2) c25 (b ++ [165, 90]) := by have h_ := (hO28.on (Below.refl _ _)); rw [show n24 = b.length + 2 by omega] at h_; simpa using h_
  exact ⟨_, _, rfl, hf_, hB29⟩
theorem rd_mark0 (b : List Int) : rd (b ++ [165, 90]) ((b.length : Nat) : Int) = 165 := by
  rw [rd_at _ b.length (by simp)]
  simp
theorem rd_mark1 (b : List Int) : rd (b ++ [165, 90]) ((b.length + 1 : Nat) : Int) = 90 := by
  rw [rd_at _ (b.length + 1) (by simp)]
  simp
set_option maxHeartbeats 4000000 in
theorem kept_calls (w : World) (A0 B0 : Option Addr) (c0 cb : Nat) (b : List Int) (hM : (Kd.int .u8).C w A0 (b.length + 2) (b ++ [165, 90])) (hMs : (Kd.int .u8).C w A0 b.length b) (hM2 : b.length + 2 ≤ c0) (hMc : b.length ≤ c0) (hC : (Kd.int .u8).C w B0 b.length b) (hc : b.length ≤ cb) (hl : b.length ≤ 1000000) :
    Calls Try.prog 30 #[.slice A0 b.length c0, .slice B0 b.length cb] w fun e w' => e = .returned (.bool true) ∧ Below w.heap.size w w' := by
  refine calls_flow Try.func30 rfl 39 rfl (Nat.le_of_ble_eq_true rfl) [(0, .slice A0 b.length c0), (1, .slice B0 b.length cb)] ?_ ?_
  · intro t v h; exact args_look rfl t v h
  refine w_seq ?_
  refine w_region ?_
  refine rw_val (v := .bool false) (w' := w) rfl rfl rfl rfl rfl ?_
  refine rw_end ?_
  refine w_seq ?_
  refine w_seq ?_
  refine w_region ?_
  refine rw_val (v := .slice A0 b.length c0) (w' := w) rfl rfl rfl rfl rfl ?_
  refine rw_val (v := .string (strOfNums b)) (w' := w) rfl rfl rfl rfl (run_as (run_str_of (P := Try.prog) (e := 5) (by kernel_rfl) (by kernel_rfl) (by kernel_rfl) (Kd.C_below hMs (Below.refl _ _)))) ?_
  refine rw_val (v := .slice B0 b.length cb) (w' := w) rfl rfl rfl rfl rfl ?_
  refine rw_val (v := .string (strOfNums b)) (w' := w) rfl rfl rfl rfl (run_as (run_str_of (P := Try.prog) (e := 5) (by kernel_rfl) (by kernel_rfl) (by kernel_rfl) (Kd.C_below hC (Below.refl _ _)))) ?_
  refine rw_val (v := .bool false) (w' := w) rfl rfl rfl rfl (run_bool (run_as (run_str_neq 9 _ _ _)) (by simp)) ?_
  refine rw_val (v := .bool false) (w' := w) rfl rfl rfl rfl rfl ?_
  refine rw_on (c := false) rfl rfl rfl rfl ?_
  refine rw_val (v := .slice A0 b.length c0) (w' := w) rfl rfl rfl rfl rfl ?_
  refine rw_on (c := false) rfl rfl rfl rfl ?_
  refine rw_val (v := .int .i64 (c0 : Int)) (w' := w) rfl rfl rfl rfl (by simp [go_sem, sEv, sLook, nbeq, i64_w, -List.length_flatten]) ?_
  refine rw_on (c := false) rfl rfl rfl rfl ?_
  refine rw_val (v := .slice B0 b.length cb) (w' := w) rfl rfl rfl rfl rfl ?_
  refine rw_on (c := false) rfl rfl rfl rfl ?_
  refine rw_val (v := .int .i64 (b.length : Int)) (w' := w) rfl rfl rfl rfl (by simp [go_sem, sEv, sLook, nbeq, i64_w, -List.length_flatten]) ?_
  refine rw_on (c := false) rfl rfl rfl rfl ?_
  refine rw_val (v := .int .i64 ((b.length + 2 : Nat) : Int)) (w' := w) rfl rfl rfl rfl (by simp [go_sem, sEv, sLook, nbeq, i64_w, -List.length_flatten]; exact wrap_id (by omega) (by omega)) ?_
  refine rw_on (c := false) rfl rfl rfl rfl ?_
  refine rw_val (v := .bool (decide ((c0 : Int) < ((b.length + 2 : Nat) : Int)))) (w' := w) rfl rfl rfl rfl (by simp [go_sem, sEv, sLook, nbeq, i64_w, -List.length_flatten]) ?_
  refine rw_val (v := .bool (decide ((c0 : Int) < ((b.length + 2 : Nat) : Int)))) (w' := w) rfl rfl rfl rfl (by simp [go_sem, sEv, sLook, nbeq, i64_w, -List.length_flatten]) ?_
  refine rw_end ?_
  refine w_weaken (G' := [(0, .slice A0 b.length c0), (1, .slice B0 b.length cb), (4, .bool false), (18, .bool (decide ((c0 : Int) < ((b.length + 2 : Nat) : Int))))]) ⟨rfl, rfl, rfl, rfl, trivial⟩ ?_
  have hq1 : (decide ((c0 : Int) < ((b.length + 2 : Nat) : Int))) = false := by exact decide_eq_false (by omega)
  refine w_cond_f rfl rfl hq1 ?_
  refine w_skip ?_
  refine w_seq ?_
  refine w_region ?_
  refine rw_val (v := .slice A0 b.length c0) (w' := w) rfl rfl rfl rfl rfl ?_
  refine rw_val (v := .slice B0 b.length cb) (w' := w) rfl rfl rfl rfl rfl ?_
  refine rw_val (v := .int .i64 (b.length : Int)) (w' := w) rfl rfl rfl rfl (by simp [go_sem, sEv, sLook, nbeq, i64_w, -List.length_flatten]) ?_
  refine rw_val (v := .int .i64 ((b.length + 2 : Nat) : Int)) (w' := w) rfl rfl rfl rfl (by simp [go_sem, sEv, sLook, nbeq, i64_w, -List.length_flatten]; exact wrap_id (by omega) (by omega)) ?_
  refine rw_val (v := .slice A0 (b.length + 2) c0) (w' := w) rfl rfl rfl rfl (by have h_ := upto_run (P := Try.prog) (t := 32) (e := 5) (sz := 1) (by kernel_rfl) (fun _ => by kernel_rfl) (A := A0) (n := b.length) (c := c0) (x := ((b.length + 2 : Nat) : Int)) (by omega) (by omega) w; rw [Int.toNat_natCast] at h_; exact run_as h_) ?_
  refine rw_val (v := .slice A0 (b.length + 2) c0) (w' := w) rfl rfl rfl rfl rfl ?_
  refine rw_end ?_
  refine w_weaken (G' := [(1, .slice B0 b.length cb), (4, .bool false), (5, .slice A0 (b.length + 2) c0)]) ⟨rfl, rfl, rfl, trivial⟩ ?_
  refine w_seq ?_
  refine w_region ?_
  refine rw_val (v := .slice A0 (b.length + 2) c0) (w' := w) rfl rfl rfl rfl rfl ?_
  refine rw_val (v := .slice B0 b.length cb) (w' := w) rfl rfl rfl rfl rfl ?_
  refine rw_val (v := .int .i64 (b.length : Int)) (w' := w) rfl rfl rfl rfl (by simp [go_sem, sEv, sLook, nbeq, i64_w, -List.length_flatten]) ?_
  obtain ⟨ad, hA_, hcell0_⟩ := Kd.at_int hM ((b.length : Nat) : Int) (by omega) (by omega)
  obtain ⟨ad2, hA2_, hcell1_⟩ := Kd.at_int hM ((b.length + 1 : Nat) : Int) (by omega) (by omega)
  rw [hA_] at hA2_
  obtain rfl := Option.some.inj hA2_
  rw [Int.toNat_natCast] at hcell0_ hcell1_
  rw [rd_mark0] at hcell0_
  rw [rd_mark1, Flow.add_pos] at hcell1_
  refine rw_val (v := .pointer (some (ad.add b.length))) (w' := w) rfl rfl rfl rfl (by simp [go_sem, sEv, sLook, nbeq, i64_w, -List.length_flatten, Try.underlying32, hA_]; try omega) ?_
  refine rw_val (v := .int .u8 165) (w' := w) rfl rfl rfl rfl (by simp [go_sem, sEv, sLook, nbeq, i64_w, -List.length_flatten, hcell0_]) ?_
  refine rw_val (v := .bool true) (w' := w) rfl rfl rfl rfl (by simp [go_sem, sEv, sLook, nbeq, i64_w, -List.length_flatten]) ?_
  refine rw_val (v := .bool true) (w' := w) rfl rfl rfl rfl rfl ?_
  refine rw_on (c := true) rfl rfl rfl rfl ?_
  refine rw_val (v := .slice A0 (b.length + 2) c0) (w' := w) rfl rfl rfl rfl rfl ?_
  refine rw_on (c := true) rfl rfl rfl rfl ?_
  refine rw_val (v := .slice B0 b.length cb) (w' := w) rfl rfl rfl rfl rfl ?_
  refine rw_on (c := true) rfl rfl rfl rfl ?_
  refine rw_val (v := .int .i64 (b.length : Int)) (w' := w) rfl rfl rfl rfl (by simp [go_sem, sEv, sLook, nbeq, i64_w, -List.length_flatten]) ?_
  refine rw_on (c := true) rfl rfl rfl rfl ?_
  refine rw_val (v := .int .i64 ((b.length + 1 : Nat) : Int)) (w' := w) rfl rfl rfl rfl (by simp [go_sem, sEv, sLook, nbeq, i64_w, -List.length_flatten]; exact wrap_id (by omega) (by omega)) ?_
  refine rw_on (c := true) rfl rfl rfl rfl ?_
  refine rw_val (v := .pointer (some (ad.add (b.length + 1)))) (w' := w) rfl rfl rfl rfl (by simp [go_sem, sEv, sLook, nbeq, i64_w, -List.length_flatten, Try.underlying32, hA_]; try omega) ?_
  refine rw_on (c := true) rfl rfl rfl rfl ?_
  refine rw_val (v := .int .u8 90) (w' := w) rfl rfl rfl rfl (by simp [go_sem, sEv, sLook, nbeq, i64_w, -List.length_flatten, hcell1_]) ?_
  refine rw_on (c := true) rfl rfl rfl rfl ?_
  refine rw_val (v := .bool true) (w' := w) rfl rfl rfl rfl (by simp [go_sem, sEv, sLook, nbeq, i64_w, -List.length_flatten]) ?_
  refine rw_val (v := .bool true) (w' := w) rfl rfl rfl rfl (by simp [go_sem, sEv, sLook, nbeq, i64_w, -List.length_flatten]) ?_
  refine rw_val (v := .bool true) (w' := w) rfl rfl rfl rfl rfl ?_
  refine rw_end ?_
  refine w_weaken (G' := [(4, .bool true)]) ⟨rfl, trivial⟩ ?_
  refine w_ret (post_ret1 rfl rfl ?_)
  exact ⟨rfl, (Below.refl _ _)⟩
end Go.Proofs.Ytiiljpaedelhlaa.Tp
end
section
namespace Go.Proofs.Ytiiljpaedelhlaa.Tp
open Go.RowKit Go.Proofs.YtiiljpaedelhlaaW.PrintWords Go.Proofs.YtiiljpaedelhlaaW.PrintLast Go.Proofs.YtiiljpaedelhlaaW.PrintMore
open Go.Proofs.Ytiiljpaedelhlaa.Flow
set_option linter.unusedVariables false
set_option linter.unusedSimpArgs false
theorem getD_left {a b : List Int} {j : Nat} (h : j < a.length) : (a ++ b).getD j 0 = a.getD j 0 := by
  rw [List.getD_eq_getElem?_getD, List.getD_eq_getElem?_getD, List.getElem?_append_left h]
theorem copyB (w : World) (A0 : Option Addr) (c0 : Nat) (b : List Int) (hC : (Kd.int .u8).C w A0 b.length b) (hc : b.length ≤ c0) (hl : b.length ≤ 1000000) :
    Calls Try.prog 27 #[.slice A0 b.length c0] w fun e w' => ∃ (g : Nat) (cs : Array Value) (c : Nat), e = .returned (.slice (some ⟨g, 0, none⟩) b.length c) ∧ w.heap.size ≤ g ∧ Blk w' g 5 cs ∧ Nums .u8 cs (b ++ [165, 90]) ∧ b.length + 2 ≤ c ∧ b.length + 2 ≤ cs.size ∧ Below w.heap.size w w' := by
  refine (copy_calls w A0 c0 b hC hc hl).mono fun e w' h => ?_
  obtain ⟨A', c', h1, h2, h3⟩ := h
  obtain ⟨g, cap, cur, e1, h4, h5, h6, h7, h8⟩ := row_block h2 (by simp)
  injection e1 with e2 e3 e4
  subst e2 e4
  rw [List.length_append] at h6
  simp only [List.length_cons, List.length_nil] at h6
  exact ⟨g, cur, c', h1, h4, h5, h8, by omega, by omega, h3⟩
theorem keptB (w : World) (g : Nat) (cs : Array Value) (c cb : Nat) (B0 : Option Addr) (b : List Int) (hb : Blk w g 5 cs) (hN : Nums .u8 cs (b ++ [165, 90])) (hc : b.length + 2 ≤ c) (hC : (Kd.int .u8).C w B0 b.length b) (hcb : b.length ≤ cb) (hl : b.length ≤ 1000000) :
    Calls Try.prog 30 #[.slice (some ⟨g, 0, none⟩) b.length c, .slice B0 b.length cb] w fun e w' => e = .returned (.bool true) ∧ Below w.heap.size w w' := by
  have hC2 : (Kd.int .u8).C w (some ⟨g, 0, none⟩) (b.length + 2) (b ++ [165, 90]) := by
    have h := Nums.C hN hb (by simp; omega)
    simpa using h
  refine (kept_calls w (some ⟨g, 0, none⟩) B0 c cb b hC2 (Nums.C (xs := b) (fun j hj => by have h := hN j (by simp; omega); rw [h, getD_left hj]) hb (by omega)) hc (by omega) hC hcb hl).mono fun e w' h => h
theorem nums_left {k : IntKind} {cs : Array Value} {a b : List Int} (h : Nums k cs (a ++ b)) : Nums k cs a := fun j hj => by
  have h2 := h j (by rw [List.length_append]; omega)
  rw [h2, getD_left hj]
theorem nums_C {w : World} {g : Nat} {cs : Array Value} {a b : List Int} (h : Nums .u8 cs (a ++ b)) (hb : Blk w g 5 cs) (hl : a.length ≤ 1000000) : (Kd.int .u8).C w (some ⟨g, 0, none⟩) a.length a := Nums.C (nums_left h) hb (by omega)
set_option maxHeartbeats 4000000 in
theorem overB (w : World) (g c : Nat) (cs : Array Value) (xs : List Int) (hb : Blk w g 5 cs) (hN : Nums .u8 cs xs) (hl : xs.length ≤ cs.size) (hm : xs.length ≤ 140737488355328) :
    Calls Try.prog 31 #[.slice (some ⟨g, 0, none⟩) xs.length c] w fun e w' => e = .returned (.tuple #[]) ∧ Grow g w w' := by
  refine calls_flow Try.func31 rfl 15 rfl (Nat.le_of_ble_eq_true rfl) [(0, .slice (some ⟨g, 0, none⟩) xs.length c)] ?_ ?_
  · intro t v h; exact args_look rfl t v h
  refine w_seq ?_
  refine w_region ?_
  refine rw_val (v := .slice (some ⟨g, 0, none⟩) xs.length c) (w' := w) rfl rfl rfl rfl rfl ?_
  refine rw_val (v := .int .i64 ((xs.length : Nat) : Int)) (w' := w) rfl rfl rfl rfl (by simp [go_sem, sEv, sLook, nbeq, i64_w, -List.getD_eq_getElem?_getD]) ?_
  refine rw_val (v := .int .i64 0) (w' := w) rfl rfl rfl rfl rfl ?_
  refine rw_end ?_
  refine w_block ?_
  refine w_loop (fun m_ G W_ => ∃ (j : Nat) (ds : Array Value) (ys : List Int), j + m_ = xs.length ∧ ys.length = xs.length ∧ xs.length ≤ ds.size ∧ Grow g w W_ ∧ Blk W_ g 5 ds ∧ Nums .u8 ds ys ∧ G = [(0, .slice (some ⟨g, 0, none⟩) xs.length c), (3, .slice (some ⟨g, 0, none⟩) xs.length c), (4, .int .i64 ((xs.length : Nat) : Int)), (5, .int .i64 ((j : Nat) : Int))]) xs.length [(0, .slice (some ⟨g, 0, none⟩) xs.length c), (3, .slice (some ⟨g, 0, none⟩) xs.length c), (4, .int .i64 ((xs.length : Nat) : Int)), (5, .int .i64 ((0 : Nat) : Int))] ⟨0, cs, xs, by omega, rfl, hl, Grow.ofB (Below.refl _ _), hb, hN, rfl⟩ ⟨rfl, rfl, rfl, rfl, trivial⟩ ?_
  rintro m_ G w_ ⟨j, ds, ys, hj_, hy_, hd_, hG_, hB_, hN_, rfl⟩
  have hs_w_ := hG_.size
  refine w_seq ?_
  refine w_region ?_
  refine rw_val (v := .bool (decide (((j : Nat) : Int) < ((xs.length : Nat) : Int)))) (w' := w_) rfl rfl rfl rfl (by simp [go_sem, sEv, sLook, nbeq, i64_w, -List.getD_eq_getElem?_getD]) ?_
  refine rw_end ?_
  refine w_seq ?_
  refine w_cond rfl rfl (fun c1 => ?_) (fun c1 => ?_)
  · have l2 : (((j : Nat) : Int) < ((xs.length : Nat) : Int)) := of_decide_eq_true c1
    refine w_skip ?_
    refine w_seq ?_
    refine w_block ?_
    refine w_seq ?_
    refine w_region ?_
    refine rw_val (v := .int .i64 ((j : Nat) : Int)) (w' := w_) rfl rfl rfl rfl rfl ?_
    refine rw_val (v := .int .i64 ((j : Nat) : Int)) (w' := w_) rfl rfl rfl rfl rfl ?_
    refine rw_end ?_
    refine w_region ?_
    refine rw_val (v := .slice (some ⟨g, 0, none⟩) xs.length c) (w' := w_) rfl rfl rfl rfl rfl ?_
    refine rw_val (v := .int .i64 ((j : Nat) : Int)) (w' := w_) rfl rfl rfl rfl rfl ?_
    refine rw_val (v := .pointer (some ⟨g, j, none⟩)) (w' := w_) rfl rfl rfl rfl (by rw [← add_plain g j]; exact run_as (run_at_1 (P := Try.prog) (e := 5) (by kernel_rfl) (by kernel_rfl) j (by omega) _)) ?_
    refine rw_val (v := .int .u8 (ys.getD j 0)) (w' := w_) rfl rfl rfl rfl (by have e0_ := hB_.cellv (hN_ j (by omega)); simp [go_sem, sEv, sLook, nbeq, i64_w, -List.getD_eq_getElem?_getD, e0_]) ?_
    refine rw_val (v := .int .u8 (Go.bits .xor .u8 (ys.getD j 0) 255)) (w' := w_) rfl rfl rfl rfl (by simp [go_sem, sEv, sLook, nbeq, i64_w, -List.getD_eq_getElem?_getD]) ?_
    refine rw_val (v := .pointer (some ⟨g, j, none⟩)) (w' := w_) rfl rfl rfl rfl (by rw [← add_plain g j]; exact run_as (run_at_1 (P := Try.prog) (e := 5) (by kernel_rfl) (by kernel_rfl) j (by omega) _)) ?_
    refine rw_store (g := g) (i := j) (l := [.int .u8 (Go.bits .xor .u8 (ys.getD j 0) 255)]) (cs' := ds.setIfInBounds j (.int .u8 (Go.bits .xor .u8 (ys.getD j 0) 255))) rfl rfl rfl hB_ rfl (by have e0_ := hB_.cellv (hN_ j (by omega)); have f0_ := hB_.frozen j; simp [go_sem, sEv, sLook, nbeq, i64_w, -List.getD_eq_getElem?_getD, putCells, e0_, f0_]) ?_
    intro w3 hk4 hb5
    have hs_w3 := hk4.size
    refine rw_end ?_
    refine w_weaken (G' := [(0, .slice (some ⟨g, 0, none⟩) xs.length c), (3, .slice (some ⟨g, 0, none⟩) xs.length c), (4, .int .i64 ((xs.length : Nat) : Int)), (5, .int .i64 ((j : Nat) : Int))]) ⟨rfl, rfl, rfl, rfl, trivial⟩ ?_
    refine w_blk ?_
    refine w_region ?_
    refine rw_val (v := .int .i64 ((j + 1 : Nat) : Int)) (w' := w3) rfl rfl rfl rfl (by simp [go_sem, sEv, sLook, nbeq, i64_w, -List.getD_eq_getElem?_getD]; exact wrap_id (by omega) (by omega)) ?_
    refine rw_val (v := .int .i64 ((j + 1 : Nat) : Int)) (w' := w3) rfl rfl rfl rfl rfl ?_
    refine rw_end ?_
    exact w_back (m_ - 1) [(0, .slice (some ⟨g, 0, none⟩) xs.length c), (3, .slice (some ⟨g, 0, none⟩) xs.length c), (4, .int .i64 ((xs.length : Nat) : Int)), (5, .int .i64 ((j + 1 : Nat) : Int))] (by omega) ⟨rfl, rfl, rfl, rfl, trivial⟩ ⟨j + 1, _, ys.set j (Go.bits .xor .u8 (ys.getD j 0) 255), by omega, by rw [List.length_set]; exact hy_, by rw [Array.size_setIfInBounds]; exact hd_, hG_.trans (Grow.ofK hk4), hb5, hN_.set (by omega) j (Go.bits .xor .u8 (ys.getD j 0) 255), rfl⟩
  · have l6 : ¬ (((j : Nat) : Int) < ((xs.length : Nat) : Int)) := of_decide_eq_false c1
    refine w_exit rfl ?_
    refine w_end (post_end0 rfl ?_)
    exact ⟨rfl, hG_⟩
end Go.Proofs.Ytiiljpaedelhlaa.Tp
end
section
namespace Go.Proofs.Ytiiljpaedelhlaa.Tp
open Go.RowKit Go.Proofs.YtiiljpaedelhlaaW.PrintWords Go.Proofs.YtiiljpaedelhlaaW.PrintLast Go.Proofs.YtiiljpaedelhlaaW.PrintMore
open Go.Proofs.Ytiiljpaedelhlaa.Flow
set_option linter.unusedVariables false
set_option linter.unusedSimpArgs false
theorem Kept.mono' {w w' : World} {S S' : Nat → Prop} (h : Kept w w' S) (hs : ∀ k, k < w.heap.size → S k → S' k) : Kept w w' S' := ⟨h.1, fun i hi hn => h.2 i hi (fun hS => hn (hs i hi hS))⟩
theorem Grow.keptS {u : Nat} {w w1 w2 : World} {S : Nat → Prop} (h : Kept w w1 S) (k : Grow u w1 w2) (hu : S u ∨ w.heap.size ≤ u) : Kept w w2 S := ⟨Nat.le_trans h.1 k.size, fun i hi hn => (k.block i (Nat.lt_of_lt_of_le hi h.1) (fun e => hu.elim (fun hs => hn (e ▸ hs)) (fun hs => by omega))).trans (h.2 i hi hn)⟩
theorem below_drew (w : World) : Below w.heap.size w w.drew := ⟨rfl, rfl, rfl, Nat.le_refl _, fun _ _ => rfl⟩
theorem TS.crash_ok {s : TS} (h : s.Ok) (k : Int) : (s.crash k).Ok := by
  have h1 := h.len
  refine ⟨h.steps, by simp [TS.crash], by simp [TS.crash], by simp [TS.crash], ?_⟩
  show (s.xs.take (s.sure + s.left k).toNat).length ≤ 1048576
  rw [List.length_take]
  omega
theorem arm_ok {s : TS} (h : s.Ok) (k : Int) (h0 : 0 ≤ k) (h1 : k ≤ 9223372036854775807) : ({ s with ps := true, pl := k } : TS).Ok := ⟨h.steps, ⟨h0, h1⟩, h.fl, h.sure, h.len⟩
theorem fail_ok {s : TS} (h : s.Ok) (k : Int) (h0 : 0 ≤ k) (h1 : k ≤ 9223372036854775807) : ({ s with fs := true, fl := k } : TS).Ok := ⟨h.steps, h.pl, ⟨h0, h1⟩, h.sure, h.len⟩
theorem appE_ne (s : TS) (ys : List Int) : s.appE ys ≠ some 0 := by
  unfold TS.appE TS.err
  split
  · simp
  split
  · simp
  split
  · simp
  split <;> simp
theorem repE_ne (s : TS) (ys : List Int) : s.repE ys ≠ some 0 := by
  unfold TS.repE TS.err
  split
  · simp
  split
  · simp
  split
  · simp
  split <;> simp
theorem err_ne (s : TS) : s.err ≠ some 0 := by
  unfold TS.err
  split
  · simp
  split
  · simp
  split <;> simp
theorem Rel.all {s : TS} {r : RS} (h : Rel s r) : r.S ++ r.R = s.xs := by rw [h.S, h.R, List.take_append_drop]
theorem readO (w0 w : World) (g m : Nat) (x : Nat → Prop) (hx : ∀ q, x q → q < w.heap.size) (s : TS) (hT : TapeAt w0 w g m x s) (hok : s.Ok) : Calls Try.prog 17 #[.pointer (some ⟨g, 0, none⟩)] w fun e w' => ∃ A c, e = .returned (.slice A s.xs.length c) ∧ OwnK (Kd.int .u8) 5 w' w.heap.size w.heap.size A s.xs.length c s.xs ∧ Below w.heap.size w w' := by
  refine (read_T w0 w g m x hx s hT hok).mono fun e w' h => ?_
  obtain ⟨A, n, c, h1, h2, h3⟩ := h
  have h4 : n = s.xs.length := OwnK.len (d := (Kd.int .u8)) h2
  subst h4
  exact ⟨A, c, h1, h2, h3⟩
end Go.Proofs.Ytiiljpaedelhlaa.Tp
end
section
namespace Go.Proofs.Ytiiljpaedelhlaa.Tp
open Go.RowKit Go.Proofs.YtiiljpaedelhlaaW.PrintWords Go.Proofs.YtiiljpaedelhlaaW.PrintLast Go.Proofs.YtiiljpaedelhlaaW.PrintMore
open Go.Proofs.Ytiiljpaedelhlaa.Flow
open Go.Proofs.Ytiiljpaedelhlaa.PDiaryPlays (SplitR Bytes frameB frameE FC wholeP frameB_len frameB_bytes fin_whole wholeP_le FC_cons valN)
set_option linter.unusedVariables false
set_option linter.unusedSimpArgs false
def TS.All (s : TS) : Prop := s.dn = false → s.sure = (s.xs.length : Int)
theorem TS.All.cut {s : TS} (h : s.All) : s.cut = s := by
  unfold TS.cut
  split
  · rfl
  · rename_i hd
    have h2 := h (by simpa using hd)
    have h3 : s.xs.take s.sure.toNat = s.xs := by rw [h2]; simp
    rw [h3]
theorem TS.All.next {s : TS} (h : s.All) : s.next.All := fun hd => by
  obtain ⟨e1, e2⟩ := next_same s
  rw [e1, e2]
  refine h ?_
  unfold TS.next at hd
  split at hd
  · exact hd
  · split at hd
    · cases hd
    · split at hd <;> exact hd
theorem TS.cut_All {s : TS} (h : s.Ok) : s.cut.All := fun hd => by
  have h1 := h.sure
  unfold TS.cut at hd ⊢
  split at hd
  · rename_i h2; rw [h2] at hd; cases hd
  · rename_i h2
    rw [if_neg h2]
    show s.sure = ((s.xs.take s.sure.toNat).length : Int)
    rw [List.length_take]
    omega
theorem TS.sync_All {s : TS} (h : s.err = none) : s.sync.All := fun _ => by
  have e := next_same s
  unfold TS.sync
  rw [if_neg (by rw [h]; simp)]
  show (s.xs.length : Int) = (s.next.xs.length : Int)
  rw [e.1]
theorem TS.rep_All {s : TS} (h : s.All) (ys : List Int) : (s.rep ys).All := by
  unfold TS.rep
  split
  · exact h
  · split
    · exact h.next
    · exact fun _ => rfl
theorem TS.crash_All (s : TS) (k : Int) : (s.crash k).All := fun _ => rfl
theorem TS.cut_sure (s : TS) : s.cut.sure = s.sure ∧ s.cut.steps = s.steps := by
  unfold TS.cut
  split <;> exact ⟨rfl, rfl⟩
theorem TS.app_sure (s : TS) (ys : List Int) : (s.app ys).sure = s.sure := by
  have e := next_same s
  unfold TS.app
  split
  · rfl
  · split
    · exact e.2
    · exact e.2
theorem bytes_cut {s : TS} (h : Bytes s.xs) : Bytes s.cut.xs := by
  unfold TS.cut
  split
  · exact h
  · exact fun c hc => h c (List.mem_of_mem_take hc)
theorem bytes_sync {s : TS} (h : Bytes s.xs) : Bytes s.sync.xs := by
  have e := next_same s
  unfold TS.sync
  split
  · rw [e.1]; exact h
  · show Bytes s.next.xs
    rw [e.1]; exact h
theorem bytes_apps {s : TS} (h : Bytes s.xs) {ys : List Int} (hy : Bytes ys) : Bytes (s.app ys).xs := by
  have e := next_same s
  unfold TS.app
  split
  · exact h
  · split
    · rw [e.1]; exact h
    · exact bytes_app h hy
theorem bytes_rep {s : TS} (h : Bytes s.xs) {ys : List Int} (hy : Bytes ys) : Bytes (s.rep ys).xs := by
  have e := next_same s
  unfold TS.rep
  split
  · exact h
  · split
    · rw [e.1]; exact h
    · exact hy
theorem bytes_crash {s : TS} (h : Bytes s.xs) (k : Int) : Bytes (s.crash k).xs := fun c hc => h c (List.mem_of_mem_take hc)
def BL (r : RS) : Prop := (0 ≤ r.l ∧ r.l ≤ 9223372036854775807) ∧ (0 ≤ r.u ∧ r.u ≤ 9223372036854775807)
theorem BL.next {r : RS} (h : BL r) : BL r.next := by
  have p1 := duel_ok r.a r.l h.1
  have p2 := duel_ok r.b r.u h.2
  unfold RS.next
  split
  · exact h
  split
  · exact h
  split
  · exact ⟨p1, h.2⟩
  · exact ⟨p1, p2⟩
theorem BL.app {r : RS} (h : BL r) (ys : List Int) : BL (r.app ys) := by
  unfold RS.app
  split
  · exact h
  split <;> exact h.next
theorem BL.sync {r : RS} (h : BL r) : BL r.sync := by unfold RS.sync; split <;> exact h.next
theorem BL.rep {r : RS} (h : BL r) (ys : List Int) : BL (r.rep ys) := by
  unfold RS.rep
  split
  · exact h
  split <;> exact h.next
theorem BL.cut {r : RS} (h : BL r) : BL r.cut := by unfold RS.cut; split <;> exact h
structure Both (s : TS) (r : RS) (k : Int) : Prop where
  ok : s.Ok
  rel : Rel s r
  bl : BL r
  all : s.All
  by_ : Bytes s.xs
  st : s.steps ≤ k
theorem Both.ro {s : TS} {r : RS} {k : Int} (h : Both s r k) : r.Ok := RS.ok_of h.rel h.ok h.bl.1 h.bl.2
theorem Both.start : Both TS.start ⟨[], [], 0, false, false, 0, 0, false⟩ 0 :=
  ⟨⟨by decide, by decide, by decide, by decide, by decide⟩, ⟨rfl, rfl, rfl, rfl, rfl, rfl, (fun h => by cases h), (fun h => by cases h)⟩, ⟨by decide, by decide⟩, (fun _ => rfl), (fun c hc => by cases hc), by decide⟩
theorem Both.mono {s : TS} {r : RS} {k k' : Int} (h : Both s r k) (hk : k ≤ k') : Both s r k' := ⟨h.ok, h.rel, h.bl, h.all, h.by_, Int.le_trans h.st hk⟩
theorem Both.arm {s : TS} {r : RS} {k : Int} (h : Both s r k) (n : Int) (h0 : 0 ≤ n) (h1 : n ≤ 9223372036854775807) : Both { s with ps := true, pl := n } { r with a := true, l := n } k :=
  ⟨arm_ok h.ok n h0 h1, ⟨h.rel.S, h.rel.R, h.rel.st, rfl, h.rel.b, h.rel.d, fun _ => rfl, h.rel.u⟩, ⟨⟨h0, h1⟩, h.bl.2⟩, h.all, h.by_, h.st⟩
theorem Both.fail {s : TS} {r : RS} {k : Int} (h : Both s r k) (n : Int) (h0 : 0 ≤ n) (h1 : n ≤ 9223372036854775807) : Both { s with fs := true, fl := n } { r with b := true, u := n } k :=
  ⟨fail_ok h.ok n h0 h1, ⟨h.rel.S, h.rel.R, h.rel.st, h.rel.a, rfl, h.rel.d, h.rel.l, fun _ => rfl⟩, ⟨h.bl.1, ⟨h0, h1⟩⟩, h.all, h.by_, h.st⟩
theorem Both.crash {s : TS} {r : RS} {k : Int} (h : Both s r k) (n : Int) : Both (s.crash n) (r.crash n) k :=
  ⟨TS.crash_ok h.ok n, h.rel.crash h.ok n, h.bl, TS.crash_All s n, bytes_crash h.by_ n, h.st⟩
def RS.addE (r : RS) (row : List Int) : Int := if 16376 < row.length then 7 else if r.appE (frameB row) == 0 then (r.app (frameB row)).err else r.appE (frameB row)
def RS.addS (r : RS) (row : List Int) : RS :=
  if 16376 < row.length then r else if r.appE (frameB row) == 7 then r.app (frameB row)
  else if r.appE (frameB row) == 0 then (if (r.app (frameB row)).err == 0 then (r.app (frameB row)).sync else (r.app (frameB row)).sync.cut)
  else (r.app (frameB row)).cut
def RS.rwE (r : RS) (rows : List (List Int)) : Int := if rwFull rows then 7 else r.repE (FC rows)
def RS.rwS (r : RS) (rows : List (List Int)) : RS := if rwFull rows then r else r.rep (FC rows)
def RS.openE (r : RS) (n : Nat) : Int := if r.d then 5 else if n < r.S.length + r.R.length then r.repE ((r.S ++ r.R).take n) else 0
def RS.openS (r : RS) (n : Nat) : RS := if r.d then r else if n < r.S.length + r.R.length then r.rep ((r.S ++ r.R).take n) else r
structure DI (D : DS) (rs : List (List Int)) : Prop where
  r : D.r = (rs.length : Int)
  b : D.b = ((FC rs).length : Int)
  all : ∀ p ∈ rs, p.length ≤ 16376
  by_ : ∀ p ∈ rs, Bytes p
  sure : ((FC rs).length : Int) ≤ D.s.sure
def addR (D : DS) (rs : List (List Int)) (row : List Int) : List (List Int) := if (D.addE row).isNone then rs ++ [row] else rs
def rwR (D : DS) (rs rows : List (List Int)) : List (List Int) := if (D.rwE rows).isNone then rows else rs
theorem sync_state {t : TS} {c : Int} (h : t.err = some c) : t.sync = t.next := by rw [TS.sync, if_pos (by rw [h]; rfl)]
theorem Both.add {D : DS} {r : RS} {k : Int} (h : Both D.s r k) {rs : List (List Int)} (hD : DI D rs) {row : List Int} (hr : Bytes row) (hk : k ≤ 999999999999000) :
    r.addE row = numT (D.addE row) ∧ Both (D.add row).s (r.addS row) (k + 2) ∧ DI (D.add row) (addR D rs row) := by
  obtain ⟨hok, hrel, hbl, hall, hby, hst⟩ := h
  obtain ⟨d1, d2, d3, d4, d5⟩ := hD
  by_cases hl : 16376 < row.length
  · have e0 : frameE row = some 7 := by unfold frameE; rw [if_pos hl]
    have e1 : D.addE row = some 7 := by rw [DS.addE, e0]; rfl
    have e2 : D.add row = D := by rw [DS.add, e0]; rfl
    rw [e2, addR, e1, RS.addE, RS.addS, if_pos hl, if_pos hl]
    exact ⟨rfl, ⟨hok, hrel, hbl, hall, hby, by omega⟩, ⟨d1, d2, d3, d4, d5⟩⟩
  have hl' : row.length ≤ 16376 := by omega
  have e0 := frameE_no hl'
  have hf := frameB_len row hl'
  have hfb := frameB_bytes row hr
  have eE : D.addE row = D.add1E row := by rw [DS.addE, e0, if_neg (by simp)]
  have eA : D.add row = if (D.add1E row).isSome then { D with s := (D.add1S row).cut } else ⟨D.add1S row, D.r + 1, D.b + ((frameB row).length : Int)⟩ := by rw [DS.add, e0, if_neg (by simp)]
  obtain ⟨q1, q2⟩ := hrel.app hok (frameB row)
  obtain ⟨m1, m2⟩ := app_ok (frameB row) hok (by omega)
  have mb := bytes_apps hby hfb
  have ml := hbl.app (frameB row)
  have ms := D.s.app_sure (frameB row)
  rw [RS.addE, RS.addS, if_neg hl, if_neg hl, q2]
  by_cases hc : 1048576 < D.s.xs.length + (frameB row).length
  · have a1 : D.s.appE (frameB row) = some 7 := by rw [TS.appE, if_pos hc]
    have a2 : D.s.app (frameB row) = D.s := by rw [TS.app, if_pos hc]
    have b1 : D.add1E row = some 7 := by rw [DS.add1E, a1]; rfl
    have b2 : D.add1S row = D.s := by rw [DS.add1S, a1, a2]; rfl
    have b3 : D.add row = D := by rw [eA, b1, if_pos (by rfl), b2, hall.cut]
    rw [a2] at q1
    rw [b3, addR, eE, b1, a1]
    exact ⟨rfl, ⟨hok, q1, ml, hall, hby, by omega⟩, ⟨d1, d2, d3, d4, d5⟩⟩
  · have eP : D.s.appE (frameB row) = D.s.err := by rw [TS.appE, if_neg hc]
    rcases err_cases D.s with h | h | h
    · have b1 : D.add1E row = (D.s.app (frameB row)).err := by rw [DS.add1E, eP, h]; rfl
      have b2 : D.add1S row = (D.s.app (frameB row)).sync := by rw [DS.add1S, eP, h]; rfl
      have ax : (D.s.app (frameB row)).xs.length = D.s.xs.length + (frameB row).length := by
        rw [TS.app, if_neg hc, if_neg (by rw [h]; simp)]
        show (D.s.xs ++ frameB row).length = _
        rw [List.length_append]
      have sl := hok.sure
      rw [eP, h]
      generalize D.s.app (frameB row) = t at b1 b2 q1 m1 m2 mb ms ax
      generalize r.app (frameB row) = r1 at q1 ml
      have qs := q1.sync m1
      have qe := q1.err
      obtain ⟨s1, s2⟩ := sync_ok m1 (by omega)
      rcases err_cases t with g | g | g
      · have c1 : D.add row = ⟨t.sync, D.r + 1, D.b + ((frameB row).length : Int)⟩ := by rw [eA, b1, g, if_neg (by simp), b2]
        have c2 : t.sync.sure = (t.xs.length : Int) := by rw [TS.sync, if_neg (by rw [g]; simp)]
        have c3 : FC (rs ++ [row]) = FC rs ++ frameB row := by rw [FC_append, FC_one]
        rw [c1, addR, eE, b1, g]
        rw [g] at qe
        refine ⟨by rw [qe]; rfl, ?_, ?_⟩
        · rw [qe]
          exact ⟨s1, qs, ml.sync, TS.sync_All g, bytes_sync mb, by show t.sync.steps ≤ k + 2; omega⟩
        · refine ⟨?_, ?_, fun p hp => ?_, fun p hp => ?_, ?_⟩
          · show D.r + 1 = (((rs ++ [row]).length : Nat) : Int)
            rw [List.length_append, d1]; simp
          · show D.b + ((frameB row).length : Int) = (((FC (rs ++ [row])).length : Nat) : Int)
            rw [c3, List.length_append, d2]; omega
          · rcases List.mem_append.1 hp with hp | hp
            · exact d3 p hp
            · rw [List.mem_singleton.1 hp]; exact hl'
          · rcases List.mem_append.1 hp with hp | hp
            · exact d4 p hp
            · rw [List.mem_singleton.1 hp]; exact hr
          · show (((FC (rs ++ [row])).length : Nat) : Int) ≤ t.sync.sure
            rw [c3, List.length_append, c2, ax]; omega
      all_goals
        have c1 : D.add row = { D with s := t.sync.cut } := by rw [eA, b1, g, if_pos (by rfl), b2]
        have c0 := sync_state g
        have c4 := t.sync.cut_sure
        have c5 := next_same t
        rw [c1, addR, eE, b1, g]
        rw [g] at qe
        refine ⟨by rw [qe]; rfl, ?_, ⟨d1, d2, d3, d4, ?_⟩⟩
        · rw [qe]
          exact ⟨TS.cut_ok s1, qs.cut s1, ml.sync.cut, TS.cut_All s1, bytes_cut (bytes_sync mb), by show t.sync.cut.steps ≤ k + 2; omega⟩
        · show ((FC rs).length : Int) ≤ t.sync.cut.sure
          rw [c4.1, c0, c5.2, ms]; exact d5
    all_goals
      have b1 : D.add1E row = D.s.err := by rw [DS.add1E, eP, h]; rfl
      have b2 : D.add1S row = D.s.app (frameB row) := by rw [DS.add1S, eP, h]; rfl
      have c1 : D.add row = { D with s := (D.s.app (frameB row)).cut } := by rw [eA, b1, h, if_pos (by rfl), b2]
      have c4 := (D.s.app (frameB row)).cut_sure
      rw [c1, addR, eE, b1, eP, h]
      refine ⟨rfl, ⟨TS.cut_ok m1, q1.cut m1, ml.cut, TS.cut_All m1, bytes_cut mb, by show (D.s.app (frameB row)).cut.steps ≤ k + 2; omega⟩, ⟨d1, d2, d3, d4, ?_⟩⟩
      show ((FC rs).length : Int) ≤ (D.s.app (frameB row)).cut.sure
      rw [c4.1, ms]; exact d5
theorem rwFull_all {rows : List (List Int)} (h : rwFull rows = false) : (∀ p ∈ rows, p.length ≤ 16376) ∧ (FC rows).length ≤ 1048576 := by
  unfold rwFull at h
  rw [Bool.or_eq_false_iff] at h
  refine ⟨fun p hp => ?_, ?_⟩
  · have h1 := List.any_eq_false.1 h.1 p hp
    simp at h1
    omega
  · have h2 := of_decide_eq_false h.2
    omega
theorem Both.rw {D : DS} {r : RS} {k : Int} (h : Both D.s r k) {rs : List (List Int)} (hD : DI D rs) {rows : List (List Int)} (hr : ∀ p ∈ rows, Bytes p) (hk : k ≤ 999999999999000) :
    r.rwE rows = numT (D.rwE rows) ∧ Both (D.rw rows).s (r.rwS rows) (k + 2) ∧ DI (D.rw rows) (rwR D rs rows) := by
  obtain ⟨hok, hrel, hbl, hall, hby, hst⟩ := h
  obtain ⟨d1, d2, d3, d4, d5⟩ := hD
  rw [RS.rwE, RS.rwS, rwR, DS.rwE, DS.rw]
  by_cases hf : rwFull rows = true
  · rw [if_pos hf, if_pos hf, if_pos hf, if_pos hf]
    exact ⟨rfl, ⟨hok, hrel, hbl, hall, hby, by omega⟩, ⟨d1, d2, d3, d4, d5⟩⟩
  · rw [if_neg hf, if_neg hf, if_neg hf, if_neg hf]
    obtain ⟨f1, f2⟩ := rwFull_all (by simpa using hf)
    obtain ⟨q1, q2⟩ := hrel.rep hok (FC rows)
    obtain ⟨m1, m2⟩ := rep_ok (FC rows) hok (by omega)
    have mb := bytes_rep hby (FC_bytes hr)
    have hl : ¬ 1048576 < (FC rows).length := by omega
    have eP : D.s.repE (FC rows) = D.s.err := by rw [TS.repE, if_neg hl]
    have e := next_same D.s
    refine ⟨q2, ?_, ?_⟩
    · have e1 : (if (D.s.repE (FC rows)).isSome then { D with s := D.s.rep (FC rows) } else ⟨D.s.rep (FC rows), (rows.length : Int), ((FC rows).length : Int)⟩ : DS).s = D.s.rep (FC rows) := by split <;> rfl
      rw [e1]
      exact ⟨m1, q1, hbl.rep _, TS.rep_All hall _, mb, by omega⟩
    · rw [eP]
      rcases err_cases D.s with h | h | h
      · rw [h, if_neg (by simp), if_pos (by rfl)]
        refine ⟨rfl, rfl, f1, hr, ?_⟩
        show ((FC rows).length : Int) ≤ (D.s.rep (FC rows)).sure
        rw [TS.rep, if_neg hl, if_neg (by rw [h]; simp)]
        exact Int.le_refl _
      all_goals
        rw [h, if_pos (by rfl), if_neg (by simp)]
        refine ⟨d1, d2, d3, d4, ?_⟩
        show ((FC rs).length : Int) ≤ (D.s.rep (FC rows)).sure
        rw [TS.rep, if_neg hl, if_pos (by rw [h]; rfl), e.2]
        exact d5
theorem whole_is {b : List Int} (hb : Bytes b) (h : wholeP b ≠ 0) : frameB ((b.take (wholeP b)).drop 8) = b.take (wholeP b) ∧ ((b.take (wholeP b)).drop 8).length ≤ 16376 := by
  have hw := wholeP_le b
  have h8 : 8 ≤ wholeP b := by omega
  have hle : wholeP b ≤ b.length := by omega
  have hn : 8 + valN (b.take 4) ≤ b.length ∧ valN (b.take 4) ≤ 16376 := by
    unfold wholeP at h
    split at h
    · exact absurd rfl h
    split at h
    · exact absurd rfl h
    split at h
    · exact absurd rfl h
    · exact ⟨by omega, by omega⟩
  have hf := fin_whole b hb _ rfl hn.1 hn.2
  by_cases he : frameB ((b.take (8 + valN (b.take 4))).drop 8) = b.take (8 + valN (b.take 4))
  · rw [if_pos he] at hf
    rw [hf]
    refine ⟨he, ?_⟩
    rw [List.length_drop, List.length_take]
    omega
  · rw [if_neg he] at hf
    exact absurd hf h
theorem splitR_all {b : List Int} {l : List (List Int)} {n : Nat} (h : SplitR b l n) (hb : Bytes b) : n ≤ b.length ∧ FC l = b.take n ∧ (∀ p ∈ l, p.length ≤ 16376) ∧ (∀ p ∈ l, Bytes p) := by
  induction h with
  | none b h => exact ⟨by omega, by simp [FC], (fun p hp => by cases hp), (fun p hp => by cases hp)⟩
  | some b l n h0 _ ih =>
    obtain ⟨i1, i2, i3, i4⟩ := ih (hb.drop _)
    obtain ⟨w1, w2⟩ := whole_is hb h0
    have hw := wholeP_le b
    rw [List.length_drop] at i1
    refine ⟨by omega, ?_, fun p hp => ?_, fun p hp => ?_⟩
    · rw [FC_cons, w1, i2, List.take_add]
    · rcases List.mem_cons.1 hp with rfl | hp
      · exact w2
      · exact i3 p hp
    · rcases List.mem_cons.1 hp with rfl | hp
      · exact (hb.take _).drop _
      · exact i4 p hp
theorem Both.open {s : TS} {r : RS} {k : Int} (h : Both s r k) (hk : k ≤ 999999999999000) (n : Nat) : r.openE n = numT (openE s n) ∧ Both (openS s n) (r.openS n) (k + 1) := by
  obtain ⟨hok, hrel, hbl, hall, hby, hst⟩ := h
  have e1 := hrel.all
  have e2 : r.S.length + r.R.length = s.xs.length := by rw [← e1, List.length_append]
  rw [RS.openE, RS.openS, openE, openS, hrel.d, e1, e2]
  by_cases hd : s.dn = true
  · rw [if_pos hd, if_pos hd, if_pos hd, if_pos hd]
    exact ⟨rfl, hok, hrel, hbl, hall, hby, by omega⟩
  · rw [if_neg hd, if_neg hd, if_neg hd, if_neg hd]
    by_cases hn : n < s.xs.length
    · rw [if_pos hn, if_pos hn, if_pos hn, if_pos hn]
      obtain ⟨q1, q2⟩ := hrel.rep hok (s.xs.take n)
      obtain ⟨m1, m2⟩ := rep_ok (s.xs.take n) hok (by omega)
      exact ⟨q2, m1, q1, hbl.rep _, TS.rep_All hall _, bytes_rep hby (hby.take n), by omega⟩
    · rw [if_neg hn, if_neg hn, if_neg hn, if_neg hn]
      exact ⟨rfl, hok, hrel, hbl, hall, hby, by omega⟩
theorem open_DI {s : TS} {l : List (List Int)} {n : Nat} (hok : s.Ok) (hall : s.All) (hby : Bytes s.xs) (hS : SplitR s.xs l n) (he : openE s n = none) (hd : s.dn = false) : DI ⟨openS s n, (l.length : Int), (n : Int)⟩ l := by
  obtain ⟨i1, i2, i3, i4⟩ := splitR_all hS hby
  have hl : (FC l).length = n := by rw [i2, List.length_take]; omega
  have h5 := hok.len
  have nd : ¬ s.dn = true := by rw [hd]; simp
  refine ⟨rfl, by show (n : Int) = ((FC l).length : Int); rw [hl], i3, i4, ?_⟩
  show ((FC l).length : Int) ≤ (openS s n).sure
  rw [hl, openS, if_neg nd]
  by_cases hn : n < s.xs.length
  · rw [openE, if_neg nd, if_pos hn] at he
    have hc : ¬ 1048576 < (s.xs.take n).length := by rw [List.length_take]; omega
    rw [TS.repE, if_neg hc] at he
    rw [if_pos hn, TS.rep, if_neg hc, if_neg (by rw [he]; simp)]
    show (n : Int) ≤ ((s.xs.take n).length : Int)
    rw [List.length_take]; omega
  · rw [if_neg hn, hall hd]; omega
theorem addE_ne (D : DS) (row : List Int) : D.addE row ≠ some 0 := by
  unfold DS.addE DS.add1E
  have h1 := appE_ne D.s (frameB row)
  have h2 := err_ne (D.s.app (frameB row))
  split
  · unfold frameE; split <;> simp
  · split
    · exact h2
    · exact h1
theorem rwE_ne (D : DS) (rows : List (List Int)) : D.rwE rows ≠ some 0 := by
  unfold DS.rwE
  split
  · simp
  · exact repE_ne D.s (FC rows)
theorem openE_ne (s : TS) (n : Nat) : openE s n ≠ some 0 := by
  unfold openE
  split
  · simp
  · split
    · exact repE_ne _ _
    · simp
theorem numT_zero {o : Option Int} (h : o ≠ some 0) : (numT o == 0) = o.isNone := by
  cases o with
  | none => rfl
  | some c =>
    have : c ≠ 0 := fun e => h (by rw [e])
    simp [numT, this]
theorem DI.len {D : DS} {rs : List (List Int)} (h : DI D rs) (hok : D.s.Ok) : (FC rs).length ≤ 1048576 ∧ rwFull rs = false := by
  have h1 := h.sure
  have h2 := hok.sure
  have h3 := hok.len
  have h4 : (FC rs).length ≤ 1048576 := by omega
  exact ⟨h4, rwFull_no h.all h4⟩
end Go.Proofs.Ytiiljpaedelhlaa.Tp
end
section
namespace Go.Proofs.Ytiiljpaedelhlaa.Flow
open Go.RowKit Go.Proofs.YtiiljpaedelhlaaW.PrintWords
set_option linter.unusedVariables false
set_option linter.unusedSimpArgs false
set_option linter.unusedSectionVars false
section
variable {P : Program} {cx : Cx} {n : Nat} {Q : Exit → Act → World → Prop} {st : List Itm} {G : Env} {w : World} {ops : Array Oper}
theorem below_kept {w w' : World} {S : Nat → Prop} (h : Below w.heap.size w w') : Kept w w' S := ⟨h.size, fun i hi _ => h.block i hi⟩
theorem kept_refl (w : World) (S : Nat → Prop) : Kept w w S := ⟨Nat.le_refl _, fun _ _ _ => rfl⟩
theorem kept_trans {w w' w'' : World} {S : Nat → Prop} (h : Kept w w' S) (k : Kept w' w'' S) : Kept w w'' S := ⟨Nat.le_trans h.1 k.1, fun i hi hn => (k.2 i (Nat.lt_of_lt_of_le hi h.1) hn).trans (h.2 i hi hn)⟩
theorem drew_kept {w w' : World} {S : Nat → Prop} (h : Kept w.drew w' S) : Kept w w' S := ⟨h.1, h.2⟩
def GivesM (P : Program) (s : Spec) (S : Nat → Prop) (F1 : World → Prop) (w : World) : Result Next → Prop
  | .ok (.enter f args) w1 => w1 = w ∧ Calls P f args w fun e w' => ∃ v, e = .returned v ∧ s.s v w' ∧ Kept w w' S ∧ F1 w'
  | .ok .skip w' => s.s undef w' ∧ Kept w w' S ∧ F1 w'
  | .ok (.value v) w' => s.s v w' ∧ Kept w w' S ∧ F1 w'
  | _ => False
def MutOk (P : Program) (l : List Oper) (o : Oper) (G : Env) (w : World) (s : Spec) (S : Nat → Prop) (F1 : World → Prop) : Prop :=
  match o.guard with
  | none => known G o = true ∧ GivesM P s S F1 w ((execOp (sEv G) o).run P w)
  | some (g, b) => ∃ t, (l[g]?).bind (·.dst) = some t ∧ sLook G t = some (.bool b) ∧ known G o = true ∧ GivesM P s S F1 w ((execOp (sEv G) o).run P w)
def Tele2 (P : Program) (n : Nat) (l : List Oper) (w0 : World) (S : Nat → Prop) (q : Nat) (F0 F1 : World → Prop) (M : List Nat) (E : Env → Facts → Prop) : List Oper → List Spec → List Nat → Facts → Env → Prop
  | [], [], [], F, G => E G F
  | o :: os, s :: ss, m :: ms, F, G => (∀ d, o.dst = some d → Nat.blt d n = true) ∧ (F.length = q → ∀ w, Kept w0 w S → F0 w → Have m F w → MutOk P l o G w s S F1) ∧ (F.length ≠ q → ∀ w, Kept w0 w S → ((Nat.testBit m q = true → F1 w) ∧ (Nat.testBit (M.getD q 0) F.length = true → F0 w)) → Have m F w → StepOk P l o G w s) ∧ ∀ v, s.pl v → Tele2 P n l w0 S q F0 F1 M E os ss ms (F ++ [(s, v)]) (ext o.dst v G)
  | _, _, _, _, _ => False
theorem tele2_at {l : List Oper} {w0 : World} {S : Nat → Prop} {q : Nat} {F0 F1 : World → Prop} {M : List Nat} {E : Env → Facts → Prop} : ∀ (os : List Oper) (ss : List Spec) (ms : List Nat) (F : Facts) (G : Env), Tele2 P n l w0 S q F0 F1 M E os ss ms F G → ∀ vs : Nat → Value, (∀ (j : Nat) (s : Spec), ss[j]? = some s → s.pl (vs (F.length + j))) →
    (∀ (j : Nat) (o : Oper), os[j]? = some o → ∃ s m, ss[j]? = some s ∧ ms[j]? = some m ∧ (∀ d, o.dst = some d → Nat.blt d n = true) ∧
      (F.length + j = q → ∀ w, Kept w0 w S → F0 w → Have m (F ++ fz (ss.take j) vs F.length) w → MutOk P l o (gz (os.take j) vs F.length G) w s S F1) ∧ (F.length + j ≠ q → ∀ w, Kept w0 w S → ((Nat.testBit m q = true → F1 w) ∧ (Nat.testBit (M.getD q 0) (F.length + j) = true → F0 w)) → Have m (F ++ fz (ss.take j) vs F.length) w → StepOk P l o (gz (os.take j) vs F.length G) w s)) ∧ E (gz os vs F.length G) (F ++ fz ss vs F.length)
  | [], [], [], F, G, h, vs, _ => ⟨fun j o hj => by simp at hj, by have h' : E G F := h; simpa [gz, fz] using h'⟩
  | o :: os, s :: ss, m :: ms, F, G, h, vs, hp => by
    obtain ⟨h2, h3, h3b, h4⟩ := h
    obtain ⟨h5, h6⟩ := tele2_at os ss ms _ _ (h4 (vs F.length) (by simpa using hp 0 s rfl)) vs (fun j s' hj => by
      have := hp (j + 1) s' (by simpa using hj)
      simp only [List.length_append, List.length_cons, List.length_nil]
      rw [show F.length + (0 + 1) + j = F.length + (j + 1) by omega]
      exact this)
    have hlen : (F ++ [(s, vs F.length)]).length = F.length + 1 := by simp
    rw [hlen] at h5 h6
    refine ⟨fun j o' hj => ?_, by simpa [gz, fz] using h6⟩
    cases j with
    | zero =>
      simp at hj
      subst hj
      exact ⟨s, m, rfl, rfl, h2, fun hq w hb h0 hh => by simpa [gz] using h3 (by simpa using hq) w hb h0 (by simpa [fz] using hh), fun hq w hb h0 hh => by simpa [gz] using h3b (by simpa using hq) w hb (by simpa using h0) (by simpa [fz] using hh)⟩
    | succ j =>
      obtain ⟨s', m', e1, e2, e4, e5, e6⟩ := h5 j o' (by simpa using hj)
      refine ⟨s', m', by simpa using e1, by simpa using e2, e4, fun hq w hb h0 hh => ?_, fun hq w hb h0 hh => ?_⟩
      · have := e5 (by omega) w hb h0 (by simpa [fz] using hh)
        simpa [gz] using this
      · have := e6 (by omega) w hb ⟨h0.1, fun hb2 => h0.2 (by rw [show F.length + (j + 1) = F.length + 1 + j by omega]; exact hb2)⟩ (by simpa [fz] using hh)
        simpa [gz] using this
  | [], [], _ :: _, _, _, h, _, _ => h.elim
  | [], _ :: _, _, _, _, h, _, _ => h.elim
  | _ :: _, [], _, _, _, h, _, _ => h.elim
  | _ :: _, _ :: _, [], _, _, h, _, _ => h.elim
structure Inv2 (S : Nat → Prop) (q : Nat) (F0 F1 : World → Prop) (l : List Oper) (ss : List Spec) (cx : Cx) (n : Nat) (G : Env) (w0 : World) (vs : Nat → Value) (D : Array Bool) (a : Act) (w : World) : Prop where
  dsize : D.size = l.length
  closed : ∀ (j : Nat) (o : Oper), l[j]? = some o → D.getD j false = true → ∀ e ∈ o.after, Region.binds .any e = true → D.getD e.on false = true
  below : Kept w0 w S
  phase : (D.getD q false = true → F1 w) ∧ (D.getD q false = false → F0 w)
  facts : ∀ k s, D.getD k false = true → ss[k]? = some s → s.s (vs k) w
  pls : ∀ (k : Nat) (s : Spec), ss[k]? = some s → s.pl (vs k)
  size : a.tmps.size = n
  defers : a.defers = cx.ds
  old : ∀ t v, (∀ (k : Nat) (o : Oper), l[k]? = some o → o.dst = some t → D.getD k false = false) → sLook G t = some v → a.tmps[t]? = some v
  new : ∀ (k : Nat) (o : Oper) d, l[k]? = some o → o.dst = some d → D.getD k false = true → a.tmps[d]? = some (vs k)
theorem Inv2.step {S : Nat → Prop} {q : Nat} {F0 F1 : World → Prop} {l : List Oper} {ss : List Spec} {M : List Nat} {w0 : World} {vs : Nat → Value} {D : Array Bool} {a : Act} {w w' : World} (hs : Static l M) (h : Inv2 S q F0 F1 l ss cx n G w0 vs D a w)
    {i : Nat} {o : Oper} (hi : l[i]? = some o) (hdn : ∀ d, o.dst = some d → Nat.blt d n = true) (hun : D.getD i false = false) (hpre : ∀ e ∈ o.after, Region.binds .any e = true → D.getD e.on false = true) {s : Spec} (hsi : ss[i]? = some s) {v : Value} (hv : s.s v w') (hb : Kept w w' S) (hph : ((D.setIfInBounds i true).getD q false = true → F1 w') ∧ ((D.setIfInBounds i true).getD q false = false → F0 w')) (hst : ∀ (k : Nat) (s : Spec), k ≠ i → D.getD k false = true → ss[k]? = some s → s.s (vs k) w → s.s (vs k) w') :
    Inv2 S q F0 F1 l ss cx n G w0 (fun k => if k = i then v else vs k) (D.setIfInBounds i true) (a.put o.dst v) w' := by
  have hil : i < l.length := (List.getElem?_eq_some_iff.1 hi).1
  have hiD : i < D.size := by rw [h.dsize]; exact hil
  have hne : ∀ {k : Nat}, k ≠ i → (D.setIfInBounds i true).getD k false = D.getD k false := fun hk => by simp [Array.getElem?_setIfInBounds_ne (Ne.symm hk)]
  have hup : ∀ {k : Nat}, D.getD k false = true → (D.setIfInBounds i true).getD k false = true := fun {k} hk => by
    by_cases hki : k = i
    · subst hki; rw [hun] at hk; cases hk
    · rw [hne hki]; exact hk
  refine ⟨by simp [h.dsize], fun j oj hj hl e he hbd => ?_, kept_trans h.below hb, hph, fun k sk hl hk => ?_, fun k sk hk => ?_, ?_, ?_, fun t u hno hl => ?_, fun k ok d hk hd hl => ?_⟩
  · by_cases hji : j = i
    · subst hji
      have : oj = o := Option.some.inj (hj.symm.trans hi)
      subst this
      exact hup (hpre e he hbd)
    · rw [hne hji] at hl
      exact hup (h.closed j oj hj hl e he hbd)
  · by_cases hki : k = i
    · subst hki
      have : sk = s := Option.some.inj (hk.symm.trans hsi)
      subst this
      simpa using hv
    · rw [hne hki] at hl
      simpa [hki] using hst k sk hki hl hk (h.facts k sk hl hk)
  · by_cases hki : k = i
    · subst hki
      have : sk = s := Option.some.inj (hk.symm.trans hsi)
      subst this
      simpa using sk.imp _ _ hv
    · simpa [hki] using h.pls k sk hk
  · cases hd : o.dst <;> simp [Act.put, h.size]
  · cases hd : o.dst <;> simp [Act.put, h.defers]
  · have h1 : a.tmps[t]? = some u := h.old t u (fun k ok hk hd => by
      have := hno k ok hk hd
      by_cases hki : k = i
      · subst hki; exact hun
      · rwa [hne hki] at this) hl
    cases hd : o.dst with
    | none => simpa [Act.put] using h1
    | some d =>
      by_cases hdt : d = t
      · subst hdt
        have := hno i o hi hd
        rw [set_getD_same hiD] at this
        cases this
      · simp only [Act.put]
        rw [Array.getElem?_setIfInBounds_ne hdt]
        exact h1
  · by_cases hki : k = i
    · subst hki
      have : ok = o := Option.some.inj (hk.symm.trans hi)
      subst this
      have hlt : d < a.tmps.size := by rw [h.size]; simpa using hdn d hd
      simp [Act.put, hd, hlt]
    · rw [hne hki] at hl
      have h1 := h.new k ok d hk hd hl
      simp only [hki, if_false]
      cases hd' : o.dst with
      | none => simpa [Act.put] using h1
      | some d' =>
        have hdd : d' ≠ d := fun he => hki (hs.uniq i k o ok d hi hk (by rw [hd', he]) hd)
        simp only [Act.put]
        rw [Array.getElem?_setIfInBounds_ne hdd]
        exact h1
theorem wpAny_flow2 {S : Nat → Prop} {q0 : Nat} {F0 F1 : World → Prop} {l : List Oper} {ss : List Spec} {M : List Nat} {w0 : World} {k : Nat} (hs : Static l M) (hkl : k ≤ l.length) (htl : tailOk M k l.length = true)
    (ht : ∀ vs : Nat → Value, (∀ (k : Nat) (s : Spec), ss[k]? = some s → s.pl (vs k)) → (∀ (j : Nat) (o : Oper), j < k → l[j]? = some o → ∃ s m, ss[j]? = some s ∧ M[j]? = some m ∧ (∀ d, o.dst = some d → Nat.blt d n = true) ∧
      (j = q0 → ∀ w, Kept w0 w S → F0 w → Have m (fz (ss.take j) vs 0) w → MutOk P l o (gz (l.take j) vs 0 G) w s S F1) ∧ (j ≠ q0 → ∀ w, Kept w0 w S → ((Nat.testBit m q0 = true → F1 w) ∧ (Nat.testBit (M.getD q0 0) j = true → F0 w)) → Have m (fz (ss.take j) vs 0) w → StepOk P l o (gz (l.take j) vs 0 G) w s)) ∧ (∀ w, Kept w0 w S → F1 w → HaveAll (fz ss vs 0) w → ∀ a, Fits cx n (gz (l.take k) vs 0 G) a → wpList P l.toArray Q (l.drop k) a w)) (hsl : ss.length = k) (hqk : q0 < k) (hst : ∀ (k : Nat) (s : Spec), k ≠ q0 → ss[k]? = some s → ∀ v w w', Kept w w' S → s.s v w → s.s v w') (hF0 : ∀ w w', Below w.heap.size w w' → F0 w → F0 w') (hF1 : ∀ w w', Below w.heap.size w w' → F1 w → F1 w') :
    ∀ (fuel : Nat) (D : Array Bool) (a : Act) (w : World) (vs : Nat → Value), cf D.toList ≤ fuel → Inv2 S q0 F0 F1 l ss cx n G w0 vs D a w → (∀ i, k ≤ i → i < l.length → D.getD i false = false) → wpAny P .any l.toArray Q fuel D a w := by
  have hfin : ∀ (D : Array Bool) (a : Act) (w : World) (vs : Nat → Value), Inv2 S q0 F0 F1 l ss cx n G w0 vs D a w → (∀ i, i < k → D.getD i false = true) → (∀ i, k ≤ i → i < l.length → D.getD i false = false) → wpList P l.toArray Q (l.drop k) a w := fun D a w vs h hall hno => by
    refine (ht vs h.pls).2 w h.below (h.phase.1 (hall q0 hqk)) (fun k s v hk => ?_) a ⟨h.size, h.defers, fun t v hl => ?_⟩
    · rw [fz_get] at hk
      cases hsk : ss[k]? with
      | none => rw [hsk] at hk; simp at hk
      | some s' =>
        rw [hsk] at hk
        simp only [Option.map_some, Option.some.injEq, Prod.mk.injEq, Nat.zero_add] at hk
        obtain ⟨rfl, rfl⟩ := hk
        exact h.facts k s' (hall k (by have := (List.getElem?_eq_some_iff.1 hsk).1; omega)) hsk
    · rcases gz_look (l.take k) vs 0 G t v hl with ⟨j, o, h1, h2, h3⟩ | ⟨h1, h2⟩
      · rw [h3, Nat.zero_add]
        have hjk : j < k := by
          have := (List.getElem?_eq_some_iff.1 h1).1
          simp at this; omega
        rw [List.getElem?_take, if_pos hjk] at h1
        exact h.new j o t h1 h2 (hall j hjk)
      · refine h.old t v (fun q o hq hd => ?_) h2
        rcases Nat.lt_or_ge q k with hqk | hqk
        · exact absurd hd (h1 q o (by rw [List.getElem?_take, if_pos hqk]; exact hq))
        · exact hno q hqk (List.getElem?_eq_some_iff.1 hq).1
  have hdone : ∀ (fuel : Nat) (D : Array Bool) (a : Act) (w : World) (vs : Nat → Value), cf D.toList ≤ fuel → Inv2 S q0 F0 F1 l ss cx n G w0 vs D a w → (∀ i, i < k → D.getD i false = true) → (∀ i, k ≤ i → i < l.length → D.getD i false = false) → wpAny P .any l.toArray Q fuel D a w := fun fuel D a w vs hc h hall hno =>
    wpAny_tail hs htl (l.length - k) k rfl (Nat.le_refl _) hkl fuel D a w h.dsize (fun i hi => ⟨fun hd => (Nat.lt_or_ge i k).resolve_right (fun q => by rw [hno i q hi] at hd; exact Bool.noConfusion hd), fun q => hall i q⟩) hc (hfin D a w vs h hall hno)
  intro fuel
  induction fuel with
  | zero =>
    intro D a w vs hc h hno
    refine hdone 0 D a w vs hc h (fun i hi => ?_) hno
    have hiD : i < D.size := by rw [h.dsize]; omega
    have := cf_zero D.toList (by omega) i D[i] (by simp [hiD])
    simp [hiD, this]
  | succ fuel ih =>
    intro D a w vs hc h hno
    by_cases hall : ∀ i, i < k → D.getD i false = true
    · exact hdone _ D a w vs hc h hall hno
    obtain ⟨q, hq, hqn⟩ : ∃ q, q < k ∧ D.getD q false = false := by
      refine Classical.byContradiction fun hne => hall fun i hi => ?_
      cases hd : D.getD i false with
      | true => rfl
      | false => exact absurd ⟨i, hi, hd⟩ hne
    refine ⟨fun hr => (by have := all_listed hs h.dsize hr q (by omega); rw [hqn] at this; cases this), fun i hi => ?_⟩
    obtain ⟨h1, o, h2, hpre⟩ := mem_ready.1 hi
    have hun := getD_no h1
    have hoi : l[i]? = some o := by simpa using h2
    have hil : i < l.length := (List.getElem?_eq_some_iff.1 hoi).1
    have hik : i < k := by
      rcases Nat.lt_or_ge i k with hlt | hge
      · exact hlt
      · have := mask_listed hs h.closed i o q hoi hpre (tail_spec htl i hge hil q (by omega))
        rw [hqn] at this; cases this
    obtain ⟨s, m, hs1, hm1, hdn, hmut, hstep⟩ := (ht vs h.pls).1 i o hik hoi
    have hmi : M.getD i 0 = m := by simp [hm1]
    have hmask := mask_listed hs h.closed i o
    have hhave : Have m (fz (ss.take i) vs 0) w := (fun k s' v hk hb => by
      rw [fz_get] at hk
      cases hsk : (ss.take i)[k]? with
      | none => rw [hsk] at hk; simp at hk
      | some s'' =>
        rw [hsk] at hk
        simp only [Option.map_some, Option.some.injEq, Prod.mk.injEq, Nat.zero_add] at hk
        obtain ⟨rfl, rfl⟩ := hk
        refine h.facts k s'' (hmask k hoi hpre (by rw [hmi]; exact hb)) ?_
        rw [List.getElem?_take] at hsk
        split at hsk
        · exact hsk
        · simp at hsk)
    have heyes : ∀ t ∈ eyes l o, ∀ v, sLook (gz (l.take i) vs 0 G) t = some v → a.tmps[t]? = some v := fun t hte v hl => by
      rcases gz_look (l.take i) vs 0 G t v hl with ⟨j, o', g1, g2, g3⟩ | ⟨g1, g2⟩
      · have hji : j < i := by
          have := (List.getElem?_eq_some_iff.1 g1).1
          simp at this; omega
        have g1' : l[j]? = some o' := by
          rw [List.getElem?_take] at g1
          rw [if_pos hji] at g1
          exact g1
        rw [g3, Nat.zero_add]
        refine h.new j o' t g1' g2 ?_
        rcases hs.seen i j o o' t hoi g1' g2 hte with g | g
        · exact hmask j hoi hpre g
        · have := (hs.bits j o' i g1' g).1; omega
      · refine h.old t v (fun k ok hk hd => ?_) g2
        cases hDk : D.getD k false with
        | false => rfl
        | true =>
          exfalso
          rcases Nat.lt_trichotomy k i with g | g | g
          · refine g1 k ok ?_ hd
            rw [List.getElem?_take, if_pos g]; exact hk
          · subst g; rw [hun] at hDk; cases hDk
          · rcases hs.seen i k o ok t hoi hk hd hte with q | q
            · have := (hs.bits i o k hoi q).1; omega
            · have := mask_listed hs h.closed k ok i hk (h.closed k ok hk hDk) q
              rw [hun] at this; cases this
    have hcf : cf (D.setIfInBounds i true).toList ≤ fuel := by
      have hiD : i < D.size := by rw [h.dsize]; exact hil
      have := cf_set D.toList i (by simp [hiD] at hun ⊢; exact hun)
      rw [Array.toList_setIfInBounds]
      omega
    have hphB : ∀ w', i ≠ q0 → Below w.heap.size w w' → ((D.setIfInBounds i true).getD q0 false = true → F1 w') ∧ ((D.setIfInBounds i true).getD q0 false = false → F0 w') := fun w' hne hb => by
      have e : (D.setIfInBounds i true).getD q0 false = D.getD q0 false := by simp [Array.getElem?_setIfInBounds_ne hne]
      rw [e]
      exact ⟨fun h1 => hF1 _ _ hb (h.phase.1 h1), fun h1 => hF0 _ _ hb (h.phase.2 h1)⟩
    have hgo : ∀ v w', s.s v w' → Kept w w' S → ((D.setIfInBounds i true).getD q0 false = true → F1 w') ∧ ((D.setIfInBounds i true).getD q0 false = false → F0 w') → (∀ (k : Nat) (s : Spec), k ≠ i → D.getD k false = true → ss[k]? = some s → s.s (vs k) w → s.s (vs k) w') → wpAny P .any l.toArray Q fuel (D.setIfInBounds i true) (a.put o.dst v) w' := fun v w' hv hb hph hca =>
      ih _ _ _ _ hcf (h.step hs hoi hdn hun hpre hs1 hv hb hph hca) (fun q hq hql => by
        have hqi : q ≠ i := by omega
        have : (D.setIfInBounds i true).getD q false = D.getD q false := by simp [Array.getElem?_setIfInBounds_ne (Ne.symm hqi)]
        rw [this]; exact hno q hq hql)
    by_cases hiq : i = q0
    ·
      subst hiq
      have hph : ∀ w', F1 w' → ((D.setIfInBounds i true).getD i false = true → F1 w') ∧ ((D.setIfInBounds i true).getD i false = false → F0 w') := fun w' h1 => by
        have e := set_getD_same (D := D) (i := i) (by rw [h.dsize]; exact hil)
        rw [e]
        exact ⟨fun _ => h1, fun h2 => by cases h2⟩
      have hcaM : ∀ w', Kept w w' S → ∀ (k : Nat) (s : Spec), k ≠ i → D.getD k false = true → ss[k]? = some s → s.s (vs k) w → s.s (vs k) w' := fun w' hb k s hk _ hsk h1 => hst k s hk hsk _ _ _ hb h1
      have hok := hmut rfl w h.below (h.phase.2 hun) hhave
      have hrun : known (gz (l.take i) vs 0 G) o = true ∧ GivesM P s S F1 w ((execOp (sEv (gz (l.take i) vs 0 G)) o).run P w) → o.wp P a w (wpAny P .any l.toArray Q fuel (D.setIfInBounds i true)) Q := fun ⟨hk, hg⟩ => by
        unfold Oper.wp
        rw [exec_eyes heyes hk]
        generalize (execOp (sEv (gz (l.take i) vs 0 G)) o).run P w = r at hg ⊢
        cases r with
        | halt x w' => exact hg.elim
        | ok x w' =>
          cases x with
          | enter f args =>
            obtain ⟨rfl, hcall⟩ := hg
            refine hcall.mono fun e w'' he => ?_
            obtain ⟨v, rfl, hv, hb, h1⟩ := he
            exact hgo v w'' hv hb (hph w'' h1) (hcaM w'' hb)
          | skip => exact hgo undef w' hg.1 hg.2.1 (hph w' hg.2.2) (hcaM w' hg.2.1)
          | value v => exact hgo v w' hg.1 hg.2.1 (hph w' hg.2.2) (hcaM w' hg.2.1)
          | _ => exact hg.elim
      unfold wpOp
      rw [h2]
      simp only
      unfold MutOk at hok
      cases hgd : o.guard with
      | none =>
        rw [hgd] at hok
        rw [if_pos (wanted_none hgd _)]
        exact .inl (hrun hok)
      | some gb =>
        obtain ⟨g, b⟩ := gb
        rw [hgd] at hok
        obtain ⟨t, q1, q2, q3⟩ := hok
        have hte : t ∈ eyes l o := by
          refine List.mem_append_right _ ?_
          rw [hgd]
          simp [q1]
        have hw : Region.wanted o (yielded l.toArray a.tmps) = true := by
          have q1' : ((l.toArray)[g]?).bind (·.dst) = some t := by simpa using q1
          have q5 : yielded l.toArray a.tmps g = some b := by
            unfold yielded
            rw [q1']
            simp [heyes t hte _ q2]
          unfold Region.wanted
          rw [hgd]
          simp only [q5]
          cases b <;> rfl
        rw [if_pos hw]
        exact .inl (hrun q3)
    have hcaB : ∀ w', Below w.heap.size w w' → ∀ (k : Nat) (s : Spec), k ≠ i → D.getD k false = true → ss[k]? = some s → s.s (vs k) w → s.s (vs k) w' := fun w' hb k s _ _ _ h1 => s.stab _ _ _ hb h1
    have hok := hstep hiq w h.below ⟨fun hb => h.phase.1 (hmask q0 hoi hpre (by rw [hmi]; exact hb)), fun hb => by
      cases hDq : D.getD q0 false with
      | false => exact h.phase.2 hDq
      | true =>
        exfalso
        have hq0l : q0 < l.length := by omega
        have hoq : l[q0]? = some l[q0] := List.getElem?_eq_getElem hq0l
        have := mask_listed hs h.closed q0 l[q0] i hoq (h.closed q0 _ hoq hDq) hb
        rw [hun] at this; cases this⟩ hhave
    have hrun : known (gz (l.take i) vs 0 G) o = true ∧ Gives P s w ((execOp (sEv (gz (l.take i) vs 0 G)) o).run P w) → o.wp P a w (wpAny P .any l.toArray Q fuel (D.setIfInBounds i true)) Q := fun ⟨hk, hg⟩ => by
      unfold Oper.wp
      rw [exec_eyes heyes hk]
      generalize (execOp (sEv (gz (l.take i) vs 0 G)) o).run P w = r at hg ⊢
      cases r with
      | halt x w' => exact hg.elim
      | ok x w' =>
        cases x with
        | value v => exact hgo v w' hg.1 (below_kept hg.2) (hphB w' hiq hg.2) (hcaB w' hg.2)
        | skip => exact hgo undef w' hg.1 (below_kept hg.2) (hphB w' hiq hg.2) (hcaB w' hg.2)
        | enter f args =>
          obtain ⟨rfl, hcall⟩ := hg
          refine hcall.mono fun e w'' he => ?_
          obtain ⟨v, rfl, hv, hb⟩ := he
          exact hgo v w'' hv (below_kept hb) (hphB w'' hiq hb) (hcaB w'' hb)
        | _ => exact hg.elim
    unfold wpOp
    rw [h2]
    simp only
    unfold StepOk at hok
    cases hgd : o.guard with
    | none =>
      rw [hgd] at hok
      rw [if_pos (wanted_none hgd _)]
      exact .inl (hrun hok)
    | some gb =>
      obtain ⟨g, b⟩ := gb
      rw [hgd] at hok
      rcases hok with ⟨t, c, q1, q2, q3, q4⟩ | ⟨t, q1, q2, q4⟩
      rotate_left
      · have hte : t ∈ eyes l o := by
          refine List.mem_append_right _ ?_
          rw [hgd]
          simp [q1]
        have hw : Region.wanted o (yielded l.toArray a.tmps) = false := by
          have q1' : ((l.toArray)[g]?).bind (·.dst) = some t := by simpa using q1
          have q5 : yielded l.toArray a.tmps g = none := by
            unfold yielded
            rw [q1']
            simp [heyes t hte _ q2, undef]
          unfold Region.wanted
          rw [hgd]
          simp only [q5]
          rfl
        rw [if_neg (by rw [hw]; simp)]
        exact hgo undef w q4 (kept_refl _ _) (hphB w hiq (Below.refl _ _)) (hcaB w (Below.refl _ _))
      have hte : t ∈ eyes l o := by
        refine List.mem_append_right _ ?_
        rw [hgd]
        simp [q1]
      have hw : Region.wanted o (yielded l.toArray a.tmps) = (c == b) := by
        have q1' : ((l.toArray)[g]?).bind (·.dst) = some t := by simpa using q1
        have q5 : yielded l.toArray a.tmps g = some c := by
          unfold yielded
          rw [q1']
          simp [heyes t hte _ q2]
        unfold Region.wanted
        rw [hgd]
        simp only [q5]
        cases c <;> cases b <;> rfl
      by_cases hc : c = b
      · rw [if_pos (by rw [hw]; simp [hc])]
        exact .inl (hrun (q3 hc))
      · rw [if_neg (by rw [hw]; simp [hc])]
        exact hgo undef w (q4 hc) (kept_refl _ _) (hphB w hiq (Below.refl _ _)) (hcaB w (Below.refl _ _))
theorem w_drawa {id : Nat} {l : List Oper} {M : List Nat} {ss : List Spec} (S : Nat → Prop) (q : Nat) (F0 F1 : World → Prop) (k : Nat) (hm : P.follows .mixedOrders = true) (hok : (listOk l M && Nat.beq M.length l.length && tailOk M k l.length && Nat.ble k l.length && Nat.blt q k) = true) (hst : ∀ (k : Nat) (s : Spec), k ≠ q → ss[k]? = some s → ∀ v w w', Kept w w' S → s.s v w → s.s v w') (hF0 : ∀ w w', Below w.heap.size w w' → F0 w → F0 w') (hF1 : ∀ w w', Below w.heap.size w w' → F1 w → F1 w') (h0 : F0 w.drew)
    (h : Tele2 P n l w.drew S q F0 F1 M (fun G' F => ∀ w', Kept w.drew w' S → F1 w' → HaveAll F w' → RW P l.toArray cx n (Ks cx P st Q) (l.drop k) G' w') (l.take k) ss (M.take k) [] G) : W P cx n Q (Itm.code (.region id l.toArray true) :: st) G w := fun a ha => by
  simp only [Bool.and_eq_true] at hok
  obtain ⟨⟨⟨⟨hok1, hM0⟩, htl⟩, hkl0⟩, hqk0⟩ := hok
  have hqk : q < k := by simpa using hqk0
  have hM := Nat.eq_of_beq_eq_true hM0
  have hkl := Nat.le_of_ble_eq_true hkl0
  have ht := fun vs hp => tele2_at (P := P) (l.take k) ss (M.take k) [] G h vs hp
  have hsl : ss.length = k := by
    have aux : ∀ (os : List Oper) (ss : List Spec) (ms : List Nat) (F : Facts) (G : Env) (E : Env → Facts → Prop), Tele2 P n l w.drew S q F0 F1 M E os ss ms F G → ss.length = os.length := by
      intro os
      induction os with
      | nil => intro ss ms F G E h; cases ss with
        | nil => rfl
        | cons => cases ms <;> exact h.elim
      | cons o os ih => intro ss ms F G E h; cases ss with
        | nil => cases ms <;> exact h.elim
        | cons s ss => cases ms with
          | nil => exact h.elim
          | cons m ms => obtain ⟨v, hv⟩ := s.inh; simp only [List.length_cons]; rw [ih ss ms _ _ E (h.2.2.2 v hv)]
    rw [aux _ _ _ _ _ _ h, List.length_take]; omega
  refine drawn_in hm (fun i o hi => listOk_sel hok1 i o (by simpa using hi)) (wpAny_flow2 (cx := cx) (S := S) (q0 := q) (F0 := F0) (F1 := F1) (n := n) (G := G) (Q := Ks cx P st Q) (ss := ss) (w0 := w.drew) (k := k) (static_of hok1) hkl htl (fun vs hp => ?_) hsl hqk hst hF0 hF1 _ _ a _ (fun j => match ss[j]? with | some s => Classical.choose s.inh | none => undef) ?_ ?_ ?_)
  · obtain ⟨h1, h2⟩ := ht vs (fun j s hj => by simpa using hp j s hj)
    refine ⟨fun j o hjk hj => ?_, fun w' hb hf hh a' ha' => ?_⟩
    · obtain ⟨s, m, e1, e2, e4, e5, e6⟩ := h1 j o (by rw [List.getElem?_take, if_pos hjk]; exact hj)
      have e2' : M[j]? = some m := by rw [List.getElem?_take, if_pos hjk] at e2; exact e2
      have htt : (l.take k).take j = l.take j := by rw [List.take_take]; congr 1; omega
      exact ⟨s, m, e1, e2', e4, fun hq w' hb h0 hh => by have := e5 (by simpa using hq) w' hb h0 (by simpa using hh); rw [htt] at this; simpa using this, fun hq w' hb h0 hh => by have := e6 (by simpa using hq) w' hb (by simpa using h0) (by simpa using hh); rw [htt] at this; simpa using this⟩
    · exact (h2 w' hb hf (by simpa using hh)) a' (by simpa using ha')
  · have : ∀ k, cf (List.replicate k false) = k := by
      intro k; induction k with
      | zero => rfl
      | succ k ih => simp only [List.replicate_succ, cf, ih]; simp; omega
    simp [this]
  · refine ⟨by simp, fun j o hj hl => ?_, kept_refl _ _, ⟨fun h1 => by (simp [Array.getElem?_replicate] at h1; split at h1 <;> simp at h1), fun _ => h0⟩, fun k s hl => ?_, fun k s hk => ?_, ha.size, ha.defers, fun t v _ hl => ha.at_ t v hl, fun k o d hk hd hl => ?_⟩
    · simp [Array.getElem?_replicate] at hl; split at hl <;> simp at hl
    · simp [Array.getElem?_replicate] at hl; split at hl <;> simp at hl
    · simp only [hk]
      exact Classical.choose_spec s.inh
    · simp [Array.getElem?_replicate] at hl; split at hl <;> simp at hl
  · intro i _ hi
    simp [Array.getElem?_replicate, hi]
theorem w_drawm {id : Nat} {l : List Oper} {M : List Nat} {ss : List Spec} (S : Nat → Prop) (q : Nat) (F0 F1 : World → Prop) (k : Nat) (hm : P.follows .mixedOrders = true) (hok : (listOk l M && Nat.beq M.length l.length && tailOk M k l.length && Nat.ble k l.length && Nat.blt q k) = true) (hst : ∀ (k : Nat) (s : Spec), ss[k]? = some s → ∀ v w w', Kept w w' S → s.s v w → s.s v w') (hF0 : ∀ w w', Below w.heap.size w w' → F0 w → F0 w') (hF1 : ∀ w w', Below w.heap.size w w' → F1 w → F1 w') (h0 : F0 w.drew)
    (h : Tele2 P n l w.drew S q F0 F1 M (fun G' F => ∀ w', Kept w.drew w' S → F1 w' → HaveAll F w' → RW P l.toArray cx n (Ks cx P st Q) (l.drop k) G' w') (l.take k) ss (M.take k) [] G) : W P cx n Q (Itm.code (.region id l.toArray true) :: st) G w :=
  w_drawa S q F0 F1 k hm hok (fun k s _ => hst k s) hF0 hF1 h0 h
variable {l : List Oper} {w0 : World} {S : Nat → Prop} {q : Nat} {F0 F1 : World → Prop} {M : List Nat} {E : Env → Facts → Prop} {os : List Oper} {ss : List Spec} {ms : List Nat} {m : Nat} {F : Facts} {o : Oper}
theorem u_is (hnq : Nat.beq F.length q = false) {d : Nat} (c : Value) (hg : o.guard = none) (hd : o.dst = some d) (hdn : Nat.blt d n = true) (hk : known G o = true)
    (hrun : ∀ w, Kept w0 w S → ((Nat.testBit m q = true → F1 w) ∧ (Nat.testBit (M.getD q 0) F.length = true → F0 w)) → Have m F w → (execOp (sEv G) o).run P w = .ok (.value c) w)
    (k : Tele2 P n l w0 S q F0 F1 M E os ss ms (F ++ [(Is c, c)]) ((d, c) :: G)) : Tele2 P n l w0 S q F0 F1 M E (o :: os) (Is c :: ss) (m :: ms) F G := by
  refine ⟨fun d' h => by rw [hd] at h; cases h; exact hdn, fun hq_ => by (rw [hq_] at hnq; simp at hnq), fun _ w hb h1_ hh => ?_, fun v hv => ?_⟩
  · unfold StepOk
    rw [hg]
    refine ⟨hk, ?_⟩
    rw [hrun w hb h1_ hh]
    exact ⟨rfl, Below.refl _ _⟩
  · have : v = c := hv
    subst this
    rw [hd]
    exact k
theorem u_val (hnq : Nat.beq F.length q = false) {d : Nat} (s : Spec) (hg : o.guard = none) (hd : o.dst = some d) (hdn : Nat.blt d n = true) (hk : known G o = true)
    (hrun : ∀ w, Kept w0 w S → ((Nat.testBit m q = true → F1 w) ∧ (Nat.testBit (M.getD q 0) F.length = true → F0 w)) → Have m F w → ∃ v w', (execOp (sEv G) o).run P w = .ok (.value v) w' ∧ s.s v w' ∧ Below w.heap.size w w')
    (k : ∀ v, s.pl v → Tele2 P n l w0 S q F0 F1 M E os ss ms (F ++ [(s, v)]) ((d, v) :: G)) : Tele2 P n l w0 S q F0 F1 M E (o :: os) (s :: ss) (m :: ms) F G := by
  refine ⟨fun d' h => by rw [hd] at h; cases h; exact hdn, fun hq_ => by (rw [hq_] at hnq; simp at hnq), fun _ w hb h1_ hh => ?_, fun v hv => ?_⟩
  · unfold StepOk
    rw [hg]
    refine ⟨hk, ?_⟩
    obtain ⟨v, w', h1, h2, h3⟩ := hrun w hb h1_ hh
    rw [h1]
    exact ⟨h2, h3⟩
  · rw [hd]
    exact k v hv
theorem u_store (hq : Nat.beq F.length q = true) (hg : o.guard = none) (hd : o.dst = none) (hk : known G o = true)
    (hc : ∀ w, Kept w0 w S → F0 w → Have m F w → ∃ w', (execOp (sEv G) o).run P w = .ok .skip w' ∧ Kept w w' S ∧ F1 w')
    (k : Tele2 P n l w0 S q F0 F1 M E os ss ms (F ++ [(Is undef, undef)]) G) : Tele2 P n l w0 S q F0 F1 M E (o :: os) (Is undef :: ss) (m :: ms) F G := by
  refine ⟨fun d' h => (by rw [hd] at h; cases h), fun _ w hb h0 hh => ?_, fun hq_ => absurd (Nat.eq_of_beq_eq_true hq) hq_, fun v hv => ?_⟩
  · unfold MutOk
    rw [hg]
    refine ⟨hk, ?_⟩
    obtain ⟨w', h1, h2, h3⟩ := hc w hb h0 hh
    rw [h1]
    exact ⟨rfl, h2, h3⟩
  · have : v = undef := hv
    subst this
    rw [hd]
    exact k
theorem u_app {d : Nat} (s : Spec) (hq : Nat.beq F.length q = true) (hg : o.guard = none) (hd : o.dst = some d) (hdn : Nat.blt d n = true) (hk : known G o = true)
    (hrun : ∀ w, Kept w0 w S → F0 w → Have m F w → ∃ v w', (execOp (sEv G) o).run P w = .ok (.value v) w' ∧ s.s v w' ∧ Kept w w' S ∧ F1 w')
    (k : ∀ v, s.pl v → Tele2 P n l w0 S q F0 F1 M E os ss ms (F ++ [(s, v)]) ((d, v) :: G)) : Tele2 P n l w0 S q F0 F1 M E (o :: os) (s :: ss) (m :: ms) F G := by
  refine ⟨fun d' h => by rw [hd] at h; cases h; exact hdn, fun _ w hb h0_ hh => ?_, fun hq_ => absurd (Nat.eq_of_beq_eq_true hq) hq_, fun v hv => ?_⟩
  · unfold MutOk
    rw [hg]
    refine ⟨hk, ?_⟩
    obtain ⟨v, w', h1, h2, h3, h4⟩ := hrun w hb h0_ hh
    rw [h1]
    exact ⟨h2, h3, h4⟩
  · rw [hd]
    exact k v hv
theorem u_tail {rest : List Oper} {ops : Array Oper} {Q' : Exit → Act → World → Prop} (h : ∀ w', Kept w0 w' S → F1 w' → HaveAll F w' → RW P ops cx n Q' rest G w') : Tele2 P n l w0 S q F0 F1 M (fun G' F => ∀ w', Kept w0 w' S → F1 w' → HaveAll F w' → RW P ops cx n Q' rest G' w') [] [] [] F G := h
def StabS (S : Nat → Prop) (s : Spec) : Prop := ∀ v w w', Kept w w' S → s.s v w → s.s v w'
def StabL (S : Nat → Prop) (ss : List Spec) : Prop := ∀ (k : Nat) (s : Spec), ss[k]? = some s → StabS S s
theorem stab_is {S : Nat → Prop} {c : Value} : StabS S (Is c) := fun _ _ _ _ h => h
theorem stab_nil {S : Nat → Prop} : StabL S [] := fun k s h => by simp at h
theorem stab_cons {S : Nat → Prop} {s : Spec} {ss : List Spec} (h : StabS S s) (t : StabL S ss) : StabL S (s :: ss) := fun k s' h' => by
  cases k with
  | zero => simp at h'; subst h'; exact h
  | succ k => exact t k s' (by simpa using h')
def StabX (S : Nat → Prop) : Nat → List Spec → Prop
  | _, [] => True
  | 0, _ :: ss => StabL S ss
  | q + 1, s :: ss => StabS S s ∧ StabX S q ss
theorem stabx {S : Nat → Prop} : ∀ {q : Nat} {ss : List Spec}, StabX S q ss → ∀ (k : Nat) (s : Spec), k ≠ q → ss[k]? = some s → StabS S s
  | _, [], _, _, _, _, h => by simp at h
  | 0, _ :: ss, hX, k, s, hk, h => by
    cases k with
    | zero => exact absurd rfl hk
    | succ k => exact hX k s (by simpa using h)
  | q + 1, s0 :: ss, hX, k, s, hk, h => by
    cases k with
    | zero =>
      simp only [List.getElem?_cons_zero, Option.some.injEq] at h
      subst h
      exact hX.1
    | succ k => exact stabx hX.2 k s (fun e => hk (by rw [e])) (by simpa using h)
theorem stab_slc {S : Nat → Prop} {B : Nat} {t : TypeId} {cs : Array Value} {n : Nat} (hS : ∀ q, B ≤ q → ¬ S q) : StabS S (SlcSpec B t cs n) := fun v w w' hk ⟨g, h1, h2, h3⟩ => ⟨g, h1, h2, h3.kept hk (hS g h2)⟩
end
end Go.Proofs.Ytiiljpaedelhlaa.Flow
end
section
namespace Go.Proofs.Ytiiljpaedelhlaa.Flow
open Go.RowKit Go.Proofs.YtiiljpaedelhlaaW.PrintWords Go.Proofs.YtiiljpaedelhlaaW.PrintLast Go.Proofs.YtiiljpaedelhlaaW.PrintMore
set_option linter.unusedSimpArgs false
section
open Go.Proofs.YtiiljpaedelhlaaW.PrintWords.Kd
theorem run_append_kd {P : Program} {α : Type} (d : Kd α) {Rr : α → List Value → Prop} {W : World} (base : Nat) (ty t e : TypeId) (z : Value) (bytes : Nat)
    (ht : P.underlying t = some (.slice e)) (hinfo : (P.info? e).map (fun i => (i.zero, i.size, i.bytes)) = some (some z, d.sz, bytes)) (hz : z.cells.size = d.sz) (hs0 : 0 < d.sz) (hb0 : 0 < bytes)
    (v : Value) (xs ys : List α) (A : Option Addr) (m c : Nat) (ok okp : Nat → Prop)
    (HO : d.R e W base ok v xs) (HR : ReadsRow Rr d.sz W A m ys) (hKM : ∀ x cs, Rr x cs → d.M W base okp x cs) (hokp : ∀ k, okp k → ok k ∧ some k ≠ v.ownBlock) (hfresh : ∀ k, W.heap.size ≤ k → ok k)
    (hbase : base ≤ W.heap.size) (hl : (xs.length + m) * bytes ≤ 140737488355328) :
    ∃ v1 w1, (Builtin.append_ #[t, t] ty #[v, .slice A m c]).run P W = .ok v1 w1 ∧ d.R e w1 base ok v1 (xs ++ ys) ∧ W.grownBy w1 v.ownBlock ∧ (v1.ownBlock = v.ownBlock ∨ ∃ b, v1.ownBlock = some b ∧ W.heap.size ≤ b) := by
  obtain ⟨i0, hi, hzz⟩ := Option.map_eq_some_iff.1 hinfo
  simp only [Prod.mk.injEq] at hzz
  obtain ⟨hz0, hz1, hz2⟩ := hzz
  have hm : ys.length = m := HR.1
  have hlen : xs.length + m ≤ 140737488355328 := Nat.le_trans (Nat.le_mul_of_pos_right _ hb0) hl
  obtain ⟨hok, inner, hown, hr⟩ := HO
  have hrun : ∃ v1 w1, (Builtin.append_ #[t, t] ty #[v, .slice A m c]).run P W = .ok v1 w1 ∧ d.R e w1 base ok v1 (xs ++ ys) ∧ W.grownBy w1 v.ownBlock ∧ (v1.ownBlock = v.ownBlock ∨ ∃ b, v1.ownBlock = some b ∧ W.heap.size ≤ b) := by
    rcases A with _ | ad
    · have h0 : m = 0 := by
        rcases Nat.eq_zero_or_pos m with h0 | h0
        · exact h0
        · obtain ⟨ad, h, _⟩ := HR.2.2 h0
          cases h
      subst h0
      obtain rfl : ys = [] := List.eq_nil_of_length_eq_zero hm
      refine ⟨v, W, ?_, by rw [List.append_nil]; exact ⟨hok, inner, hown, hr⟩, World.grownBy.refl W _, .inl rfl⟩
      rcases hown.2 with ⟨rfl, hn⟩ | ⟨g, cap, cur, rfl, _, _, hnc, _⟩
      · simp [Builtin.append_, run_underlying ht, sizeOf, typeInfo, hi, Builtin.lenOf, Builtin.firstCells]
      · simp [Builtin.append_, run_underlying ht, sizeOf, typeInfo, hi, Builtin.lenOf, Builtin.firstCells, hnc, storeCells]
    · obtain ⟨news, hnr, hnc⟩ := ReadsRow.inner_ HR
      have hnM : Reps (d.M W base okp) d.sz ys news := hnr.imp_ (fun p c hp => hKM p c hp)
      have hone : ∀ u ∈ news, u.oneCell' = true := by
        intro u hu
        obtain ⟨q, hq, rfl⟩ := List.mem_iff_getElem.1 hu
        have hql : q / d.sz < ys.length := by
          rw [Nat.div_lt_iff_lt_mul hs0]
          rw [← hnM.1]
          exact hq
        have hc := hnM.2 (q / d.sz) _ (List.getElem?_eq_getElem hql)
        refine d.K_one (d.K_of_M hc) _ ?_
        rw [List.mem_iff_getElem?]
        refine ⟨q % d.sz, ?_⟩
        rw [List.getElem?_take, if_pos (Nat.mod_lt _ hs0), List.getElem?_drop, Nat.mul_comm, Nat.div_add_mod, List.getElem?_eq_getElem hq]
      obtain ⟨v1, w1, hrun, h2, hg, _, hat⟩ := run_append_own_at (P := P) W base t ty e i0 z d.sz bytes ht hi hz0 hz1 hz2 hz hs0 v xs.length inner hown ad m c news (by rw [hnM.1, hm]) hnc hone (by simp only [maxLen]; omega) hl hbase
      have hat' : v1.ownBlock = v.ownBlock ∨ ∃ b, v1.ownBlock = some b ∧ W.heap.size ≤ b := by
        rcases hat with hat | hat
        · exact .inl hat
        · exact .inr ⟨_, hat, Nat.le_refl _⟩
      have hne : ∀ k, some k ≠ v.ownBlock → k < W.heap.size → some k ≠ v1.ownBlock := by
        intro k hk hlt
        rcases hat' with hat | ⟨b, hb, hle⟩
        · rw [hat]; exact hk
        · rw [hb]
          intro he
          injection he with he
          omega
      have step : ∀ {q : α} {c : List Value} {o : Nat → Prop}, d.M W base o q c → (∀ k, o k → ok k ∧ some k ≠ v.ownBlock) → d.M w1 base (fun k => ok k ∧ some k ≠ v1.ownBlock) q c := by
        intro q c o hq ho
        have h1 := d.M_move (w1 := w1) (fun k hk => hg.block k hk.2.2.1 (ho k hk.1).2) (d.M_bound hq)
        exact d.M_mono (fun k hk => ⟨(ho k hk.1).1, hne k (ho k hk.1).2 hk.2.2.1⟩) h1
      refine ⟨v1, w1, hrun, ⟨fun k hk => ?_, inner ++ news, by rw [List.length_append, hm]; exact h2, reps_append (hr.imp_ (fun _ _ hq => step hq (fun _ hk => hk))) (hnM.imp_ (fun _ _ hq => step hq hokp))⟩, hg, hat'⟩
      rcases hat' with hat | ⟨b, hb, hle⟩
      · exact hok k (hat ▸ hk)
      · rw [hb] at hk
        injection hk with hk
        exact hfresh k (by omega)
  exact hrun
end
theorem own_app_gives {α : Type} {d : Kd α} {P : Program} {o : Oper} {G : Env} {W : World} (base b : Nat) (s x : Operand) (t e : TypeId) (z : Value) (bytes : Nat)
    (ho : o.op = .call { callee := .builtin .append, args := #[s, x], argTypes := #[t, t] }) (ht : P.underlying t = some (.slice e)) (hinfo : (P.info? e).map (fun i => (i.zero, i.size, i.bytes)) = some (some z, d.sz, bytes)) (hz : z.cells.size = d.sz) (hs0 : 0 < d.sz) (hb0 : 0 < bytes)
    (hKM : ∀ x cs, d.K W x cs → d.M W base (fun _ => False) x cs)
    {xs ys : List α} {A A2 : Option Addr} {m c m2 c2 : Nat} (hs : sEv G s = .slice A m c) (hx : sEv G x = .slice A2 m2 c2) (hb : b ≤ W.heap.size) (HO : OwnK d e W base b A m c xs) (HR : d.C W A2 m2 ys) (hbase : base ≤ W.heap.size) (hl : (xs.length + m2) * bytes ≤ 140737488355328) :
    ∃ v w', (execOp (sEv G) o).run P W = .ok (.value v) w' ∧ (OwnKSpec d e base b (xs ++ ys)).s v w' ∧ W.grownBy w' (Value.slice A m c).ownBlock := by
  have run : ∀ v w', (Builtin.append_ #[t, t] o.type #[.slice A m c, .slice A2 m2 c2]).run P W = .ok v w' → (execOp (sEv G) o).run P W = .ok (.value v) w' := fun v w' h => by
    unfold execOp
    simp only [ho, resolve, invoke, builtin, Sem.run_bind, Sem.run_pure, Result.andThen_ok, List.map_toArray, List.map_cons, List.map_nil, hs, hx, h]
  obtain ⟨v1, w1, h1, h2, h3, _⟩ := run_append_kd d (Rr := d.K W) base o.type t e z bytes ht hinfo hz hs0 hb0 (.slice A m c) xs ys A2 m2 c2 (fun q => b ≤ q) (fun _ => False) HO HR hKM (fun _ h => h.elim) (fun q hq => Nat.le_trans hb hq) hbase hl
  obtain ⟨A', c', rfl, hc', _⟩ := Kd.R_reads h2
  exact ⟨_, w1, run _ _ h1, ⟨A', c', rfl, h2⟩, h3⟩
theorem own_lt {α : Type} {d : Kd α} {e : TypeId} {w : World} {base b : Nat} {A : Option Addr} {n c : Nat} {xs : List α} (h : OwnK d e w base b A n c xs) {q : Nat} (hq : (Value.slice A n c).ownBlock = some q) : b ≤ q ∧ q < w.heap.size := by
  refine ⟨h.blk_ge hq, ?_⟩
  obtain ⟨cells, ht⟩ := Kd.R_typed h q hq
  exact (Array.getElem?_eq_some_iff.1 ht).1
end Go.Proofs.Ytiiljpaedelhlaa.Flow
end
section
namespace Go.Proofs.Ytiiljpaedelhlaa.Flow
open Go.RowKit Go.Proofs.YtiiljpaedelhlaaW.PrintWords
set_option linter.unusedVariables false
theorem kept_grown {w w' : World} {r : Option Nat} (h : w.grownBy w' r) : Kept w w' (fun q => r = some q) := ⟨h.size, fun i hi hn => h.block i hi (fun e => hn e.symm)⟩
theorem stab_own {α : Type} {d : Kd α} {S : Nat → Prop} {e : TypeId} {base b : Nat} {xs : List α} (hS : ∀ q, b ≤ q → ¬ S q) : StabS S (OwnKSpec d e base b xs) := fun v w w' hk ⟨A, c, h1, h2⟩ =>
  ⟨A, c, h1, OwnK.step h2 (fun q hq hlt => hk.2 q hlt (hS q hq))⟩
theorem own_app_k {α : Type} {d : Kd α} {P : Program} {o : Oper} {G : Env} {w W : World} (base b : Nat) (s x : Operand) (t e : TypeId) (z : Value) (bytes : Nat)
    (ho : o.op = .call { callee := .builtin .append, args := #[s, x], argTypes := #[t, t] }) (ht : P.underlying t = some (.slice e)) (hinfo : (P.info? e).map (fun i => (i.zero, i.size, i.bytes)) = some (some z, d.sz, bytes)) (hz : z.cells.size = d.sz) (hs0 : 0 < d.sz) (hb0 : 0 < bytes)
    (hKM : ∀ x cs, d.K W x cs → d.M W base (fun _ => False) x cs)
    {xs ys : List α} {A A2 : Option Addr} {m c m2 c2 : Nat} (hs : sEv G s = .slice A m c) (hx : sEv G x = .slice A2 m2 c2) (hb : b ≤ W.heap.size) (hbb : base ≤ b) (h0 : Below base w W ∧ OwnK d e W base b A m c xs) (HR : d.C W A2 m2 ys) (hbase : base ≤ W.heap.size) (hl : (xs.length + m2) * bytes ≤ 140737488355328) :
    ∃ v w', (execOp (sEv G) o).run P W = .ok (.value v) w' ∧ (OwnKSpec d e base b (xs ++ ys)).s v w' ∧ Kept W w' (fun q => (Value.slice A m c).ownBlock = some q) ∧ Below base w w' := by
  obtain ⟨v, w', h1, h2, h3⟩ := own_app_gives (d := d) base b s x t e z bytes ho ht hinfo hz hs0 hb0 hKM hs hx hb h0.2 HR hbase hl
  exact ⟨v, w', h1, h2, kept_grown h3, h0.1.grown h3 hbase (fun q e_ => Nat.le_trans hbb (own_lt h0.2 e_).1)⟩
end Go.Proofs.Ytiiljpaedelhlaa.Flow
end
