/- The document's frames: the walks. -/
import Derived.Test.YtjndoihnpnmbjaaFrNone
import Derived.Test.YtjndoihnpnmbjaaFrOwn
import Derived.Test.YtjndoihnpnmbjaaFlowQ
namespace Go.Proofs.Ytjndoihnpnmbjaa.PFrameSums
open Go.RowKit Go.Proofs.YtjndoihnpnmbjaaW.PrintWords Go.Proofs.YtjndoihnpnmbjaaW.PrintLast Go.Proofs.YtjndoihnpnmbjaaW.PrintMore
open Go.Proofs.Ytjndoihnpnmbjaa.Flow
set_option linter.unusedVariables false
set_option linter.unusedSimpArgs false


theorem info22S : (Try.prog.info? 22).map (fun i => (i.zero, i.size, i.bytes)) = some (some (.slice none 0 0), 1, 24) := by kernel_rfl
set_option maxHeartbeats 4000000 in
theorem split_callsS (w : World) (A0 : Option Addr) (c0 : Nat) (b : List Int) (hC : (Kd.int .u8).C w A0 b.length b) (hc : b.length ≤ c0) (hb : Bytes b) (hl : b.length ≤ 1000000000) :
    Calls Try.prog 26 #[.slice A0 b.length c0] w fun e w' => ∃ (out : List (List Int)) (n : Nat) (A' : Option Addr) (c' : Nat), e = .returned (.tuple #[.slice A' out.length c', .int .i64 (n : Int)]) ∧ SplitR b out n ∧ Kd.S (Kd.slice 5 (Kd.int .u8)) 22 w' w.heap.size (fun q => w.heap.size ≤ q) (.slice A' out.length c') out ∧ Below w.heap.size w w' := by
  refine calls_flow Try.func26 rfl 31 rfl (Nat.le_of_ble_eq_true rfl) [(0, .slice A0 b.length c0)] ?_ ?_
  · intro t v h; exact args_look rfl t v h
  refine w_seq ?_
  refine w_region ?_
  refine rw_val (v := .slice none 0 0) (w' := w) rfl rfl rfl rfl rfl ?_
  refine rw_val (v := .int .i64 0) (w' := w) rfl rfl rfl rfl rfl ?_
  refine rw_end ?_
  refine w_seq ?_
  refine w_region ?_
  refine rw_val (v := .slice none 0 0) (w' := w) rfl rfl rfl rfl rfl ?_
  refine rw_end ?_
  refine w_seq ?_
  refine w_region ?_
  refine rw_val (v := .int .i64 0) (w' := w) rfl rfl rfl rfl rfl ?_
  refine rw_end ?_
  refine w_seq ?_
  refine w_seq ?_
  refine w_region ?_
  refine rw_val (v := .slice A0 b.length c0) (w' := w) rfl rfl rfl rfl rfl ?_
  refine rw_call rfl rfl rfl rfl (f := 37) (args := #[.slice A0 b.length c0]) (by simp [go_sem, sEv, sLook, nbeq, i64_w, -List.length_flatten]) (whole_calls w _ _ b (Kd.C_below hC (Below.refl _ _)) hc hb (by omega)) ?_
  rintro e_ w1 ⟨rfl, hb2⟩
  refine ⟨_, rfl, ?_⟩
  have hs_w1 := hb2.size
  refine rw_val (v := .int .i64 ((wholeP b : Nat) : Int)) (w' := w1) rfl rfl rfl rfl rfl ?_
  refine rw_end ?_
  refine w_block ?_
  refine w_loop (fun m_ G W_ => ∃ (at_ : Nat) (out : List (List Int)) (A4 : Option Addr) (c4 : Nat), at_ + m_ = b.length ∧ 8 * out.length ≤ at_ ∧ Below w.heap.size w W_ ∧ Kd.S (Kd.slice 5 (Kd.int .u8)) 22 W_ w.heap.size (fun q => w.heap.size ≤ q) (.slice A4 out.length c4) out ∧ (∀ l n, SplitR (b.drop at_) l n → SplitR b (out ++ l) (at_ + n)) ∧ G = [(0, .slice A0 b.length c0), (4, .slice A4 out.length c4), (5, .int .i64 (at_ : Int)), (6, .int .i64 ((wholeP (b.drop at_) : Nat) : Int))]) b.length [(0, .slice A0 b.length c0), (4, .slice none 0 0), (5, .int .i64 0), (6, .int .i64 ((wholeP b : Nat) : Int))] ⟨0, [], none, 0, by omega, by simp, hb2, Kd.S_nil _ _ _ _ _, fun l n h => by simpa using h, by simp⟩ ⟨rfl, rfl, rfl, rfl, trivial⟩ ?_
  rintro m_ G w_ ⟨at_, out, A4, c4, him, hout, hBw_, hR4, hS_, rfl⟩
  have hs_w_ := hBw_.size
  have hwl_ := wholeP_le (b.drop at_)
  rw [List.length_drop] at hwl_
  refine w_seq ?_
  refine w_seq ?_
  refine w_region ?_
  refine rw_val (v := .int .i64 ((wholeP (b.drop at_) : Nat) : Int)) (w' := w_) rfl rfl rfl rfl rfl ?_
  refine rw_val (v := .bool (decide (0 < ((wholeP (b.drop at_) : Nat) : Int)))) (w' := w_) rfl rfl rfl rfl (by simp [go_sem, sEv, sLook, nbeq, i64_w, -List.length_flatten]) ?_
  refine rw_end ?_
  refine w_cond rfl rfl (fun cL => ?_) (fun cL => ?_)
  · refine w_skip ?_
    refine w_seq ?_
    refine w_block ?_
    refine w_seq ?_
    refine w_region ?_
    refine rw_val (v := .slice A4 out.length c4) (w' := w_) rfl rfl rfl rfl rfl ?_
    refine rw_val (v := .slice A0 b.length c0) (w' := w_) rfl rfl rfl rfl rfl ?_
    have lp_ := of_decide_eq_true cL
    refine rw_val (v := .int .i64 (at_ : Int)) (w' := w_) rfl rfl rfl rfl rfl ?_
    refine rw_val (v := .int .i64 ((at_ + 8 : Nat) : Int)) (w' := w_) rfl rfl rfl rfl (by simp [go_sem, sEv, sLook, nbeq, i64_w, -List.length_flatten]; exact wrap_id (by omega) (by omega)) ?_
    refine rw_val (v := .int .i64 (at_ : Int)) (w' := w_) rfl rfl rfl rfl rfl ?_
    refine rw_val (v := .int .i64 ((wholeP (b.drop at_) : Nat) : Int)) (w' := w_) rfl rfl rfl rfl rfl ?_
    refine rw_val (v := .int .i64 ((at_ + wholeP (b.drop at_) : Nat) : Int)) (w' := w_) rfl rfl rfl rfl (by simp [go_sem, sEv, sLook, nbeq, i64_w, -List.length_flatten]; exact wrap_id (by omega) (by omega)) ?_
    have hP3 := (mid_C hC (at_ + 8) (at_ + wholeP (b.drop at_)) (by omega) (by omega) (show b.length ≤ c0 by have q_ := hc; have q2_ : b.length = b.length := rfl; omega))
    have hc4 : ((b.take (at_ + wholeP (b.drop at_))).drop (at_ + 8)).length ≤ (c0 - (at_ + 8)) := by have q_ := hc; have q2_ : b.length = b.length := rfl; simp only [List.length_take, List.length_drop]; omega
    refine rw_val (v := .slice (adr A0 c0 (at_ + 8)) (((b.take (at_ + wholeP (b.drop at_))).drop (at_ + 8)).length) (c0 - (at_ + 8))) (w' := w_) rfl rfl rfl rfl (run_as (run_mid (e := 5) (by kernel_rfl) (fun _ => by kernel_rfl) (at_ + 8) (at_ + wholeP (b.drop at_)) _ _ (by first | rfl | (simp; done) | omega) (by first | rfl | (simp; done) | omega) rfl (by omega) (by omega) hc _)) ?_
    refine rw_call rfl rfl rfl rfl (f := 33) (args := #[.slice (adr A0 c0 (at_ + 8)) (((b.take (at_ + wholeP (b.drop at_))).drop (at_ + 8)).length) (c0 - (at_ + 8))]) (by simp [go_sem, sEv, sLook, nbeq, i64_w, -List.length_flatten]) (clone_calls w_ _ _ _ ((b.take (at_ + wholeP (b.drop at_))).drop (at_ + 8)) (Kd.C_below hP3 hBw_) (by simp only [List.length_take, List.length_drop]; omega)) ?_
    rintro e_ w8 ⟨A5, n6, c7, rfl, hO9, hB10⟩
    refine ⟨_, rfl, ?_⟩
    have hs_w8 := hB10.size
    have hL11 : Own .u8 5 w8 w.heap.size w_.heap.size A5 n6 c7 ((b.take (at_ + wholeP (b.drop at_))).drop (at_ + 8)) := Own.lower hO9 (by omega)
    refine rw_new (cs := #[.slice A5 n6 c7]) (t := 22) (fun g => .slice (some ⟨g, 0, none⟩) 1 1) rfl rfl rfl rfl (by kernel_rfl) ?_
    intro g12 w13 hg17 hz16 hb14 hk15
    have hs_w13 := hb14.size
    have hout_ : out.length ≤ at_ := by omega
    have hSb_ := Kd.S_below (Kd.S_mono (Kd.S_bound hR4) (fun q hq => (⟨hq.1, hq.2.2.1⟩ : w.heap.size ≤ q ∧ q < w_.heap.size))) (chain hB10 hb14)
    refine rw_append_oneS .u8 5 w.heap.size rfl rfl rfl (.tmp 15) (.tmp 24) rfl rfl 32 22 24 rfl (by kernel_rfl) info22S (by decide) rfl rfl hSb_ (fun q hq => hq.1) hk15 (hL11.on hb14) (fun q hq => ⟨by omega, fun h => by have := h.2; omega⟩) (chain (chain hBw_ hB10) hb14) (by omega) (by omega) ?_
    intro A18 c19 w20 hR21 hB22 hG23
    have hs_w20 := hB22.size
    have hgs_w20 := hG23.size
    refine rw_val (v := .slice A18 ((out ++ [((b.take (at_ + wholeP (b.drop at_))).drop (at_ + 8))]).length) c19) (w' := w20) rfl rfl rfl rfl rfl ?_
    refine rw_end ?_
    refine w_weaken (G' := [(0, .slice A0 b.length c0), (4, .slice A18 ((out ++ [((b.take (at_ + wholeP (b.drop at_))).drop (at_ + 8))]).length) c19), (5, .int .i64 (at_ : Int)), (6, .int .i64 ((wholeP (b.drop at_) : Nat) : Int))]) ⟨rfl, rfl, rfl, rfl, trivial⟩ ?_
    refine w_region ?_
    refine rw_val (v := .int .i64 (at_ : Int)) (w' := w20) rfl rfl rfl rfl rfl ?_
    refine rw_val (v := .int .i64 ((wholeP (b.drop at_) : Nat) : Int)) (w' := w20) rfl rfl rfl rfl rfl ?_
    refine rw_val (v := .int .i64 ((at_ + wholeP (b.drop at_) : Nat) : Int)) (w' := w20) rfl rfl rfl rfl (by simp [go_sem, sEv, sLook, nbeq, i64_w, -List.length_flatten]; exact wrap_id (by omega) (by omega)) ?_
    refine rw_val (v := .int .i64 ((at_ + wholeP (b.drop at_) : Nat) : Int)) (w' := w20) rfl rfl rfl rfl rfl ?_
    refine rw_end ?_
    refine w_weaken (G' := [(0, .slice A0 b.length c0), (4, .slice A18 ((out ++ [((b.take (at_ + wholeP (b.drop at_))).drop (at_ + 8))]).length) c19), (5, .int .i64 ((at_ + wholeP (b.drop at_) : Nat) : Int)), (6, .int .i64 ((wholeP (b.drop at_) : Nat) : Int))]) ⟨rfl, rfl, rfl, rfl, trivial⟩ ?_
    refine w_blk ?_
    refine w_region ?_
    refine rw_val (v := .slice A0 b.length c0) (w' := w20) rfl rfl rfl rfl rfl ?_
    refine rw_val (v := .int .i64 ((at_ + wholeP (b.drop at_) : Nat) : Int)) (w' := w20) rfl rfl rfl rfl rfl ?_
    have hP24 := (from_C hC (at_ + wholeP (b.drop at_)) (by omega) (show b.length ≤ c0 by have q_ := hc; have q2_ : b.length = b.length := rfl; omega))
    have hc25 : (b.drop (at_ + wholeP (b.drop at_))).length ≤ (c0 - (at_ + wholeP (b.drop at_))) := by have q_ := hc; have q2_ : b.length = b.length := rfl; simp only [List.length_take, List.length_drop]; omega
    refine rw_val (v := .slice (adr A0 c0 (at_ + wholeP (b.drop at_))) ((b.drop (at_ + wholeP (b.drop at_))).length) (c0 - (at_ + wholeP (b.drop at_)))) (w' := w20) rfl rfl rfl rfl (run_as (run_from (e := 5) (by kernel_rfl) (fun _ => by kernel_rfl) (at_ + wholeP (b.drop at_)) _ (by first | rfl | (simp; done) | omega) rfl (by omega) hc _)) ?_
    refine rw_call rfl rfl rfl rfl (f := 37) (args := #[.slice (adr A0 c0 (at_ + wholeP (b.drop at_))) ((b.drop (at_ + wholeP (b.drop at_))).length) (c0 - (at_ + wholeP (b.drop at_)))]) (by simp [go_sem, sEv, sLook, nbeq, i64_w, -List.length_flatten]) (whole_calls w20 _ _ (b.drop (at_ + wholeP (b.drop at_))) (Kd.C_below hP24 hB22) hc25 (hb.drop _) (by simp only [List.length_drop]; omega)) ?_
    rintro e_ w26 ⟨rfl, hb27⟩
    refine ⟨_, rfl, ?_⟩
    have hs_w26 := hb27.size
    refine rw_val (v := .int .i64 ((wholeP (b.drop (at_ + wholeP (b.drop at_))) : Nat) : Int)) (w' := w26) rfl rfl rfl rfl rfl ?_
    refine rw_end ?_
    refine w_weaken (G' := [(0, .slice A0 b.length c0), (4, .slice A18 ((out ++ [((b.take (at_ + wholeP (b.drop at_))).drop (at_ + 8))]).length) c19), (5, .int .i64 ((at_ + wholeP (b.drop at_) : Nat) : Int)), (6, .int .i64 ((wholeP (b.drop (at_ + wholeP (b.drop at_))) : Nat) : Int))]) ⟨rfl, rfl, rfl, rfl, trivial⟩ ?_
    have e1_ : (b.drop at_).drop (wholeP (b.drop at_)) = b.drop (at_ + wholeP (b.drop at_)) := by rw [List.drop_drop]
    have e2_ : ((b.drop at_).take (wholeP (b.drop at_))).drop 8 = ((b.take (at_ + wholeP (b.drop at_))).drop (at_ + 8)) := by rw [List.drop_take, List.drop_take, List.drop_drop]; congr 1; omega
    exact w_back (m_ - wholeP (b.drop at_)) [(0, .slice A0 b.length c0), (4, .slice A18 (out ++ [((b.take (at_ + wholeP (b.drop at_))).drop (at_ + 8))]).length c19), (5, .int .i64 ((at_ + wholeP (b.drop at_) : Nat) : Int)), (6, .int .i64 ((wholeP (b.drop (at_ + wholeP (b.drop at_))) : Nat) : Int))] (by omega) ⟨rfl, rfl, rfl, rfl, trivial⟩ ⟨(at_ + wholeP (b.drop at_)), out ++ [((b.take (at_ + wholeP (b.drop at_))).drop (at_ + 8))], _, _, by omega, by simp only [List.length_append, List.length_singleton]; omega, (chain hB22 hb27), (Kd.S_below hR21 hb27), fun l n h => by have h2_ := hS_ _ _ (SplitR.some _ l n (by omega) (by rw [e1_]; exact h)); rw [e2_] at h2_; simpa [Nat.add_assoc] using h2_, rfl⟩
  · refine w_exit rfl ?_
    refine w_seq ?_
    refine w_region ?_
    refine rw_val (v := .slice A4 out.length c4) (w' := w_) rfl rfl rfl rfl rfl ?_
    refine rw_val (v := .int .i64 (at_ : Int)) (w' := w_) rfl rfl rfl rfl rfl ?_
    refine rw_val (v := .slice A4 out.length c4) (w' := w_) rfl rfl rfl rfl rfl ?_
    refine rw_val (v := .int .i64 (at_ : Int)) (w' := w_) rfl rfl rfl rfl rfl ?_
    refine rw_end ?_
    refine w_weaken (G' := [(2, .slice A4 out.length c4), (3, .int .i64 (at_ : Int))]) ⟨rfl, rfl, trivial⟩ ?_
    have lp_ := of_decide_eq_false cL
    refine w_ret (post_ret2 rfl rfl rfl ?_)
    exact ⟨_, _, _, _, rfl, by simpa using hS_ _ _ (SplitR.none _ (by omega)), Kd.S_below hR4 (Below.refl _ _), hBw_⟩

def UN (b : List Int) : List Int := if wholeP b = 0 then [] else (b.take (wholeP b)).drop 8
theorem own_C_spec2 {k : IntKind} {e W lo : Nat} {xs : List Int} {A : Option Addr} {n c : Nat} {w : World} (h : Own k e w W lo A n c xs) : (Kd.int k).C w A n xs := by rw [h.len]; exact h.C
theorem refwrap_calls (w : World) (A0 : Option Addr) (c0 : Nat) (b : List Int) (hC : (Kd.int .u8).C w A0 b.length b) (hc : b.length ≤ c0) (hb : Bytes b) (hl : b.length ≤ 1000000) : Calls Try.prog 22 #[.slice A0 b.length c0] w fun e w' => ∃ A' n' c', e = .returned (.tuple #[.slice A' n' c', .int .i64 (errN b)]) ∧ Own .u8 5 w' w.heap.size w.heap.size A' n' c' (frameB b) ∧ Below w.heap.size w w' := by
  refine (estuaryref04_Wrap.calls (10 * b.length + 1) A0 c0 b _ _ w hC hc (refwrap_f b hb hl _ (Nat.le_refl _))).mono ?_
  rintro e w' ⟨v0, rfl, hR, hB⟩
  obtain ⟨A', c', rfl, hle, hR2⟩ := R_shape hR
  exact ⟨A', _, c', rfl, Own.born hR2 (Nat.le_refl _), hB⟩
theorem errN_of (b : List Int) (n : Nat) (h : b.length = n) : errN b = if 16376 < n then 7 else 0 := by unfold errN; rw [h]
theorem whole_not (b : List Int) (n : Nat) (hn : valN (b.take 4) = n) (h : b.length < 8 + n ∨ 16376 < n) : wholeP b = 0 := by
  unfold wholeP
  rw [hn]
  split
  · rfl
  · split
    · rfl
    · split
      · rfl
      · omega
set_option maxHeartbeats 4000000 in
theorem refunwrap_calls (w : World) (A0 : Option Addr) (c0 : Nat) (b : List Int) (hC : (Kd.int .u8).C w A0 b.length b) (hc : b.length ≤ c0) (hb : Bytes b) (hl : b.length ≤ 1000000) :
    Calls Try.prog 25 #[.slice A0 b.length c0] w fun e w' => ∃ A' n' c', e = .returned (.tuple #[.slice A' n' c', .int .i64 ((wholeP b : Nat) : Int)]) ∧ Own .u8 5 w' w.heap.size w.heap.size A' n' c' (UN b) ∧ Below w.heap.size w w' := by
  refine calls_flow Try.func25 rfl 65 rfl (Nat.le_of_ble_eq_true rfl) [(0, .slice A0 b.length c0)] ?_ ?_
  · intro t v h; exact args_look rfl t v h
  refine w_seq ?_
  refine w_region ?_
  refine rw_val (v := .slice none 0 0) (w' := w) rfl rfl rfl rfl rfl ?_
  refine rw_val (v := .int .i64 0) (w' := w) rfl rfl rfl rfl rfl ?_
  refine rw_end ?_
  refine w_seq ?_
  refine w_seq ?_
  refine w_region ?_
  refine rw_val (v := .slice A0 b.length c0) (w' := w) rfl rfl rfl rfl rfl ?_
  refine rw_val (v := .int .i64 (b.length : Int)) (w' := w) rfl rfl rfl rfl (by simp [go_sem, sEv, sLook, nbeq, i64_w, -List.length_flatten]) ?_
  refine rw_val (v := .bool (decide ((b.length : Int) < 8))) (w' := w) rfl rfl rfl rfl (by simp [go_sem, sEv, sLook, nbeq, i64_w, -List.length_flatten]) ?_
  refine rw_end ?_
  refine w_cond rfl rfl (fun c8 => ?_) (fun c8 => ?_)
  · refine w_seq ?_
    refine w_region ?_
    refine rw_val (v := .slice none 0 0) (w' := w) rfl rfl rfl rfl rfl ?_
    refine rw_val (v := .int .i64 0) (w' := w) rfl rfl rfl rfl rfl ?_
    refine rw_end ?_
    refine w_ret (post_ret2 rfl rfl rfl ?_)
    have e_ : wholeP b = 0 := by unfold wholeP; rw [if_pos (by have c8_ := of_decide_eq_true c8; omega)]
    have e3_ : UN b = [] := by unfold UN; rw [e_, if_pos rfl]
    rw [e_, e3_]
    exact ⟨_, _, _, rfl, Own.nil _ _ _ _ _, (Below.refl _ _)⟩
  · refine w_skip ?_
    refine w_seq ?_
    have c8_ := of_decide_eq_false c8
    obtain ⟨ad0_, hA0_, hcell0_⟩ := Kd.at_int hC 0 (by omega) (by omega)
    obtain ⟨ad1_, hA1_, hcell1_⟩ := Kd.at_int hC 1 (by omega) (by omega)
    obtain ⟨ad2_, hA2_, hcell2_⟩ := Kd.at_int hC 2 (by omega) (by omega)
    obtain ⟨ad3_, hA3_, hcell3_⟩ := Kd.at_int hC 3 (by omega) (by omega)
    subst hA0_
    obtain rfl := Option.some.inj hA1_
    obtain rfl := Option.some.inj hA2_
    obtain rfl := Option.some.inj hA3_
    rw [show (0 : Int).toNat = 0 from rfl, Flow.add_zero] at hcell0_
    rw [show (1 : Int).toNat = 1 from rfl] at hcell1_
    rw [show (2 : Int).toNat = 2 from rfl] at hcell2_
    rw [show (3 : Int).toNat = 3 from rfl] at hcell3_
    have hr0_ := rd_range hb 0 (by omega)
    have hr1_ := rd_range hb 1 (by omega)
    have hr2_ := rd_range hb 2 (by omega)
    have hr3_ := rd_range hb 3 (by omega)
    obtain ⟨o1_, ho1_⟩ : ∃ o : Nat, o = 1 := ⟨_, rfl⟩
    rw [← ho1_] at hcell1_
    obtain ⟨o2_, ho2_⟩ : ∃ o : Nat, o = 2 := ⟨_, rfl⟩
    rw [← ho2_] at hcell2_
    obtain ⟨o3_, ho3_⟩ : ∃ o : Nat, o = 3 := ⟨_, rfl⟩
    rw [← ho3_] at hcell3_
    rw [show ((0 : Nat) : Int) = 0 from rfl] at hr0_
    rw [show ((1 : Nat) : Int) = 1 from rfl] at hr1_
    rw [show ((2 : Nat) : Int) = 2 from rfl] at hr2_
    rw [show ((3 : Nat) : Int) = 3 from rfl] at hr3_
    have hv4_ := val4 b hb (by omega)
    obtain ⟨n, hn⟩ : ∃ n, valN (b.take 4) = n := ⟨_, rfl⟩
    rw [hn] at hv4_
    have hnw_ := whole_not b n hn
    have hfw_ := fin_whole b hb n hn
    have hlX_ : 8 + n ≤ b.length → ((b.take (8 + n)).drop 8).length = n := fun h_ => by rw [List.length_drop, List.length_take]; omega
    refine w_draw (M := [0, 1, 3, 7, 0, 16, 48, 112, 240, 511, 0, 1024, 3072, 7168, 15360, 32767, 0, 65536, 196608, 458752, 983040, 2097151, 4194303]) (ss := [Is (.slice (some ad0_) b.length c0), Is (.pointer (some ad0_)), Is (.int .u8 (rd b 0)), Is (.int .i64 (rd b 0)), Is (.slice (some ad0_) b.length c0), Is (.pointer (some (ad0_.add o1_))), Is (.int .u8 (rd b 1)), Is (.int .i64 (rd b 1)), Is (.int .i64 (256 * (rd b 1))), Is (.int .i64 ((rd b 0) + 256 * (rd b 1))), Is (.slice (some ad0_) b.length c0), Is (.pointer (some (ad0_.add o2_))), Is (.int .u8 (rd b 2)), Is (.int .i64 (rd b 2)), Is (.int .i64 (65536 * (rd b 2))), Is (.int .i64 ((rd b 0) + 256 * (rd b 1) + 65536 * (rd b 2))), Is (.slice (some ad0_) b.length c0), Is (.pointer (some (ad0_.add o3_))), Is (.int .u8 (rd b 3)), Is (.int .i64 (rd b 3)), Is (.int .i64 (16777216 * (rd b 3))), Is (.int .i64 ((n : Nat) : Int)), Is (.int .i64 ((n : Nat) : Int))]) rfl (by decide +kernel) ?_
    refine t_is (.slice (some ad0_) b.length c0) rfl rfl rfl rfl (fun W_ hW_ F_ => rfl) ?_
    refine t_is (.pointer (some ad0_)) rfl rfl rfl rfl (fun W_ hW_ F_ => (by have hne_ : b ≠ [] := (fun h_ => by rw [h_] at c8_; simp at c8_); first | (simp [go_sem, sEv, sLook, nbeq, i64_w, -List.length_flatten, Try.underlying22, Flow.add_zero, hne_]; done) | (simp [go_sem, sEv, sLook, nbeq, i64_w, -List.length_flatten, Try.underlying22, Flow.add_zero]; omega))) ?_
    refine t_is (.int .u8 (rd b 0)) rfl rfl rfl rfl (fun W_ hW_ F_ => (by have e_ := cellOn hcell0_ (chain (Below.refl _ _) (below_of_drew hW_)); simp [go_sem, sEv, sLook, nbeq, i64_w, -List.length_flatten, e_])) ?_
    refine t_is (.int .i64 (rd b 0)) rfl rfl rfl rfl (fun W_ hW_ F_ => (by simp [go_sem, sEv, sLook, nbeq, i64_w, -List.length_flatten]; exact wrap_id (by omega) (by omega))) ?_
    refine t_is (.slice (some ad0_) b.length c0) rfl rfl rfl rfl (fun W_ hW_ F_ => rfl) ?_
    refine t_is (.pointer (some (ad0_.add o1_))) rfl rfl rfl rfl (fun W_ hW_ F_ => (by rw [ho1_]; have hne_ : b ≠ [] := (fun h_ => by rw [h_] at c8_; simp at c8_); first | (simp [go_sem, sEv, sLook, nbeq, i64_w, -List.length_flatten, Try.underlying22, Flow.add_zero, hne_]; done) | (simp [go_sem, sEv, sLook, nbeq, i64_w, -List.length_flatten, Try.underlying22, Flow.add_zero]; omega))) ?_
    refine t_is (.int .u8 (rd b 1)) rfl rfl rfl rfl (fun W_ hW_ F_ => (by have e_ := cellOn hcell1_ (chain (Below.refl _ _) (below_of_drew hW_)); simp [go_sem, sEv, sLook, nbeq, i64_w, -List.length_flatten, e_])) ?_
    refine t_is (.int .i64 (rd b 1)) rfl rfl rfl rfl (fun W_ hW_ F_ => (by simp [go_sem, sEv, sLook, nbeq, i64_w, -List.length_flatten]; exact wrap_id (by omega) (by omega))) ?_
    refine t_is (.int .i64 (256 * (rd b 1))) rfl rfl rfl rfl (fun W_ hW_ F_ => by simp [go_sem, sEv, sLook, nbeq, i64_w, -List.length_flatten]; exact wrap_id (by omega) (by omega)) ?_
    refine t_is (.int .i64 ((rd b 0) + 256 * (rd b 1))) rfl rfl rfl rfl (fun W_ hW_ F_ => by simp [go_sem, sEv, sLook, nbeq, i64_w, -List.length_flatten]; exact wrap_id (by omega) (by omega)) ?_
    refine t_is (.slice (some ad0_) b.length c0) rfl rfl rfl rfl (fun W_ hW_ F_ => rfl) ?_
    refine t_is (.pointer (some (ad0_.add o2_))) rfl rfl rfl rfl (fun W_ hW_ F_ => (by rw [ho2_]; have hne_ : b ≠ [] := (fun h_ => by rw [h_] at c8_; simp at c8_); first | (simp [go_sem, sEv, sLook, nbeq, i64_w, -List.length_flatten, Try.underlying22, Flow.add_zero, hne_]; done) | (simp [go_sem, sEv, sLook, nbeq, i64_w, -List.length_flatten, Try.underlying22, Flow.add_zero]; omega))) ?_
    refine t_is (.int .u8 (rd b 2)) rfl rfl rfl rfl (fun W_ hW_ F_ => (by have e_ := cellOn hcell2_ (chain (Below.refl _ _) (below_of_drew hW_)); simp [go_sem, sEv, sLook, nbeq, i64_w, -List.length_flatten, e_])) ?_
    refine t_is (.int .i64 (rd b 2)) rfl rfl rfl rfl (fun W_ hW_ F_ => (by simp [go_sem, sEv, sLook, nbeq, i64_w, -List.length_flatten]; exact wrap_id (by omega) (by omega))) ?_
    refine t_is (.int .i64 (65536 * (rd b 2))) rfl rfl rfl rfl (fun W_ hW_ F_ => by simp [go_sem, sEv, sLook, nbeq, i64_w, -List.length_flatten]; exact wrap_id (by omega) (by omega)) ?_
    refine t_is (.int .i64 ((rd b 0) + 256 * (rd b 1) + 65536 * (rd b 2))) rfl rfl rfl rfl (fun W_ hW_ F_ => by simp [go_sem, sEv, sLook, nbeq, i64_w, -List.length_flatten]; exact wrap_id (by omega) (by omega)) ?_
    refine t_is (.slice (some ad0_) b.length c0) rfl rfl rfl rfl (fun W_ hW_ F_ => rfl) ?_
    refine t_is (.pointer (some (ad0_.add o3_))) rfl rfl rfl rfl (fun W_ hW_ F_ => (by rw [ho3_]; have hne_ : b ≠ [] := (fun h_ => by rw [h_] at c8_; simp at c8_); first | (simp [go_sem, sEv, sLook, nbeq, i64_w, -List.length_flatten, Try.underlying22, Flow.add_zero, hne_]; done) | (simp [go_sem, sEv, sLook, nbeq, i64_w, -List.length_flatten, Try.underlying22, Flow.add_zero]; omega))) ?_
    refine t_is (.int .u8 (rd b 3)) rfl rfl rfl rfl (fun W_ hW_ F_ => (by have e_ := cellOn hcell3_ (chain (Below.refl _ _) (below_of_drew hW_)); simp [go_sem, sEv, sLook, nbeq, i64_w, -List.length_flatten, e_])) ?_
    refine t_is (.int .i64 (rd b 3)) rfl rfl rfl rfl (fun W_ hW_ F_ => (by simp [go_sem, sEv, sLook, nbeq, i64_w, -List.length_flatten]; exact wrap_id (by omega) (by omega))) ?_
    refine t_is (.int .i64 (16777216 * (rd b 3))) rfl rfl rfl rfl (fun W_ hW_ F_ => by simp [go_sem, sEv, sLook, nbeq, i64_w, -List.length_flatten]; exact wrap_id (by omega) (by omega)) ?_
    refine t_is (.int .i64 ((n : Nat) : Int)) rfl rfl rfl rfl (fun W_ hW_ F_ => by simp [go_sem, sEv, sLook, nbeq, i64_w, -List.length_flatten]; rw [wrap_id (by omega) (by omega)]; omega) ?_
    refine t_is (.int .i64 ((n : Nat) : Int)) rfl rfl rfl rfl (fun W_ hW_ F_ => rfl) ?_
    refine t_end ?_
    intro w1 hb2_ F3
    have hb2 := below_of_drew hb2_
    have hs_w1 := hb2.size
    refine w_weaken (G' := [(0, .slice (some ad0_) b.length c0), (2, .slice none 0 0), (3, .int .i64 0), (4, .int .i64 ((n : Nat) : Int))]) ⟨rfl, rfl, rfl, rfl, trivial⟩ ?_
    refine w_seq ?_
    refine w_seq ?_
    refine w_region ?_
    refine rw_val (v := .int .i64 ((n : Nat) : Int)) (w' := w1) rfl rfl rfl rfl rfl ?_
    refine rw_val (v := .slice (some ad0_) b.length c0) (w' := w1) rfl rfl rfl rfl rfl ?_
    refine rw_val (v := .int .i64 (b.length : Int)) (w' := w1) rfl rfl rfl rfl (by simp [go_sem, sEv, sLook, nbeq, i64_w, -List.length_flatten]) ?_
    refine rw_val (v := .int .i64 ((b.length : Int) - 8)) (w' := w1) rfl rfl rfl rfl (by simp [go_sem, sEv, sLook, nbeq, i64_w, -List.length_flatten]; exact wrap_id (by omega) (by omega)) ?_
    refine rw_val (v := .bool (decide (((b.length : Int) - 8) < ((n : Nat) : Int)))) (w' := w1) rfl rfl rfl rfl (by simp [go_sem, sEv, sLook, nbeq, i64_w, -List.length_flatten]) ?_
    refine rw_end ?_
    refine w_weaken (G' := [(0, .slice (some ad0_) b.length c0), (2, .slice none 0 0), (3, .int .i64 0), (4, .int .i64 ((n : Nat) : Int)), (36, .bool (decide (((b.length : Int) - 8) < ((n : Nat) : Int))))]) ⟨rfl, rfl, rfl, rfl, rfl, trivial⟩ ?_
    refine w_cond rfl rfl (fun cN => ?_) (fun cN => ?_)
    · refine w_seq ?_
      refine w_region ?_
      refine rw_val (v := .slice none 0 0) (w' := w1) rfl rfl rfl rfl rfl ?_
      refine rw_val (v := .int .i64 0) (w' := w1) rfl rfl rfl rfl rfl ?_
      refine rw_end ?_
      refine w_ret (post_ret2 rfl rfl rfl ?_)
      have e_ : wholeP b = 0 := hnw_ (.inl (by have c_ := of_decide_eq_true cN; omega))
      have e3_ : UN b = [] := by unfold UN; rw [e_, if_pos rfl]
      rw [e_, e3_]
      exact ⟨_, _, _, rfl, Own.nil _ _ _ _ _, hb2⟩
    · refine w_skip ?_
      refine w_seq ?_
      refine w_region ?_
      refine rw_val (v := .slice (some ad0_) b.length c0) (w' := w1) rfl rfl rfl rfl rfl ?_
      have cn_ := of_decide_eq_false cN
      have h8_ : 8 + n ≤ b.length := by omega
      have hlX2_ := hlX_ h8_
      refine rw_val (v := .int .i64 ((n : Nat) : Int)) (w' := w1) rfl rfl rfl rfl rfl ?_
      refine rw_val (v := .int .i64 ((8 + n : Nat) : Int)) (w' := w1) rfl rfl rfl rfl (by simp [go_sem, sEv, sLook, nbeq, i64_w, -List.length_flatten]; exact wrap_id (by omega) (by omega)) ?_
      have hP4 := (mid_C hC 8 (8 + n) (by omega) (by omega) (show b.length ≤ c0 by have q_ := hc; have q2_ : b.length = b.length := rfl; omega))
      have hc5 : ((b.take (8 + n)).drop 8).length ≤ (c0 - 8) := by have q_ := hc; have q2_ : b.length = b.length := rfl; simp only [List.length_take, List.length_drop]; omega
      refine rw_val (v := .slice (adr (some ad0_) c0 8) (((b.take (8 + n)).drop 8).length) (c0 - 8)) (w' := w1) rfl rfl rfl rfl (run_as (run_mid (e := 5) (by kernel_rfl) (fun _ => by kernel_rfl) 8 (8 + n) _ _ (by first | rfl | (simp; done) | omega) (by first | rfl | (simp; done) | omega) rfl (by omega) (by omega) hc _)) ?_
      refine rw_call rfl rfl rfl rfl (f := 22) (args := #[.slice (adr (some ad0_) c0 8) (((b.take (8 + n)).drop 8).length) (c0 - 8)]) (by simp [go_sem, sEv, sLook, nbeq, i64_w, -List.length_flatten]) (refwrap_calls w1 _ _ ((b.take (8 + n)).drop 8) (Kd.C_below hP4 hb2) hc5 ((hb.take _).drop _) (by omega)) ?_
      rintro e_ w9 ⟨A6, n7, c8, rfl, hO10, hB11⟩
      refine ⟨_, rfl, ?_⟩
      have hs_w9 := hB11.size
      have hL12 : Own .u8 5 w9 w.heap.size w1.heap.size A6 n7 c8 (frameB ((b.take (8 + n)).drop 8)) := Own.lower hO10 (by omega)
      refine rw_val (v := .tuple #[.slice A6 n7 c8, .int .i64 (errN ((b.take (8 + n)).drop 8))]) (w' := w9) rfl rfl rfl rfl rfl ?_
      refine rw_val (v := .slice A6 n7 c8) (w' := w9) rfl rfl rfl rfl (by simp [go_sem, sEv, sLook, nbeq, i64_w, -List.length_flatten]) ?_
      refine rw_val (v := .int .i64 (errN ((b.take (8 + n)).drop 8))) (w' := w9) rfl rfl rfl rfl (by simp [go_sem, sEv, sLook, nbeq, i64_w, -List.length_flatten]) ?_
      refine rw_val (v := .slice A6 n7 c8) (w' := w9) rfl rfl rfl rfl rfl ?_
      refine rw_val (v := .int .i64 (errN ((b.take (8 + n)).drop 8))) (w' := w9) rfl rfl rfl rfl rfl ?_
      refine rw_end ?_
      refine w_weaken (G' := [(0, .slice (some ad0_) b.length c0), (2, .slice none 0 0), (3, .int .i64 0), (4, .int .i64 ((n : Nat) : Int)), (5, .slice A6 n7 c8), (6, .int .i64 (errN ((b.take (8 + n)).drop 8)))]) ⟨rfl, rfl, rfl, rfl, rfl, rfl, trivial⟩ ?_
      refine w_seq ?_
      refine w_seq ?_
      rcases bcase (decide (16376 < n)) with cE | cE
      · refine w_draw (M := [0, 1, 3, 7, 15, 7, 7, 71, 231, 487, 1023, 2047]) (ss := [Is (.int .i64 (errN ((b.take (8 + n)).drop 8))), Is (.bool (decide (16376 < n))), Is (.bool (decide (16376 < n))), Is (.slice A6 n7 c8), Is (.string (strOfNums (frameB ((b.take (8 + n)).drop 8)))), Is (.slice (some ad0_) b.length c0), Is (.int .i64 ((n : Nat) : Int)), Is (.int .i64 ((8 + n : Nat) : Int)), Is (.slice (some ad0_) ((b.take (8 + n)).length) c0), Is (.string (strOfNums (b.take (8 + n)))), Is (.bool (!decide (strOfNums (frameB ((b.take (8 + n)).drop 8)) = strOfNums (b.take (8 + n))))), Is (.bool (!decide (strOfNums (frameB ((b.take (8 + n)).drop 8)) = strOfNums (b.take (8 + n)))))]) rfl (by decide +kernel) ?_
        refine t_is (.int .i64 (errN ((b.take (8 + n)).drop 8))) rfl rfl rfl rfl (fun W_ hW_ F_ => rfl) ?_
        refine t_is (.bool (decide (16376 < n))) rfl rfl rfl rfl (fun W_ hW_ F_ => (by have e_ := errN_of ((b.take (8 + n)).drop 8) n hlX2_; by_cases h_ : 16376 < n <;> simp [go_sem, sEv, sLook, nbeq, i64_w, -List.length_flatten, e_, h_])) ?_
        refine t_is (.bool (decide (16376 < n))) rfl rfl rfl rfl (fun W_ hW_ F_ => rfl) ?_
        refine t_gis (c := decide (16376 < n)) (.slice A6 n7 c8) rfl rfl rfl (by first | (rw [cE]; rfl) | simp [cE]) rfl rfl rfl (fun W_ hW_ F_ => rfl) ?_
        refine t_gis (c := decide (16376 < n)) (.string (strOfNums (frameB ((b.take (8 + n)).drop 8)))) rfl rfl rfl (by first | (rw [cE]; rfl) | simp [cE]) rfl rfl rfl (fun W_ hW_ F_ => run_as (run_str_of (P := Try.prog) (e := 5) (by kernel_rfl) (by kernel_rfl) (by kernel_rfl) (show (Kd.int .u8).C W_ A6 n7 _ by rw [hL12.len]; exact (Kd.C_below (Own.C hL12) (chain (Below.refl _ _) (below_of_drew hW_)))))) ?_
        refine t_gis (c := decide (16376 < n)) (.slice (some ad0_) b.length c0) rfl rfl rfl (by first | (rw [cE]; rfl) | simp [cE]) rfl rfl rfl (fun W_ hW_ F_ => rfl) ?_
        refine t_gis (c := decide (16376 < n)) (.int .i64 ((n : Nat) : Int)) rfl rfl rfl (by first | (rw [cE]; rfl) | simp [cE]) rfl rfl rfl (fun W_ hW_ F_ => rfl) ?_
        refine t_gis (c := decide (16376 < n)) (.int .i64 ((8 + n : Nat) : Int)) rfl rfl rfl (by first | (rw [cE]; rfl) | simp [cE]) rfl rfl rfl (fun W_ hW_ F_ => by simp [go_sem, sEv, sLook, nbeq, i64_w, -List.length_flatten]; exact wrap_id (by omega) (by omega)) ?_
        have hP13 := (to_C hC (8 + n) (by omega))
        have hc14 : (b.take (8 + n)).length ≤ c0 := by have q_ := hc; have q2_ : b.length = b.length := rfl; simp only [List.length_take, List.length_drop]; omega
        refine t_gis (c := decide (16376 < n)) (.slice (some ad0_) ((b.take (8 + n)).length) c0) rfl rfl rfl (by first | (rw [cE]; rfl) | simp [cE]) rfl rfl rfl (fun W_ hW_ F_ => (run_as (run_to (e := 5) (by kernel_rfl) (fun _ => by kernel_rfl) (8 + n) _ (by first | rfl | (simp; done) | omega) rfl (by omega) hc _))) ?_
        refine t_gis (c := decide (16376 < n)) (.string (strOfNums (b.take (8 + n)))) rfl rfl rfl (by first | (rw [cE]; rfl) | simp [cE]) rfl rfl rfl (fun W_ hW_ F_ => run_as (run_str_of (P := Try.prog) (e := 5) (by kernel_rfl) (by kernel_rfl) (by kernel_rfl) (Kd.C_below hP13 (chain (chain hb2 hB11) (below_of_drew hW_))))) ?_
        refine t_gis (c := decide (16376 < n)) (.bool (!decide (strOfNums (frameB ((b.take (8 + n)).drop 8)) = strOfNums (b.take (8 + n))))) rfl rfl rfl (by first | (rw [cE]; rfl) | simp [cE]) rfl rfl rfl (fun W_ hW_ F_ => (run_as (run_str_neq 9 _ _ _))) ?_
        refine t_is (.bool (!decide (strOfNums (frameB ((b.take (8 + n)).drop 8)) = strOfNums (b.take (8 + n))))) rfl rfl rfl rfl (fun W_ hW_ F_ => by first | (simp [go_sem, sEv, sLook, nbeq, i64_w, -List.length_flatten, cE]; done) | (simp [go_sem, sEv, sLook, nbeq, i64_w, -List.length_flatten] <;> omega) | (simp [go_sem, sEv, sLook, nbeq, i64_w, -List.length_flatten]; intro h_; exact absurd (by omega) h_) | (rw [cE]; simp [go_sem, sEv, sLook, nbeq, i64_w, -List.length_flatten]; done)) ?_
        refine t_end ?_
        intro w15 hb16_ F17
        have hb16 := below_of_drew hb16_
        have hs_w15 := hb16.size
        refine w_weaken (G' := [(0, .slice (some ad0_) b.length c0), (2, .slice none 0 0), (3, .int .i64 0), (4, .int .i64 ((n : Nat) : Int)), (56, .bool (!decide (strOfNums (frameB ((b.take (8 + n)).drop 8)) = strOfNums (b.take (8 + n)))))]) ⟨rfl, rfl, rfl, rfl, rfl, trivial⟩ ?_
        refine w_cond rfl rfl (fun cS => ?_) (fun cS => ?_)
        · refine w_seq ?_
          refine w_region ?_
          refine rw_val (v := .slice none 0 0) (w' := w15) rfl rfl rfl rfl rfl ?_
          refine rw_val (v := .int .i64 0) (w' := w15) rfl rfl rfl rfl rfl ?_
          refine rw_end ?_
          refine w_ret (post_ret2 rfl rfl rfl ?_)
          have e_ := hfw_ h8_ (by have c_ := of_decide_eq_false cE; omega)
          have cS_ : ¬ strOfNums (frameB ((b.take (8 + n)).drop 8)) = strOfNums (b.take (8 + n)) := by simpa using cS
          rw [if_neg (fun h => cS_ (by rw [h]))] at e_
          have e3_ : UN b = [] := by unfold UN; rw [e_, if_pos rfl]
          rw [e_, e3_]
          exact ⟨_, _, _, rfl, Own.nil _ _ _ _ _, (chain (chain hb2 hB11) hb16)⟩
        · refine w_skip ?_
          refine w_seq ?_
          refine w_region ?_
          refine rw_new (cs := #[]) (t := 5) (fun g => .slice (some ⟨g, 0, none⟩) 0 0) rfl rfl rfl rfl (by kernel_rfl) ?_
          intro g18 w19 hg23 hz22 hb20 hk21
          have hs_w19 := hb20.size
          have hO24 : Own .u8 5 w19 w.heap.size g18 (some ⟨g18, 0, none⟩) 0 0 [] := own_blk w.heap.size hk21 (by omega) rfl (by simp) (by omega) (Nums.nil _ _)
          refine rw_val (v := .slice (some ad0_) b.length c0) (w' := w19) rfl rfl rfl rfl rfl ?_
          refine rw_val (v := .int .i64 ((n : Nat) : Int)) (w' := w19) rfl rfl rfl rfl rfl ?_
          refine rw_val (v := .int .i64 ((8 + n : Nat) : Int)) (w' := w19) rfl rfl rfl rfl (by simp [go_sem, sEv, sLook, nbeq, i64_w, -List.length_flatten]; exact wrap_id (by omega) (by omega)) ?_
          have hP25 := (mid_C hC 8 (8 + n) (by omega) (by omega) (show b.length ≤ c0 by have q_ := hc; have q2_ : b.length = b.length := rfl; omega))
          have hc26 : ((b.take (8 + n)).drop 8).length ≤ (c0 - 8) := by have q_ := hc; have q2_ : b.length = b.length := rfl; simp only [List.length_take, List.length_drop]; omega
          refine rw_val (v := .slice (adr (some ad0_) c0 8) (((b.take (8 + n)).drop 8).length) (c0 - 8)) (w' := w19) rfl rfl rfl rfl (run_as (run_mid (e := 5) (by kernel_rfl) (fun _ => by kernel_rfl) 8 (8 + n) _ _ (by first | rfl | (simp; done) | omega) (by first | rfl | (simp; done) | omega) rfl (by omega) (by omega) hc _)) ?_
          refine rw_append_row .u8 w.heap.size rfl rfl rfl (.tmp 57) (.tmp 61) rfl rfl 22 5 1 rfl (by kernel_rfl) info5 (by decide) (b := g18) rfl rfl (by omega) (hO24.on (Below.refl _ _)) (Kd.C_below hP25 (chain (chain (chain hb2 hB11) hb16) hb20)) (chain (chain (chain hb2 hB11) hb16) hb20) (by omega) (by simp only [List.length_nil]; omega) ?_
          intro A27 n28 c29 w30 hn31 hO32 hB33 hG34
          have hs_w30 := hB33.size
          have hgs_w30 := hG34.size
          refine rw_val (v := .int .i64 ((n : Nat) : Int)) (w' := w30) rfl rfl rfl rfl rfl ?_
          refine rw_val (v := .int .i64 ((8 + n : Nat) : Int)) (w' := w30) rfl rfl rfl rfl (by simp [go_sem, sEv, sLook, nbeq, i64_w, -List.length_flatten]; exact wrap_id (by omega) (by omega)) ?_
          refine rw_val (v := .slice A27 n28 c29) (w' := w30) rfl rfl rfl rfl rfl ?_
          refine rw_val (v := .int .i64 ((8 + n : Nat) : Int)) (w' := w30) rfl rfl rfl rfl rfl ?_
          refine rw_end ?_
          refine w_weaken (G' := [(2, .slice A27 n28 c29), (3, .int .i64 ((8 + n : Nat) : Int))]) ⟨rfl, rfl, trivial⟩ ?_
          refine w_ret (post_ret2 rfl rfl rfl ?_)
          have e_ := hfw_ h8_ (by have c_ := of_decide_eq_false cE; omega)
          have cS_ : strOfNums (frameB ((b.take (8 + n)).drop 8)) = strOfNums (b.take (8 + n)) := by simpa using cS
          have e2_ := (str_iff (frameB_bytes _ ((hb.take _).drop _)) (hb.take _)).1 (by rw [cS_])
          rw [if_pos e2_] at e_
          have e3_ : UN b = [] ++ ((b.take (8 + n)).drop 8) := by unfold UN; rw [e_, if_neg (by omega)]; rfl
          rw [e_, e3_]
          exact ⟨_, _, _, rfl, Own.mono (hO32.on (Below.refl _ _)) (by omega), hB33⟩
      · refine w_draw (M := [0, 1, 3, 7, 15, 7, 7, 71, 231, 487, 1023, 2047]) (ss := [Is (.int .i64 (errN ((b.take (8 + n)).drop 8))), Is (.bool (decide (16376 < n))), Is (.bool (decide (16376 < n))), Is undef, Is undef, Is undef, Is undef, Is undef, Is undef, Is undef, Is undef, Is (.bool true)]) rfl (by decide +kernel) ?_
        refine t_is (.int .i64 (errN ((b.take (8 + n)).drop 8))) rfl rfl rfl rfl (fun W_ hW_ F_ => rfl) ?_
        refine t_is (.bool (decide (16376 < n))) rfl rfl rfl rfl (fun W_ hW_ F_ => (by have e_ := errN_of ((b.take (8 + n)).drop 8) n hlX2_; by_cases h_ : 16376 < n <;> simp [go_sem, sEv, sLook, nbeq, i64_w, -List.length_flatten, e_, h_])) ?_
        refine t_is (.bool (decide (16376 < n))) rfl rfl rfl rfl (fun W_ hW_ F_ => rfl) ?_
        refine t_off (c := decide (16376 < n)) rfl rfl rfl (by first | (rw [cE]; rfl) | simp [cE]) rfl rfl ?_
        refine t_off (c := decide (16376 < n)) rfl rfl rfl (by first | (rw [cE]; rfl) | simp [cE]) rfl rfl ?_
        refine t_off (c := decide (16376 < n)) rfl rfl rfl (by first | (rw [cE]; rfl) | simp [cE]) rfl rfl ?_
        refine t_off (c := decide (16376 < n)) rfl rfl rfl (by first | (rw [cE]; rfl) | simp [cE]) rfl rfl ?_
        refine t_off (c := decide (16376 < n)) rfl rfl rfl (by first | (rw [cE]; rfl) | simp [cE]) rfl rfl ?_
        refine t_off (c := decide (16376 < n)) rfl rfl rfl (by first | (rw [cE]; rfl) | simp [cE]) rfl rfl ?_
        refine t_off (c := decide (16376 < n)) rfl rfl rfl (by first | (rw [cE]; rfl) | simp [cE]) rfl rfl ?_
        refine t_off (c := decide (16376 < n)) rfl rfl rfl (by first | (rw [cE]; rfl) | simp [cE]) rfl rfl ?_
        refine t_is (.bool true) rfl rfl rfl rfl (fun W_ hW_ F_ => by first | (simp [go_sem, sEv, sLook, nbeq, i64_w, -List.length_flatten, cE]; done) | (simp [go_sem, sEv, sLook, nbeq, i64_w, -List.length_flatten] <;> omega) | (simp [go_sem, sEv, sLook, nbeq, i64_w, -List.length_flatten]; intro h_; exact absurd (by omega) h_) | (rw [cE]; simp [go_sem, sEv, sLook, nbeq, i64_w, -List.length_flatten]; done)) ?_
        refine t_end ?_
        intro w35 hb36_ F37
        have hb36 := below_of_drew hb36_
        have hs_w35 := hb36.size
        refine w_weaken (G' := [(0, .slice (some ad0_) b.length c0), (2, .slice none 0 0), (3, .int .i64 0), (4, .int .i64 ((n : Nat) : Int)), (56, .bool true)]) ⟨rfl, rfl, rfl, rfl, rfl, trivial⟩ ?_
        refine w_cond_t rfl rfl rfl ?_
        refine w_seq ?_
        refine w_region ?_
        refine rw_val (v := .slice none 0 0) (w' := w35) rfl rfl rfl rfl rfl ?_
        refine rw_val (v := .int .i64 0) (w' := w35) rfl rfl rfl rfl rfl ?_
        refine rw_end ?_
        refine w_ret (post_ret2 rfl rfl rfl ?_)
        have e_ : wholeP b = 0 := hnw_ (.inr (of_decide_eq_true cE))
        have e3_ : UN b = [] := by unfold UN; rw [e_, if_pos rfl]
        rw [e_, e3_]
        exact ⟨_, _, _, rfl, Own.nil _ _ _ _ _, (chain (chain hb2 hB11) hb36)⟩
set_option maxHeartbeats 4000000 in
theorem refsplit_calls (w : World) (A0 : Option Addr) (c0 : Nat) (b : List Int) (hC : (Kd.int .u8).C w A0 b.length b) (hc : b.length ≤ c0) (hb : Bytes b) (hl : b.length ≤ 1000000) :
    Calls Try.prog 27 #[.slice A0 b.length c0] w fun e w' => ∃ (out : List (List Int)) (n : Nat) (A' : Option Addr) (c' : Nat), e = .returned (.tuple #[.slice A' out.length c', .int .i64 (n : Int)]) ∧ SplitR b out n ∧ Kd.S (Kd.slice 5 (Kd.int .u8)) 22 w' w.heap.size (fun q => w.heap.size ≤ q) (.slice A' out.length c') out ∧ Below w.heap.size w w' := by
  refine calls_flow Try.func27 rfl 26 rfl (Nat.le_of_ble_eq_true rfl) [(0, .slice A0 b.length c0)] ?_ ?_
  · intro t v h; exact args_look rfl t v h
  refine w_seq ?_
  refine w_region ?_
  refine rw_val (v := .slice none 0 0) (w' := w) rfl rfl rfl rfl rfl ?_
  refine rw_val (v := .int .i64 0) (w' := w) rfl rfl rfl rfl rfl ?_
  refine rw_end ?_
  refine w_seq ?_
  refine w_region ?_
  refine rw_val (v := .slice none 0 0) (w' := w) rfl rfl rfl rfl rfl ?_
  refine rw_end ?_
  refine w_seq ?_
  refine w_region ?_
  refine rw_val (v := .int .i64 0) (w' := w) rfl rfl rfl rfl rfl ?_
  refine rw_end ?_
  refine w_block ?_
  refine w_loop (fun m_ G W_ => ∃ (at_ : Nat) (out : List (List Int)) (A4 : Option Addr) (c4 : Nat), at_ + m_ = b.length ∧ 8 * out.length ≤ at_ ∧ Below w.heap.size w W_ ∧ Kd.S (Kd.slice 5 (Kd.int .u8)) 22 W_ w.heap.size (fun q => w.heap.size ≤ q) (.slice A4 out.length c4) out ∧ (∀ l n, SplitR (b.drop at_) l n → SplitR b (out ++ l) (at_ + n)) ∧ G = [(0, .slice A0 b.length c0), (4, .slice A4 out.length c4), (5, .int .i64 (at_ : Int))]) b.length [(0, .slice A0 b.length c0), (4, .slice none 0 0), (5, .int .i64 0)] ⟨0, [], none, 0, by omega, by simp, (Below.refl _ _), Kd.S_nil _ _ _ _ _, fun l n h => by simpa using h, by simp⟩ ⟨rfl, rfl, rfl, trivial⟩ ?_
  rintro m_ G w_ ⟨at_, out, A4, c4, him, hout, hBw_, hR4, hS_, rfl⟩
  have hs_w_ := hBw_.size
  have hwl_ := wholeP_le (b.drop at_)
  rw [List.length_drop] at hwl_
  refine w_block ?_
  refine w_seq ?_
  refine w_region ?_
  refine rw_val (v := .slice A0 b.length c0) (w' := w_) rfl rfl rfl rfl rfl ?_
  refine rw_val (v := .int .i64 (at_ : Int)) (w' := w_) rfl rfl rfl rfl rfl ?_
  have hP1 := (from_C hC at_ (by omega) (show b.length ≤ c0 by have q_ := hc; have q2_ : b.length = b.length := rfl; omega))
  have hc2 : (b.drop at_).length ≤ (c0 - at_) := by have q_ := hc; have q2_ : b.length = b.length := rfl; simp only [List.length_take, List.length_drop]; omega
  refine rw_val (v := .slice (adr A0 c0 at_) ((b.drop at_).length) (c0 - at_)) (w' := w_) rfl rfl rfl rfl (run_as (run_from (e := 5) (by kernel_rfl) (fun _ => by kernel_rfl) at_ _ (by first | rfl | (simp; done) | omega) rfl (by omega) hc _)) ?_
  refine rw_call rfl rfl rfl rfl (f := 25) (args := #[.slice (adr A0 c0 at_) ((b.drop at_).length) (c0 - at_)]) (by simp [go_sem, sEv, sLook, nbeq, i64_w, -List.length_flatten]) (refunwrap_calls w_ _ _ (b.drop at_) (Kd.C_below hP1 hBw_) hc2 (hb.drop _) (by simp only [List.length_drop]; omega)) ?_
  rintro e_ w6 ⟨A3, n4, c5, rfl, hO7, hB8⟩
  refine ⟨_, rfl, ?_⟩
  have hs_w6 := hB8.size
  have hL9 : Own .u8 5 w6 w.heap.size w_.heap.size A3 n4 c5 (UN (b.drop at_)) := Own.lower hO7 (by omega)
  refine rw_val (v := .tuple #[.slice A3 n4 c5, .int .i64 ((wholeP (b.drop at_) : Nat) : Int)]) (w' := w6) rfl rfl rfl rfl rfl ?_
  refine rw_val (v := .slice A3 n4 c5) (w' := w6) rfl rfl rfl rfl (by simp [go_sem, sEv, sLook, nbeq, i64_w, -List.length_flatten]) ?_
  refine rw_val (v := .int .i64 ((wholeP (b.drop at_) : Nat) : Int)) (w' := w6) rfl rfl rfl rfl (by simp [go_sem, sEv, sLook, nbeq, i64_w, -List.length_flatten]) ?_
  refine rw_val (v := .slice A3 n4 c5) (w' := w6) rfl rfl rfl rfl rfl ?_
  refine rw_val (v := .int .i64 ((wholeP (b.drop at_) : Nat) : Int)) (w' := w6) rfl rfl rfl rfl rfl ?_
  refine rw_end ?_
  refine w_weaken (G' := [(0, .slice A0 b.length c0), (4, .slice A4 out.length c4), (5, .int .i64 (at_ : Int)), (6, .slice A3 n4 c5), (7, .int .i64 ((wholeP (b.drop at_) : Nat) : Int))]) ⟨rfl, rfl, rfl, rfl, rfl, trivial⟩ ?_
  refine w_seq ?_
  refine w_seq ?_
  refine w_region ?_
  refine rw_val (v := .int .i64 ((wholeP (b.drop at_) : Nat) : Int)) (w' := w6) rfl rfl rfl rfl rfl ?_
  refine rw_val (v := .bool (((wholeP (b.drop at_) : Nat) : Int) == 0)) (w' := w6) rfl rfl rfl rfl (by simp [go_sem, sEv, sLook, nbeq, i64_w, -List.length_flatten]) ?_
  refine rw_end ?_
  refine w_cond rfl rfl (fun cZ => ?_) (fun cZ => ?_)
  · refine w_seq ?_
    refine w_region ?_
    refine rw_val (v := .slice A4 out.length c4) (w' := w6) rfl rfl rfl rfl rfl ?_
    refine rw_val (v := .int .i64 (at_ : Int)) (w' := w6) rfl rfl rfl rfl rfl ?_
    refine rw_val (v := .slice A4 out.length c4) (w' := w6) rfl rfl rfl rfl rfl ?_
    refine rw_val (v := .int .i64 (at_ : Int)) (w' := w6) rfl rfl rfl rfl rfl ?_
    refine rw_end ?_
    refine w_weaken (G' := [(0, .slice A0 b.length c0), (2, .slice A4 out.length c4), (3, .int .i64 (at_ : Int)), (4, .slice A4 out.length c4), (5, .int .i64 (at_ : Int)), (6, .slice A3 n4 c5), (7, .int .i64 ((wholeP (b.drop at_) : Nat) : Int))]) ⟨rfl, rfl, rfl, rfl, rfl, rfl, rfl, trivial⟩ ?_
    have cZ_ : (wholeP (b.drop at_)) = 0 := by simpa using cZ
    refine w_ret (post_ret2 rfl rfl rfl ?_)
    exact ⟨_, _, _, _, rfl, by simpa using hS_ _ _ (SplitR.none _ cZ_), Kd.S_below hR4 hB8, (chain hBw_ hB8)⟩
  · refine w_skip ?_
    refine w_seq ?_
    refine w_region ?_
    refine rw_val (v := .slice A4 out.length c4) (w' := w6) rfl rfl rfl rfl rfl ?_
    refine rw_val (v := .slice A3 n4 c5) (w' := w6) rfl rfl rfl rfl rfl ?_
    have cZ_ : (wholeP (b.drop at_)) ≠ 0 := by simpa using cZ
    refine rw_new (cs := #[.slice A3 n4 c5]) (t := 22) (fun g => .slice (some ⟨g, 0, none⟩) 1 1) rfl rfl rfl rfl (by kernel_rfl) ?_
    intro g10 w11 hg15 hz14 hb12 hk13
    have hs_w11 := hb12.size
    have hout_ : out.length ≤ at_ := by omega
    have hSb_ := Kd.S_below (Kd.S_mono (Kd.S_bound hR4) (fun q hq => (⟨hq.1, hq.2.2.1⟩ : w.heap.size ≤ q ∧ q < w_.heap.size))) (chain hB8 hb12)
    refine rw_append_oneS .u8 5 w.heap.size rfl rfl rfl (.tmp 19) (.tmp 21) rfl rfl 32 22 24 rfl (by kernel_rfl) info22S (by decide) rfl rfl hSb_ (fun q hq => hq.1) hk13 (hL9.on hb12) (fun q hq => ⟨by omega, fun h => by have := h.2; omega⟩) (chain (chain hBw_ hB8) hb12) (by omega) (by omega) ?_
    intro A16 c17 w18 hR19 hB20 hG21
    have hs_w18 := hB20.size
    have hgs_w18 := hG21.size
    refine rw_val (v := .slice A16 ((out ++ [(UN (b.drop at_))]).length) c17) (w' := w18) rfl rfl rfl rfl rfl ?_
    refine rw_end ?_
    refine w_weaken (G' := [(0, .slice A0 b.length c0), (4, .slice A16 ((out ++ [(UN (b.drop at_))]).length) c17), (5, .int .i64 (at_ : Int)), (7, .int .i64 ((wholeP (b.drop at_) : Nat) : Int))]) ⟨rfl, rfl, rfl, rfl, trivial⟩ ?_
    refine w_region ?_
    refine rw_val (v := .int .i64 (at_ : Int)) (w' := w18) rfl rfl rfl rfl rfl ?_
    refine rw_val (v := .int .i64 ((wholeP (b.drop at_) : Nat) : Int)) (w' := w18) rfl rfl rfl rfl rfl ?_
    refine rw_val (v := .int .i64 ((at_ + wholeP (b.drop at_) : Nat) : Int)) (w' := w18) rfl rfl rfl rfl (by simp [go_sem, sEv, sLook, nbeq, i64_w, -List.length_flatten]; exact wrap_id (by omega) (by omega)) ?_
    refine rw_val (v := .int .i64 ((at_ + wholeP (b.drop at_) : Nat) : Int)) (w' := w18) rfl rfl rfl rfl rfl ?_
    refine rw_end ?_
    refine w_weaken (G' := [(0, .slice A0 b.length c0), (4, .slice A16 ((out ++ [(UN (b.drop at_))]).length) c17), (5, .int .i64 ((at_ + wholeP (b.drop at_) : Nat) : Int))]) ⟨rfl, rfl, rfl, trivial⟩ ?_
    refine w_blk ?_
    have e1_ : (b.drop at_).drop (wholeP (b.drop at_)) = b.drop (at_ + wholeP (b.drop at_)) := by rw [List.drop_drop]
    have e2_ : ((b.drop at_).take (wholeP (b.drop at_))).drop 8 = UN (b.drop at_) := by unfold UN; rw [if_neg cZ_]
    exact w_back (m_ - (wholeP (b.drop at_))) [(0, .slice A0 b.length c0), (4, .slice A16 (out ++ [(UN (b.drop at_))]).length c17), (5, .int .i64 ((at_ + wholeP (b.drop at_) : Nat) : Int))] (by omega) ⟨rfl, rfl, rfl, trivial⟩ ⟨(at_ + wholeP (b.drop at_)), out ++ [(UN (b.drop at_))], _, _, by omega, by simp only [List.length_append, List.length_singleton]; omega, hB20, (Kd.S_below hR19 (Below.refl _ _)), fun l n h => by have h2_ := hS_ _ _ (SplitR.some _ l n (by omega) (by rw [e1_]; exact h)); rw [e2_] at h2_; simpa [Nat.add_assoc] using h2_, rfl⟩
end Go.Proofs.Ytjndoihnpnmbjaa.PFrameSums
