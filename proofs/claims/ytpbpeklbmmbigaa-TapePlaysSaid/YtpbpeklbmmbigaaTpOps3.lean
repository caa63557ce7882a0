/- A tape's methods: the walks, third part. -/
import Derived.Test.YtpbpeklbmmbigaaTpOps2
namespace Go.Proofs.Ytpbpeklbmmbigaa.Tp
open Go.RowKit Go.Proofs.YtpbpeklbmmbigaaW.PrintWords Go.Proofs.YtpbpeklbmmbigaaW.PrintLast Go.Proofs.YtpbpeklbmmbigaaW.PrintMore
open Go.Proofs.YtpbpeklbmmbigaaW.PrintWords.Kd Go.Proofs.Ytpbpeklbmmbigaa.Flow
set_option linter.unusedVariables false
set_option linter.unusedSimpArgs false

set_option maxHeartbeats 4000000 in
theorem replace_raw (w0 w : World) (g m : Nat) (x : Nat → Prop) (hx : ∀ q, x q → q < w.heap.size) (s : TS) (A : Option Addr) (n c : Nat) (hB : Below w0.heap.size w0 w) (hg0 : w0.heap.size ≤ g) (hm : g < m ∧ m ≤ w.heap.size) (hb : Blk w g 60 (tcells A n c s)) (hR : BR .u8 5 w w0.heap.size (fun q => g < q ∧ q < m ∧ ¬ x q) A n c s.xs) (hok : s.Ok) (P : Option Addr) (ys : List Int) (pc : Nat) (hP : ∀ W_, Kept w W_ (fun k => k = g) → (Kd.int .u8).C W_ P ys.length ys) :
    Calls Try.prog 18 #[.pointer (some ⟨g, 0, none⟩), .slice P ys.length pc] w fun e w' => e = .returned (errT (s.repE ys)) ∧ TapeAt w0 w' g w'.heap.size x (s.rep ys) ∧ w.heap.size ≤ w'.heap.size ∧ (∀ q, x q → q ≠ g → w'.heap[q]? = w.heap[q]?) ∧ Kept w w' (fun k => k = g) := by
  refine calls_flow Try.func18 rfl 25 rfl (Nat.le_of_ble_eq_true rfl) [(0, .pointer (some ⟨g, 0, none⟩)), (1, .slice P ys.length pc)] ?_ ?_
  · intro t v h; exact args_look rfl t v h
  refine w_seq ?_
  refine w_region ?_
  refine rw_val (v := .nilIface) (w' := w) rfl rfl rfl rfl rfl ?_
  refine rw_end ?_
  refine w_seq ?_
  refine w_seq ?_
  refine w_region ?_
  refine rw_val (v := .slice P ys.length pc) (w' := w) rfl rfl rfl rfl rfl ?_
  refine rw_val (v := .int .i64 (ys.length : Int)) (w' := w) rfl rfl rfl rfl (by simp [go_sem, sEv, sLook, nbeq, i64_w]) ?_
  refine rw_val (v := .bool (decide (1048576 < (ys.length : Int)))) (w' := w) rfl rfl rfl rfl (by simp [go_sem, sEv, sLook, nbeq, i64_w]) ?_
  refine rw_end ?_
  refine w_cond rfl rfl (fun cB => ?_) (fun cB => ?_)
  · refine w_seq ?_
    refine w_region ?_
    refine rw_val (v := errT (some 7)) (w' := w) rfl rfl rfl rfl (by simp [go_sem, sEv, sLook, nbeq, i64_w, errT]) ?_
    refine rw_val (v := errT (some 7)) (w' := w) rfl rfl rfl rfl rfl ?_
    refine rw_end ?_
    refine w_ret (post_ret1 rfl rfl ?_)
    have f_ := of_decide_eq_true cB
    rw [TS.repE, TS.rep, if_pos (by omega), if_pos (by omega)]
    have e2_ : s = ⟨s.xs, s.sure, s.steps, s.ps, s.pl, s.fs, s.fl, s.dn⟩ := rfl
    rw [e2_]
    refine ⟨rfl, TapeAt.mk (s := ⟨s.xs, s.sure, s.steps, s.ps, s.pl, s.fs, s.fl, s.dn⟩) hB hg0 hb hR (fun q hq => ⟨hq.1, hq.2.2⟩), by omega, (fun q hxq hxg => rfl), (Kept.refl _ _)⟩
  · refine w_skip ?_
    refine w_seq ?_
    refine w_seq ?_
    refine w_region ?_
    refine rw_val (v := .pointer (some ⟨g, 0, none⟩)) (w' := w) rfl rfl rfl rfl rfl ?_
    refine rw_call rfl rfl rfl rfl (f := 29) (args := #[.pointer (some ⟨g, 0, none⟩)]) (by simp [go_sem, sEv, sLook, nbeq, i64_w]) (step_raw w0 w g m x (fun q h_ => by have := hx q h_; omega) s A n c hB hg0 ⟨by omega, by omega⟩ hb hR hok) ?_
    rintro e_ w1 ⟨rfl, hT2, hs3, _, hkp4⟩
    refine ⟨_, rfl, ?_⟩
    obtain ⟨hB5, hg6, hm7, A8, n9, c10, hb11, hR12⟩ := hT2
    refine rw_val (v := errT s.err) (w' := w1) rfl rfl rfl rfl rfl ?_
    refine rw_end ?_
    refine w_seq ?_
    refine w_region ?_
    refine rw_val (v := errT s.err) (w' := w1) rfl rfl rfl rfl rfl ?_
    refine rw_val (v := .bool s.err.isSome) (w' := w1) rfl rfl rfl rfl (run_as (guard_err_neq _ _ _)) ?_
    refine rw_end ?_
    refine w_cond rfl rfl (fun cE => ?_) (fun cE => ?_)
    · refine w_seq ?_
      refine w_region ?_
      refine rw_val (v := errT s.err) (w' := w1) rfl rfl rfl rfl rfl ?_
      refine rw_val (v := errT s.err) (w' := w1) rfl rfl rfl rfl rfl ?_
      refine rw_end ?_
      refine w_ret (post_ret1 rfl rfl ?_)
      have f2_ := of_decide_eq_false cB
      rw [TS.repE, TS.rep, if_neg (by omega), if_neg (by omega)]
      rw [if_pos cE]
      have e2_ : s.next = ⟨s.next.xs, s.next.sure, s.next.steps, s.next.ps, s.next.pl, s.next.fs, s.next.fl, s.next.dn⟩ := rfl
      rw [e2_]
      refine ⟨rfl, TapeAt.mk (s := ⟨s.next.xs, s.next.sure, s.next.steps, s.next.ps, s.next.pl, s.next.fs, s.next.fl, s.next.dn⟩) hB5 hg0 hb11 hR12 (fun q hq => ⟨hq.1, hq.2.2⟩), by omega, (fun q hxq hxg => (hkp4.block q hxg)), (Keep.kept hkp4)⟩
    · refine w_skip ?_
      refine w_seq ?_
      refine w_region ?_
      refine rw_val (v := .pointer (some ⟨g, 0, none⟩)) (w' := w1) rfl rfl rfl rfl rfl ?_
      refine rw_val (v := .pointer (some ⟨g, 0, none⟩)) (w' := w1) rfl rfl rfl rfl rfl ?_
      refine rw_val (v := .slice P ys.length pc) (w' := w1) rfl rfl rfl rfl rfl ?_
      have hl19 := (hb11).lt
      have f_ := of_decide_eq_false cB
      refine rw_call rfl rfl rfl rfl (f := 30) (args := #[.slice P ys.length pc]) (by simp [go_sem, sEv, sLook, nbeq, i64_w]) (clone_calls w1 P ys.length pc ys (hP w1 (Keep.kept hkp4)) (by omega)) ?_
      rintro e_ w16 ⟨A13, n14, c15, rfl, hO17, hB18⟩
      refine ⟨_, rfl, ?_⟩
      have hs_w16 := hB18.size
      refine rw_val (v := .slice P ys.length pc) (w' := w16) rfl rfl rfl rfl rfl ?_
      refine rw_val (v := .int .i64 (ys.length : Int)) (w' := w16) rfl rfl rfl rfl (by simp [go_sem, sEv, sLook, nbeq, i64_w]) ?_
      refine rw_val (v := .pointer (some ⟨g, 0, none⟩)) (w' := w16) rfl rfl rfl rfl (by simp [go_sem, sEv, sLook, nbeq, i64_w]) ?_
      refine rw_val (v := .pointer (some ⟨g, 0, none⟩)) (w' := w16) rfl rfl rfl rfl (by simp [go_sem, sEv, sLook, nbeq, i64_w, Try.underlying60]) ?_
      have hb23 := (hb11.on hB18)
      refine rw_store (g := g) (i := 0) (l := [.slice A13 n14 c15]) (cs' := #[.slice A13 n14 c15, .int .i64 s.next.sure, .int .i64 s.next.steps, .bool s.next.ps, .int .i64 s.next.pl, .bool s.next.fs, .int .i64 s.next.fl, .bool s.next.dn]) rfl rfl rfl hb23 rfl (by have e0_ := hb23.cellv (i := 0) (v := (.slice A8 n9 c10 : Value)) rfl; have f0_ := hb23.frozen 0; simp [go_sem, sEv, sLook, nbeq, i64_w, putCells, e0_, f0_, Try.underlying27]) ?_
      intro w20 hk21 hk22
      have hs_w20 := hk21.size
      refine rw_val (v := .pointer (some ⟨g, 0, none⟩)) (w' := w20) rfl rfl rfl rfl (by simp [go_sem, sEv, sLook, nbeq, i64_w]) ?_
      refine rw_val (v := .pointer (some ⟨g, 1, none⟩)) (w' := w20) rfl rfl rfl rfl (by simp [go_sem, sEv, sLook, nbeq, i64_w, Try.underlying60]) ?_
      have hb27 := hk22
      refine rw_store (g := g) (i := 1) (l := [.int .i64 (ys.length : Int)]) (cs' := #[.slice A13 n14 c15, .int .i64 (ys.length : Int), .int .i64 s.next.steps, .bool s.next.ps, .int .i64 s.next.pl, .bool s.next.fs, .int .i64 s.next.fl, .bool s.next.dn]) rfl rfl rfl hb27 rfl (by have e0_ := hb27.cellv (i := 1) (v := (.int .i64 s.next.sure : Value)) rfl; have f0_ := hb27.frozen 1; simp [go_sem, sEv, sLook, nbeq, i64_w, putCells, e0_, f0_]) ?_
      intro w24 hk25 hk26
      have hs_w24 := hk25.size
      refine rw_end ?_
      refine w_weaken (G' := [(4, .nilIface)]) ⟨rfl, trivial⟩ ?_
      refine w_seq ?_
      refine w_region ?_
      refine rw_val (v := .nilIface) (w' := w24) rfl rfl rfl rfl rfl ?_
      refine rw_end ?_
      refine w_ret (post_ret1 rfl rfl ?_)
      have f2_ := of_decide_eq_false cB
      rw [TS.repE, TS.rep, if_neg (by omega), if_neg (by omega)]
      have e1_ : s.err = none := by simpa using cE
      rw [if_neg (by simp [e1_]), e1_]
      have e2_ : { s.next with xs := ys, sure := (ys.length : Int) } = ⟨ys, (ys.length : Int), s.next.steps, s.next.ps, s.next.pl, s.next.fs, s.next.fl, s.next.dn⟩ := rfl
      rw [e2_]
      refine ⟨rfl, TapeAt.mk (s := ⟨ys, (ys.length : Int), s.next.steps, s.next.ps, s.next.pl, s.next.fs, s.next.fl, s.next.dn⟩) (hk25.below (by omega) (hk21.below (by omega) (chain hB5 hB18))) hg0 hk26 (BR.step (BR.step (BR.lower (.inl hO17) (by omega)) (fun q hq _ => hk21.block q (by first | omega | (have := hq.1; omega)))) (fun q hq _ => hk25.block q (by first | omega | (have := hq.1; omega)))) (fun q hq => ⟨by omega, fun h_ => by have := hx q h_; omega⟩), by omega, (fun q hxq hxg => ((hk25.block q hxg).trans ((hk21.block q hxg).trans ((hB18.block q (by have := hx q hxq; omega)).trans (hkp4.block q hxg))))), (Kept.then_ (Kept.then_ (Kept.below (Keep.kept hkp4) hB18) (Keep.kept hk21) (fun _ h => .inl h)) (Keep.kept hk25) (fun _ h => .inl h))⟩
theorem replace_T (w0 w : World) (g m : Nat) (x : Nat → Prop) (hx : ∀ q, x q → q < w.heap.size) (s : TS) (hT : TapeAt w0 w g m x s) (hok : s.Ok) (P : Option Addr) (ys : List Int) (pc : Nat) (hP : ∀ W_, Kept w W_ (fun k => k = g) → (Kd.int .u8).C W_ P ys.length ys) : Calls Try.prog 18 #[.pointer (some ⟨g, 0, none⟩), .slice P ys.length pc] w fun e w' => e = .returned (errT (s.repE ys)) ∧ TapeAt w0 w' g w'.heap.size x (s.rep ys) ∧ w.heap.size ≤ w'.heap.size ∧ (∀ q, x q → q ≠ g → w'.heap[q]? = w.heap[q]?) ∧ Kept w w' (fun k => k = g) := by
  obtain ⟨hB, hg0, hm, A, n, c, hb, hR⟩ := hT
  exact replace_raw w0 w g m x hx s A n c hB hg0 hm hb hR hok P ys pc hP
set_option maxHeartbeats 4000000 in
theorem append_raw (w0 w : World) (g m : Nat) (x : Nat → Prop) (hx : ∀ q, x q → q < w.heap.size) (s : TS) (A : Option Addr) (n c : Nat) (hB : Below w0.heap.size w0 w) (hg0 : w0.heap.size ≤ g) (hm : g < m ∧ m ≤ w.heap.size) (hb : Blk w g 60 (tcells A n c s)) (hR : BR .u8 5 w w0.heap.size (fun q => g < q ∧ q < m ∧ ¬ x q) A n c s.xs) (hok : s.Ok) (P0 : Option Addr) (ps : List (List Int)) (pc : Nat) (hP : ∀ W_, Kept w W_ (fun k => k = g ∨ (g < k ∧ k < m ∧ ¬ x k)) → (Kd.slice 5 (Kd.int .u8)).C W_ P0 ps.length ps) (hn : ps.length ≤ 1000000) (hall : ∀ p ∈ ps, p.length ≤ 140737488355328) :
    Calls Try.prog 12 #[.pointer (some ⟨g, 0, none⟩), .slice P0 ps.length pc] w fun e w' => e = .returned (errT (s.appE ps.flatten)) ∧ TapeAt w0 w' g w'.heap.size x (s.app ps.flatten) ∧ w.heap.size ≤ w'.heap.size ∧ (∀ q, x q → q ≠ g → w'.heap[q]? = w.heap[q]?) := by
  refine calls_flow Try.func12 rfl 48 rfl (Nat.le_of_ble_eq_true rfl) [(0, .pointer (some ⟨g, 0, none⟩)), (1, .slice P0 ps.length pc)] ?_ ?_
  · intro t v h; exact args_look rfl t v h
  refine w_seq ?_
  refine w_region ?_
  refine rw_val (v := .nilIface) (w' := w) rfl rfl rfl rfl rfl ?_
  refine rw_end ?_
  refine w_seq ?_
  refine w_region ?_
  refine rw_val (v := .pointer (some ⟨g, 0, none⟩)) (w' := w) rfl rfl rfl rfl rfl ?_
  refine rw_call rfl rfl rfl rfl (f := 28) (args := #[.pointer (some ⟨g, 0, none⟩)]) (by simp [go_sem, sEv, sLook, nbeq, i64_w, -List.length_flatten]) (length_raw w0 w g m x (fun q h_ => by have := hx q h_; omega) s A n c hB hg0 hm hb hR hok) ?_
  rintro e_ w1 ⟨rfl, rfl⟩
  refine ⟨_, rfl, ?_⟩
  refine rw_val (v := .int .i64 (s.xs.length : Int)) (w' := w) rfl rfl rfl rfl rfl ?_
  refine rw_end ?_
  refine w_seq ?_
  refine w_seq ?_
  refine w_region ?_
  refine rw_val (v := .slice P0 ps.length pc) (w' := w) rfl rfl rfl rfl rfl ?_
  refine rw_val (v := .int .i64 (ps.length : Int)) (w' := w) rfl rfl rfl rfl (by simp [go_sem, sEv, sLook, nbeq, i64_w, -List.length_flatten]) ?_
  refine rw_val (v := .int .i64 0) (w' := w) rfl rfl rfl rfl rfl ?_
  refine rw_end ?_
  refine w_block ?_
  have hlen_ := hok.len
  refine w_loop (fun m_ G W_ => ∃ i : Nat, i + m_ = ps.length ∧ s.xs.length + (ps.take i).flatten.length ≤ 1048576 ∧ w = W_ ∧ G = [(0, .pointer (some ⟨g, 0, none⟩)), (1, .slice P0 ps.length pc), (4, .nilIface), (5, .int .i64 ((s.xs.length + (ps.take i).flatten.length : Nat) : Int)), (13, .slice P0 ps.length pc), (14, .int .i64 (ps.length : Int)), (15, .int .i64 (i : Int))]) ps.length [(0, .pointer (some ⟨g, 0, none⟩)), (1, .slice P0 ps.length pc), (4, .nilIface), (5, .int .i64 (s.xs.length : Int)), (13, .slice P0 ps.length pc), (14, .int .i64 (ps.length : Int)), (15, .int .i64 0)] ⟨0, by omega, by simpa using hlen_, rfl, by simp⟩ ⟨rfl, rfl, rfl, rfl, rfl, rfl, rfl, trivial⟩ ?_
  rintro m_ G w_ ⟨i, him, hfl, rfl, rfl⟩
  refine w_seq ?_
  refine w_region ?_
  refine rw_val (v := .bool (decide ((i : Int) < (ps.length : Int)))) (w' := w) rfl rfl rfl rfl (by simp [go_sem, sEv, sLook, nbeq, i64_w, -List.length_flatten]) ?_
  refine rw_end ?_
  refine w_seq ?_
  refine w_cond rfl rfl (fun cL => ?_) (fun cL => ?_)
  · refine w_skip ?_
    refine w_seq ?_
    refine w_block ?_
    refine w_seq ?_
    refine w_region ?_
    have l_ := of_decide_eq_true cL
    obtain ⟨ad, A1, c1, hA_, hcell_, hle_, hC_⟩ := at_L2 (hP w (Kept.refl _ _)) (i : Int) (by omega) (by omega)
    subst hA_
    rw [show ((i : Int)).toNat = i by omega] at hcell_
    have hpl_ := hall _ (rd_L2_mem ps i (by omega))
    have htl_ := take_len ps i (by omega)
    have hfl3_ := take_le ps (i + 1)
    refine rw_val (v := .pointer (some (ad.add i))) (w' := w) rfl rfl rfl rfl (by simp [go_sem, sEv, sLook, nbeq, i64_w, -List.length_flatten, Try.underlying22]; omega) ?_
    refine rw_val (v := .slice A1 ((rd_L2 ps (i : Int)).length) c1) (w' := w) rfl rfl rfl rfl (by simp [go_sem, sEv, sLook, nbeq, i64_w, -List.length_flatten, hcell_]) ?_
    refine rw_val (v := .slice A1 ((rd_L2 ps (i : Int)).length) c1) (w' := w) rfl rfl rfl rfl rfl ?_
    refine rw_end ?_
    refine w_seq ?_
    refine w_region ?_
    refine rw_val (v := .int .i64 ((s.xs.length + (ps.take i).flatten.length : Nat) : Int)) (w' := w) rfl rfl rfl rfl rfl ?_
    refine rw_val (v := .slice A1 ((rd_L2 ps (i : Int)).length) c1) (w' := w) rfl rfl rfl rfl rfl ?_
    refine rw_val (v := .int .i64 ((rd_L2 ps (i : Int)).length : Int)) (w' := w) rfl rfl rfl rfl (by simp [go_sem, sEv, sLook, nbeq, i64_w, -List.length_flatten]) ?_
    refine rw_val (v := .int .i64 ((s.xs.length + (ps.take (i + 1)).flatten.length : Nat) : Int)) (w' := w) rfl rfl rfl rfl (by simp [go_sem, sEv, sLook, nbeq, i64_w, -List.length_flatten]; rw [htl_]; rw [show (s.xs.length : Int) + ((ps.take i).flatten.length : Int) + ((rd_L2 ps (i : Int)).length : Int) = ((s.xs.length + ((ps.take i).flatten.length + (rd_L2 ps (i : Int)).length) : Nat) : Int) by omega]; exact wrap_id (by omega) (by omega)) ?_
    refine rw_val (v := .int .i64 ((s.xs.length + (ps.take (i + 1)).flatten.length : Nat) : Int)) (w' := w) rfl rfl rfl rfl rfl ?_
    refine rw_end ?_
    refine w_weaken (G' := [(0, .pointer (some ⟨g, 0, none⟩)), (1, .slice (some ad) ps.length pc), (4, .nilIface), (5, .int .i64 ((s.xs.length + (ps.take (i + 1)).flatten.length : Nat) : Int)), (13, .slice (some ad) ps.length pc), (14, .int .i64 (ps.length : Int)), (15, .int .i64 (i : Int))]) ⟨rfl, rfl, rfl, rfl, rfl, rfl, rfl, trivial⟩ ?_
    refine w_seq ?_
    refine w_region ?_
    refine rw_val (v := .int .i64 ((s.xs.length + (ps.take (i + 1)).flatten.length : Nat) : Int)) (w' := w) rfl rfl rfl rfl rfl ?_
    refine rw_val (v := .bool (decide (1048576 < ((s.xs.length + (ps.take (i + 1)).flatten.length : Nat) : Int)))) (w' := w) rfl rfl rfl rfl (by simp [go_sem, sEv, sLook, nbeq, i64_w, -List.length_flatten]) ?_
    refine rw_end ?_
    refine w_cond rfl rfl (fun cF => ?_) (fun cF => ?_)
    · refine w_seq ?_
      refine w_region ?_
      refine rw_val (v := errT (some 7)) (w' := w) rfl rfl rfl rfl (by simp [go_sem, sEv, sLook, nbeq, i64_w, -List.length_flatten, errT]) ?_
      refine rw_val (v := errT (some 7)) (w' := w) rfl rfl rfl rfl rfl ?_
      refine rw_end ?_
      refine w_ret (post_ret1 rfl rfl ?_)
      have f_ := of_decide_eq_true cF
      have t_ := take_le ps (i + 1)
      rw [TS.appE, TS.app, if_pos (by omega), if_pos (by omega)]
      have e2_ : s = ⟨s.xs, s.sure, s.steps, s.ps, s.pl, s.fs, s.fl, s.dn⟩ := rfl
      rw [e2_]
      refine ⟨rfl, TapeAt.mk (s := ⟨s.xs, s.sure, s.steps, s.ps, s.pl, s.fs, s.fl, s.dn⟩) hB hg0 hb hR (fun q hq => ⟨hq.1, hq.2.2⟩), by omega, (fun q hxq hxg => rfl)⟩
    · refine w_skip ?_
      refine w_blk ?_
      refine w_region ?_
      refine rw_val (v := .int .i64 ((i + 1 : Nat) : Int)) (w' := w) rfl rfl rfl rfl (by simp [go_sem, sEv, sLook, nbeq, i64_w, -List.length_flatten]; have l_ := of_decide_eq_true cL; exact wrap_id (by omega) (by omega)) ?_
      refine rw_val (v := .int .i64 ((i + 1 : Nat) : Int)) (w' := w) rfl rfl rfl rfl rfl ?_
      refine rw_end ?_
      have l_ := of_decide_eq_true cL
      have f_ := of_decide_eq_false cF
      exact w_back (m_ - 1) [(0, .pointer (some ⟨g, 0, none⟩)), (1, .slice (some ad) ps.length pc), (4, .nilIface), (5, .int .i64 ((s.xs.length + (ps.take (i + 1)).flatten.length : Nat) : Int)), (13, .slice (some ad) ps.length pc), (14, .int .i64 (ps.length : Int)), (15, .int .i64 ((i + 1 : Nat) : Int))] (by omega) ⟨rfl, rfl, rfl, rfl, rfl, rfl, rfl, trivial⟩ ⟨i + 1, by omega, by omega, rfl, rfl⟩
  · refine w_exit rfl ?_
    refine w_seq ?_
    refine w_seq ?_
    refine w_region ?_
    refine rw_val (v := .pointer (some ⟨g, 0, none⟩)) (w' := w) rfl rfl rfl rfl rfl ?_
    have l0_ := of_decide_eq_false cL
    obtain rfl : i = ps.length := by omega
    rw [List.take_length] at hfl
    refine rw_call rfl rfl rfl rfl (f := 29) (args := #[.pointer (some ⟨g, 0, none⟩)]) (by simp [go_sem, sEv, sLook, nbeq, i64_w, -List.length_flatten]) (step_raw w0 w g m x (fun q h_ => by have := hx q h_; omega) s A n c hB hg0 ⟨by omega, by omega⟩ hb hR hok) ?_
    rintro e_ w2 ⟨rfl, hT3, hs4, _, hkp5⟩
    refine ⟨_, rfl, ?_⟩
    obtain ⟨hB6, hg7, hm8, A9, n10, c11, hb12, hR13⟩ := hT3
    refine rw_val (v := errT s.err) (w' := w2) rfl rfl rfl rfl rfl ?_
    refine rw_end ?_
    refine w_seq ?_
    refine w_region ?_
    refine rw_val (v := errT s.err) (w' := w2) rfl rfl rfl rfl rfl ?_
    refine rw_val (v := .bool s.err.isSome) (w' := w2) rfl rfl rfl rfl (run_as (guard_err_neq _ _ _)) ?_
    refine rw_end ?_
    refine w_cond rfl rfl (fun cE => ?_) (fun cE => ?_)
    · refine w_seq ?_
      refine w_region ?_
      refine rw_val (v := errT s.err) (w' := w2) rfl rfl rfl rfl rfl ?_
      refine rw_val (v := errT s.err) (w' := w2) rfl rfl rfl rfl rfl ?_
      refine rw_end ?_
      refine w_ret (post_ret1 rfl rfl ?_)
      rw [TS.appE, TS.app, if_neg (by omega), if_neg (by omega), if_pos cE]
      have e2_ : s.next = ⟨s.next.xs, s.next.sure, s.next.steps, s.next.ps, s.next.pl, s.next.fs, s.next.fl, s.next.dn⟩ := rfl
      rw [e2_]
      refine ⟨rfl, TapeAt.mk (s := ⟨s.next.xs, s.next.sure, s.next.steps, s.next.ps, s.next.pl, s.next.fs, s.next.fl, s.next.dn⟩) hB6 hg0 hb12 hR13 (fun q hq => ⟨hq.1, hq.2.2⟩), by omega, (fun q hxq hxg => (hkp5.block q hxg))⟩
    · refine w_skip ?_
      refine w_seq ?_
      refine w_seq ?_
      refine w_region ?_
      refine rw_val (v := .slice P0 ps.length pc) (w' := w2) rfl rfl rfl rfl rfl ?_
      refine rw_val (v := .int .i64 (ps.length : Int)) (w' := w2) rfl rfl rfl rfl (by simp [go_sem, sEv, sLook, nbeq, i64_w, -List.length_flatten]) ?_
      refine rw_val (v := .int .i64 0) (w' := w2) rfl rfl rfl rfl rfl ?_
      refine rw_end ?_
      refine w_block ?_
      have e1_ : s.err = none := by simpa using cE
      have hK0_ : Kept w w2 (fun k => k = g ∨ (g < k ∧ k < m ∧ ¬ x k)) := (Keep.kept hkp5).mono (fun k hk => Or.inl hk)
      have hR0_ : BR .u8 5 w2 w0.heap.size (fun q => g < q ∧ (q < m ∨ w.heap.size ≤ q) ∧ ¬ x q) A9 n10 c11 (s.xs ++ (ps.take 0).flatten) := by simpa [TS.next_xs] using BR.mono hR13 (fun q hq => ⟨hq.1, Or.inl hq.2.1, hq.2.2⟩)
      refine w_loop (fun m_ G W_ => ∃ (i : Nat) (A7 : Option Addr) (n7 c7 : Nat), i + m_ = ps.length ∧ Below w0.heap.size w0 W_ ∧ Kept w W_ (fun k => k = g ∨ (g < k ∧ k < m ∧ ¬ x k)) ∧ Blk W_ g 60 #[.slice A7 n7 c7, .int .i64 s.next.sure, .int .i64 s.next.steps, .bool s.next.ps, .int .i64 s.next.pl, .bool s.next.fs, .int .i64 s.next.fl, .bool s.next.dn] ∧ BR .u8 5 W_ w0.heap.size (fun q => g < q ∧ (q < m ∨ w.heap.size ≤ q) ∧ ¬ x q) A7 n7 c7 (s.xs ++ (ps.take i).flatten) ∧ G = [(0, .pointer (some ⟨g, 0, none⟩)), (4, .nilIface), (32, .slice P0 ps.length pc), (33, .int .i64 (ps.length : Int)), (34, .int .i64 (i : Int))]) ps.length [(0, .pointer (some ⟨g, 0, none⟩)), (4, .nilIface), (32, .slice P0 ps.length pc), (33, .int .i64 (ps.length : Int)), (34, .int .i64 0)] ⟨0, _, _, _, by omega, hB6, hK0_, hb12, hR0_, rfl⟩ ⟨rfl, rfl, rfl, rfl, rfl, trivial⟩ ?_
      rintro m_ G w_ ⟨i, A7, n7, c7, him2, hB7, hK_, hb7, hR7, rfl⟩
      have hfl2_ := take_le ps i
      have hks_ := hK_.1
      have hs_w_ := hB7.size
      refine w_seq ?_
      refine w_region ?_
      refine rw_val (v := .bool (decide ((i : Int) < (ps.length : Int)))) (w' := w_) rfl rfl rfl rfl (by simp [go_sem, sEv, sLook, nbeq, i64_w, -List.length_flatten]) ?_
      refine rw_end ?_
      refine w_seq ?_
      refine w_cond rfl rfl (fun cM => ?_) (fun cM => ?_)
      · refine w_skip ?_
        refine w_seq ?_
        refine w_block ?_
        refine w_seq ?_
        refine w_region ?_
        have l_ := of_decide_eq_true cM
        obtain ⟨ad, A1, c1, hA_, hcell_, hle_, hC_⟩ := at_L2 (hP w_ hK_) (i : Int) (by omega) (by omega)
        subst hA_
        rw [show ((i : Int)).toNat = i by omega] at hcell_
        have hpl_ := hall _ (rd_L2_mem ps i (by omega))
        have htl_ := take_len ps i (by omega)
        have hfl3_ := take_le ps (i + 1)
        refine rw_val (v := .pointer (some (ad.add i))) (w' := w_) rfl rfl rfl rfl (by simp [go_sem, sEv, sLook, nbeq, i64_w, -List.length_flatten, Try.underlying22]; omega) ?_
        refine rw_val (v := .slice A1 ((rd_L2 ps (i : Int)).length) c1) (w' := w_) rfl rfl rfl rfl (by simp [go_sem, sEv, sLook, nbeq, i64_w, -List.length_flatten, hcell_]) ?_
        refine rw_val (v := .slice A1 ((rd_L2 ps (i : Int)).length) c1) (w' := w_) rfl rfl rfl rfl rfl ?_
        refine rw_end ?_
        refine w_region ?_
        refine rw_val (v := .pointer (some ⟨g, 0, none⟩)) (w' := w_) rfl rfl rfl rfl rfl ?_
        refine rw_val (v := .pointer (some ⟨g, 0, none⟩)) (w' := w_) rfl rfl rfl rfl rfl ?_
        refine rw_val (v := .pointer (some ⟨g, 0, none⟩)) (w' := w_) rfl rfl rfl rfl (by simp [go_sem, sEv, sLook, nbeq, i64_w, -List.length_flatten]) ?_
        refine rw_val (v := .pointer (some ⟨g, 0, none⟩)) (w' := w_) rfl rfl rfl rfl (by simp [go_sem, sEv, sLook, nbeq, i64_w, -List.length_flatten, Try.underlying60]) ?_
        refine rw_val (v := .slice A7 n7 c7) (w' := w_) rfl rfl rfl rfl (by have e0_ := hb7.cellv (i := 0) (v := (.slice A7 n7 c7 : Value)) rfl; simp [go_sem, sEv, sLook, nbeq, i64_w, -List.length_flatten, e0_]) ?_
        refine rw_val (v := .slice A1 ((rd_L2 ps (i : Int)).length) c1) (w' := w_) rfl rfl rfl rfl rfl ?_
        have hlx_ : ((s.xs ++ (ps.take i).flatten)).length ≤ 1048576 := by simp only [List.length_append]; omega
        refine rw_append_BR .u8 w0.heap.size rfl rfl rfl (.tmp 42) (.tmp 43) rfl rfl 27 5 1 rfl (by kernel_rfl) info5 (by decide) rfl rfl (fun q hq => ⟨by have := (hb7).lt; omega, Or.inr (by omega), fun h_ => by have := hx q h_; omega⟩) hR7 hC_ hB7 (by have := (hB7).size; omega) (by omega) ?_
        intro A14 c15 w16 hR17 hB18 hG19
        have hs_w16 := hG19.size
        have hok7_ := BR.own (hR7)
        have hb20 : Blk w16 g 60 _ := (hG19.block g (hb7).lt (fun hq => by have := (hok7_ g hq.symm).1; omega)).trans (hb7)
        have hK21 : Kept w w16 (fun k => k = g ∨ (g < k ∧ k < m ∧ ¬ x k)) := Kept.of_grown hG19 hK_ (fun k hk => (hok7_ k hk).2.1.elim (fun h => Or.inl (Or.inr ⟨(hok7_ k hk).1, h, (hok7_ k hk).2.2⟩)) Or.inr)
        refine rw_val (v := .pointer (some ⟨g, 0, none⟩)) (w' := w16) rfl rfl rfl rfl (by simp [go_sem, sEv, sLook, nbeq, i64_w, -List.length_flatten]) ?_
        refine rw_val (v := .pointer (some ⟨g, 0, none⟩)) (w' := w16) rfl rfl rfl rfl (by simp [go_sem, sEv, sLook, nbeq, i64_w, -List.length_flatten, Try.underlying60]) ?_
        have hb25 := hb20
        refine rw_store (g := g) (i := 0) (l := [.slice A14 (((s.xs ++ (ps.take i).flatten) ++ rd_L2 ps (i : Int)).length) c15]) (cs' := #[.slice A14 (((s.xs ++ (ps.take i).flatten) ++ rd_L2 ps (i : Int)).length) c15, .int .i64 s.next.sure, .int .i64 s.next.steps, .bool s.next.ps, .int .i64 s.next.pl, .bool s.next.fs, .int .i64 s.next.fl, .bool s.next.dn]) rfl rfl rfl hb25 rfl (by have e0_ := hb25.cellv (i := 0) (v := (.slice A7 n7 c7 : Value)) rfl; have f0_ := hb25.frozen 0; simp [go_sem, sEv, sLook, nbeq, i64_w, -List.length_flatten, putCells, e0_, f0_, Try.underlying27]) ?_
        intro w22 hk23 hk24
        have hs_w22 := hk23.size
        refine rw_end ?_
        refine w_weaken (G' := [(0, .pointer (some ⟨g, 0, none⟩)), (4, .nilIface), (32, .slice (some ad) ps.length pc), (33, .int .i64 (ps.length : Int)), (34, .int .i64 (i : Int))]) ⟨rfl, rfl, rfl, rfl, rfl, trivial⟩ ?_
        refine w_blk ?_
        refine w_region ?_
        refine rw_val (v := .int .i64 ((i + 1 : Nat) : Int)) (w' := w22) rfl rfl rfl rfl (by simp [go_sem, sEv, sLook, nbeq, i64_w, -List.length_flatten]; have l_ := of_decide_eq_true cM; exact wrap_id (by omega) (by omega)) ?_
        refine rw_val (v := .int .i64 ((i + 1 : Nat) : Int)) (w' := w22) rfl rfl rfl rfl rfl ?_
        refine rw_end ?_
        have l_ := of_decide_eq_true cM
        have hR8_ : BR .u8 5 w22 w0.heap.size (fun q => g < q ∧ (q < m ∨ w.heap.size ≤ q) ∧ ¬ x q) A14 (((s.xs ++ (ps.take i).flatten) ++ rd_L2 ps (i : Int)).length) c15 (s.xs ++ (ps.take (i + 1)).flatten) := by rw [take_flat ps i (by omega), ← List.append_assoc]; exact (BR.step hR17 (fun q hq _ => hk23.block q (by first | omega | (have := hq.1; omega))))
        have hK8_ : Kept w w22 (fun k => k = g ∨ (g < k ∧ k < m ∧ ¬ x k)) := hK21.then_ (Keep.kept hk23) (fun k hk => Or.inl (Or.inl hk))
        exact w_back (m_ - 1) [(0, .pointer (some ⟨g, 0, none⟩)), (4, .nilIface), (32, .slice (some ad) ps.length pc), (33, .int .i64 (ps.length : Int)), (34, .int .i64 ((i + 1 : Nat) : Int))] (by omega) ⟨rfl, rfl, rfl, rfl, rfl, trivial⟩ ⟨i + 1, _, _, _, by omega, (hk23.below (by omega) hB18), hK8_, hk24, hR8_, rfl⟩
      · refine w_exit rfl ?_
        refine w_seq ?_
        refine w_region ?_
        refine rw_val (v := .nilIface) (w' := w_) rfl rfl rfl rfl rfl ?_
        refine rw_end ?_
        refine w_ret (post_ret1 rfl rfl ?_)
        have l_ := of_decide_eq_false cM
        obtain rfl : i = ps.length := by omega
        rw [TS.appE, TS.app, if_neg (by omega), if_neg (by omega), if_neg (by simp [e1_]), e1_]
        rw [List.take_length] at hR7
        have e2_ : { s.next with xs := s.xs ++ ps.flatten } = ⟨(s.xs ++ ps.flatten), s.next.sure, s.next.steps, s.next.ps, s.next.pl, s.next.fs, s.next.fl, s.next.dn⟩ := rfl
        rw [e2_]
        refine ⟨rfl, TapeAt.mk (s := ⟨(s.xs ++ ps.flatten), s.next.sure, s.next.steps, s.next.ps, s.next.pl, s.next.fs, s.next.fl, s.next.dn⟩) hB7 hg0 hb7 hR7 (fun q hq => ⟨hq.1, hq.2.2⟩), by omega, (fun q hxq hxg => (hK_.2 q (hx q hxq) (fun h => h.elim hxg (fun h => h.2.2 hxq))))⟩
theorem append_T (w0 w : World) (g m : Nat) (x : Nat → Prop) (hx : ∀ q, x q → q < w.heap.size) (s : TS) (hT : TapeAt w0 w g m x s) (hok : s.Ok) (P0 : Option Addr) (ps : List (List Int)) (pc : Nat) (hP : ∀ W_, Kept w W_ (fun k => k = g ∨ (g < k ∧ k < m ∧ ¬ x k)) → (Kd.slice 5 (Kd.int .u8)).C W_ P0 ps.length ps) (hn : ps.length ≤ 1000000) (hall : ∀ p ∈ ps, p.length ≤ 140737488355328) : Calls Try.prog 12 #[.pointer (some ⟨g, 0, none⟩), .slice P0 ps.length pc] w fun e w' => e = .returned (errT (s.appE ps.flatten)) ∧ TapeAt w0 w' g w'.heap.size x (s.app ps.flatten) ∧ w.heap.size ≤ w'.heap.size ∧ (∀ q, x q → q ≠ g → w'.heap[q]? = w.heap[q]?) := by
  obtain ⟨hB, hg0, hm, A, n, c, hb, hR⟩ := hT
  exact append_raw w0 w g m x hx s A n c hB hg0 hm hb hR hok P0 ps pc hP hn hall
end Go.Proofs.Ytpbpeklbmmbigaa.Tp
