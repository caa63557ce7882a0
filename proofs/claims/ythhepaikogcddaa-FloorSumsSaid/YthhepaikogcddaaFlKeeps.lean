/- Wide numbers keep sums and order: the walk. -/
import Derived.Test.YthhepaikogcddaaFlGroup
import Derived.Test.YthhepaikogcddaaFlRef
namespace Go.Proofs.Ythhepaikogcddaa.PFloorGroup
open Go.RowKit Go.Proofs.YthhepaikogcddaaW.PrintWords Go.Proofs.YthhepaikogcddaaW.PrintLast Go.Proofs.YthhepaikogcddaaW.PrintMore
open Go.Proofs.Ythhepaikogcddaa.Flow
set_option linter.unusedVariables false
set_option linter.unusedSimpArgs false


def wless (ah al bh bl : Int) : Bool := if ah < bh then true else if ah = bh then decide (al < bl) else false
theorem wless_calls (ah al bh bl : Int) (w : World) : Calls Try.prog 25 #[.agg #[.int .i64 ah, .int .u64 al], .agg #[.int .i64 bh, .int .u64 bl]] w fun e w' => e = .returned (.bool (wless ah al bh bl)) ∧ Below w.heap.size w w' :=
  floor_Less.calls ah al bh bl _ w (by unfold floor_Less.f wless; split <;> try rfl
                                       split <;> rfl)
theorem rof_calls (a : Int) (ha : -9223372036854775808 ≤ a ∧ a ≤ 9223372036854775807) (w : World) : Calls Try.prog 27 #[.int .i64 a] w fun e w' => e = .returned (.agg #[.int .i64 (a / 9223372036854775808), .int .u64 (IntKind.u64.wrap a)]) ∧ Below w.heap.size w w' :=
  estuaryref01_Of.calls a _ _ w (by
    unfold estuaryref01_Of.f
    split
    · rw [show a / 9223372036854775808 = -1 by omega]
    · rw [show a / 9223372036854775808 = 0 by omega])
theorem keep_less (a b : Int) (ha : -9223372036854775808 ≤ a ∧ a ≤ 9223372036854775807) (hb : -9223372036854775808 ≤ b ∧ b ≤ 9223372036854775807) : (wless (a / 9223372036854775808) (IntKind.u64.wrap a) (b / 9223372036854775808) (IntKind.u64.wrap b) != decide (a < b)) = false := by
  have e : wless (a / 9223372036854775808) (IntKind.u64.wrap a) (b / 9223372036854775808) (IntKind.u64.wrap b) = decide (a < b) := by
    unfold wless
    simp only [u64_wrap]
    rw [Bool.eq_iff_iff, decide_eq_true_iff]
    split
    · simp; omega
    · split
      · rw [decide_eq_true_iff]; omega
      · simp; omega
  rw [e]
  simp
theorem k_lo (a b : Int) : wl (IntKind.u64.wrap a) (IntKind.u64.wrap b) = IntKind.u64.wrap (wrap64 (a + b)) := by
  unfold wl wrap64
  simp only [u64_wrap]
  omega
theorem k_hi (a b : Int) (ha : -9223372036854775808 ≤ a ∧ a ≤ 9223372036854775807) (hb : -9223372036854775808 ≤ b ∧ b ≤ 9223372036854775807) : wh (a / 9223372036854775808) (IntKind.u64.wrap a) (b / 9223372036854775808) (IntKind.u64.wrap b) = if a + b < 0 then -1 else 0 := by
  have ea : a / 9223372036854775808 * 18446744073709551616 + IntKind.u64.wrap a = a := by rw [u64_wrap]; omega
  have eb : b / 9223372036854775808 * 18446744073709551616 + IntKind.u64.wrap b = b := by rw [u64_wrap]; omega
  have ra := u64_range a
  have rb := u64_range b
  unfold wh
  generalize IntKind.u64.wrap a = x at *
  generalize IntKind.u64.wrap b = y at *
  generalize a / 9223372036854775808 = p at *
  generalize b / 9223372036854775808 = q at *
  have e : p + q + (x + y) / 18446744073709551616 = if a + b < 0 then -1 else 0 := by split <;> omega
  rw [e]
  split <;> decide +kernel
theorem k_wr (a b : Int) (ha : -9223372036854775808 ≤ a ∧ a ≤ 9223372036854775807) (hb : -9223372036854775808 ≤ b ∧ b ≤ 9223372036854775807) : ∃ w, wrap64 (a + b) = w ∧ (-9223372036854775808 ≤ w ∧ w ≤ 9223372036854775807) ∧ (w = a + b ∨ w = a + b - 18446744073709551616 ∨ w = a + b + 18446744073709551616) :=
  ⟨_, rfl, by unfold wrap64; omega, by unfold wrap64; omega⟩
theorem keep_fact (a b : Int) (ha : -9223372036854775808 ≤ a ∧ a ≤ 9223372036854775807) (hb : -9223372036854775808 ≤ b ∧ b ≤ 9223372036854775807) :
    (wh (a / 9223372036854775808) (IntKind.u64.wrap a) (b / 9223372036854775808) (IntKind.u64.wrap b) == wrap64 (a + b) / 9223372036854775808 && (wl (IntKind.u64.wrap a) (IntKind.u64.wrap b) == IntKind.u64.wrap (wrap64 (a + b)))) =
      !((decide (0 < a) && decide (0 < b) && decide (wrap64 (a + b) ≤ 0)) || (decide (a < 0) && decide (b < 0) && decide (0 ≤ wrap64 (a + b)))) := by
  rw [k_lo, k_hi a b ha hb]
  obtain ⟨w, hw, h1, h2⟩ := k_wr a b ha hb
  rw [hw]
  have e2 : w / 9223372036854775808 = if w < 0 then -1 else 0 := by split <;> omega
  rw [e2]
  by_cases c1 : a + b < 0 <;> by_cases c2 : w < 0 <;> simp only [c1, c2, if_true, if_false] <;> simp <;> omega
theorem eqA24' (d : Nat) (w : World) (x0 y0 : Int) (x1 y1 : Int) :
    (Op.equalIn (d + 2) 24 (.agg #[.int .i64 x0, .int .u64 x1]) (.agg #[.int .i64 y0, .int .u64 y1])).run Try.prog w = .ok (x0 == y0 && (x1 == y1)) w := by
  refine eqA_of Try.underlying24 (by kernel_rfl) ?_
  refine eqf_cons (by rfl) (by go_simp; rfl) (by go_simp; rfl) (by go_simp) ?_
  exact eqf_last (by rfl) (by go_simp; rfl) (by go_simp; rfl) (by go_simp)
set_option maxHeartbeats 4000000 in
theorem walkKeeps (a b : Int) (ha : -9223372036854775808 ≤ a ∧ a ≤ 9223372036854775807) (hb : -9223372036854775808 ≤ b ∧ b ≤ 9223372036854775807) (w : World) :
    Calls Try.prog 9 #[.int .i64 a, .int .i64 b] w fun e w' => e = .returned (.bool true) ∧ Below w.heap.size w w' := by
  refine calls_flow Try.func9 rfl 72 rfl (Nat.le_of_ble_eq_true rfl) [(0, .int .i64 a), (1, .int .i64 b)] ?_ ?_
  · intro t v h; exact args_look rfl t v h
  refine w_seq ?_
  refine w_region ?_
  refine rw_val (v := .bool false) (w' := w) rfl rfl rfl rfl rfl ?_
  refine rw_end ?_
  refine w_seq ?_
  refine w_seq ?_
  refine w_region ?_
  refine rw_call rfl rfl rfl rfl (f := 13) (args := #[]) (by simp [go_sem, sEv, sLook, nbeq, i64_w]) (alive_calls w) ?_
  rintro e_ w1 ⟨rfl, hb2⟩
  refine ⟨_, rfl, ?_⟩
  have hs_w1 := hb2.size
  refine rw_val (v := .bool false) (w' := w1) rfl rfl rfl rfl (by simp [go_sem, sEv, sLook, nbeq, i64_w]) ?_
  refine rw_end ?_
  refine w_cond_f rfl rfl rfl ?_
  refine w_skip ?_
  refine w_seq ?_
  refine w_seq ?_
  refine w_region ?_
  refine rw_val (v := .int .i64 a) (w' := w1) rfl rfl rfl rfl rfl ?_
  refine rw_call rfl rfl rfl rfl (f := 14) (args := #[.int .i64 a]) (by simp [go_sem, sEv, sLook, nbeq, i64_w]) (of_calls a w1) ?_
  rintro e_ w3 ⟨rfl, hb4⟩
  refine ⟨_, rfl, ?_⟩
  have hs_w3 := hb4.size
  refine rw_val (v := .int .i64 a) (w' := w3) rfl rfl rfl rfl rfl ?_
  refine rw_call rfl rfl rfl rfl (f := 27) (args := #[.int .i64 a]) (by simp [go_sem, sEv, sLook, nbeq, i64_w]) (rof_calls a (by first | omega | exact ⟨by omega, by omega⟩ | assumption) w3) ?_
  rintro e_ w5 ⟨rfl, hb6⟩
  refine ⟨_, rfl, ?_⟩
  have hs_w5 := hb6.size
  refine rw_val (v := .bool false) (w' := w5) rfl rfl rfl rfl (by simp [go_sem, sEv, sLook, nbeq, i64_w, eqA24]) ?_
  refine rw_val (v := .bool false) (w' := w5) rfl rfl rfl rfl rfl ?_
  refine rw_gval (c := false) (v := .int .i64 a) (w' := w5) rfl rfl rfl rfl rfl rfl rfl (by rfl) ?_
  refine rw_gcall (c := false) rfl rfl rfl rfl rfl rfl rfl (f := 14) (args := #[.int .i64 a]) (by simp [go_sem, sEv, sLook, nbeq, i64_w]) (of_calls a w5) ?_
  rintro e_ w7 ⟨rfl, hb8⟩
  refine ⟨_, rfl, ?_⟩
  have hs_w7 := hb8.size
  refine rw_gval (c := false) (v := .int .i64 b) (w' := w7) rfl rfl rfl rfl rfl rfl rfl (by rfl) ?_
  refine rw_gcall (c := false) rfl rfl rfl rfl rfl rfl rfl (f := 14) (args := #[.int .i64 b]) (by simp [go_sem, sEv, sLook, nbeq, i64_w]) (of_calls b w7) ?_
  rintro e_ w9 ⟨rfl, hb10⟩
  refine ⟨_, rfl, ?_⟩
  have hs_w9 := hb10.size
  refine rw_gcall (c := false) rfl rfl rfl rfl rfl rfl rfl (f := 25) (args := #[.agg #[.int .i64 (a / 9223372036854775808), .int .u64 (IntKind.u64.wrap a)], .agg #[.int .i64 (b / 9223372036854775808), .int .u64 (IntKind.u64.wrap b)]]) (by simp [go_sem, sEv, sLook, nbeq, i64_w]) (wless_calls (a / 9223372036854775808) (IntKind.u64.wrap a) (b / 9223372036854775808) (IntKind.u64.wrap b) w9) ?_
  rintro e_ w11 ⟨rfl, hb12⟩
  refine ⟨_, rfl, ?_⟩
  have hs_w11 := hb12.size
  refine rw_gval (c := false) (v := .int .i64 a) (w' := w11) rfl rfl rfl rfl rfl rfl rfl (by rfl) ?_
  refine rw_gval (c := false) (v := .int .i64 b) (w' := w11) rfl rfl rfl rfl rfl rfl rfl (by rfl) ?_
  refine rw_gval (c := false) (v := .bool (decide (a < b))) (w' := w11) rfl rfl rfl rfl rfl rfl rfl (by simp [go_sem, sEv, sLook, nbeq, i64_w]) ?_
  refine rw_gval (c := false) (v := .bool ((wless (a / 9223372036854775808) (IntKind.u64.wrap a) (b / 9223372036854775808) (IntKind.u64.wrap b)) != (decide (a < b)))) (w' := w11) rfl rfl rfl rfl rfl rfl rfl (by first | (simp [go_sem, sEv, sLook, nbeq, i64_w]; done) | (simp [go_sem, sEv, sLook, nbeq, i64_w] <;> cases h0_ : wless (a / 9223372036854775808) (IntKind.u64.wrap a) (b / 9223372036854775808) (IntKind.u64.wrap b) <;> cases h1_ : decide (a < b) <;> rfl)) ?_
  refine rw_val (v := .bool ((wless (a / 9223372036854775808) (IntKind.u64.wrap a) (b / 9223372036854775808) (IntKind.u64.wrap b)) != (decide (a < b)))) (w' := w11) rfl rfl rfl rfl (by simp [go_sem, sEv, sLook, nbeq, i64_w]) ?_
  refine rw_end ?_
  refine w_weaken (G' := [(0, .int .i64 a), (1, .int .i64 b), (4, .bool false), (24, .bool ((wless (a / 9223372036854775808) (IntKind.u64.wrap a) (b / 9223372036854775808) (IntKind.u64.wrap b)) != (decide (a < b))))]) ⟨rfl, rfl, rfl, rfl, trivial⟩ ?_
  have hq13 : ((wless (a / 9223372036854775808) (IntKind.u64.wrap a) (b / 9223372036854775808) (IntKind.u64.wrap b)) != (decide (a < b))) = false := by exact keep_less a b ha hb
  refine w_cond_f rfl rfl hq13 ?_
  refine w_skip ?_
  refine w_seq ?_
  refine w_region ?_
  refine rw_val (v := .int .i64 a) (w' := w11) rfl rfl rfl rfl rfl ?_
  refine rw_call rfl rfl rfl rfl (f := 14) (args := #[.int .i64 a]) (by simp [go_sem, sEv, sLook, nbeq, i64_w]) (of_calls a w11) ?_
  rintro e_ w14 ⟨rfl, hb15⟩
  refine ⟨_, rfl, ?_⟩
  have hs_w14 := hb15.size
  refine rw_val (v := .int .i64 b) (w' := w14) rfl rfl rfl rfl rfl ?_
  refine rw_call rfl rfl rfl rfl (f := 14) (args := #[.int .i64 b]) (by simp [go_sem, sEv, sLook, nbeq, i64_w]) (of_calls b w14) ?_
  rintro e_ w16 ⟨rfl, hb17⟩
  refine ⟨_, rfl, ?_⟩
  have hs_w16 := hb17.size
  refine rw_call rfl rfl rfl rfl (f := 15) (args := #[.agg #[.int .i64 (a / 9223372036854775808), .int .u64 (IntKind.u64.wrap a)], .agg #[.int .i64 (b / 9223372036854775808), .int .u64 (IntKind.u64.wrap b)]]) (by simp [go_sem, sEv, sLook, nbeq, i64_w]) (wadd_calls (a / 9223372036854775808) (IntKind.u64.wrap a) (b / 9223372036854775808) (IntKind.u64.wrap b) (by first | assumption | exact wl_range _ _ | exact nl_range _ | exact wh_range _ _ _ _ | exact nh_range _ _ | omega | (have := u64_range a; have := u64_range b; omega)) (by first | assumption | exact wl_range _ _ | exact nl_range _ | exact wh_range _ _ _ _ | exact nh_range _ _ | omega | (have := u64_range a; have := u64_range b; omega)) w16) ?_
  rintro e_ w18 ⟨rfl, hb19⟩
  refine ⟨_, rfl, ?_⟩
  have hs_w18 := hb19.size
  refine rw_new (cs := #[.int .i64 0, .int .u64 0]) (t := 24) (fun g => .pointer (some ⟨g, 0, none⟩)) rfl rfl rfl rfl (by kernel_rfl) ?_
  intro g20 w21 hg25 hz24 hb22 hk23
  have hs_w21 := hb22.size
  have hb29 := hk23
  refine rw_store (g := g20) (i := 0) (l := [.int .i64 (wh (a / 9223372036854775808) (IntKind.u64.wrap a) (b / 9223372036854775808) (IntKind.u64.wrap b)), .int .u64 (wl (IntKind.u64.wrap a) (IntKind.u64.wrap b))]) (cs' := #[.int .i64 (wh (a / 9223372036854775808) (IntKind.u64.wrap a) (b / 9223372036854775808) (IntKind.u64.wrap b)), .int .u64 (wl (IntKind.u64.wrap a) (IntKind.u64.wrap b))]) rfl rfl rfl hb29 rfl (by have e0_ := hb29.cellv (i := 0) (v := (.int .i64 0 : Value)) rfl; have f0_ := hb29.frozen 0; have e1_ := hb29.cellv (i := 1) (v := (.int .u64 0 : Value)) rfl; have f1_ := hb29.frozen 1; simp [go_sem, sEv, sLook, nbeq, i64_w, putCells, e0_, f0_, e1_, f1_, Try.underlying24]) ?_
  intro w26 hk27 hk28
  have hs_w26 := hk27.size
  refine rw_end ?_
  refine w_weaken (G' := [(0, .int .i64 a), (1, .int .i64 b), (4, .bool false), (5, .pointer (some ⟨g20, 0, none⟩))]) ⟨rfl, rfl, rfl, rfl, trivial⟩ ?_
  refine w_seq ?_
  refine w_seq ?_
  refine w_region ?_
  refine rw_val (v := .pointer (some ⟨g20, 1, none⟩)) (w' := w26) rfl rfl rfl rfl (by simp [go_sem, sEv, sLook, nbeq, i64_w, Try.underlying24]) ?_
  refine rw_val (v := .int .u64 (wl (IntKind.u64.wrap a) (IntKind.u64.wrap b))) (w' := w26) rfl rfl rfl rfl (by have eb_ := hk28; have e0_ := eb_.cellv (i := 1) (v := (.int .u64 (wl (IntKind.u64.wrap a) (IntKind.u64.wrap b)) : Value)) rfl; simp [go_sem, sEv, sLook, nbeq, i64_w, e0_]) ?_
  refine rw_val (v := .int .i64 (wrap64 (a + b))) (w' := w26) rfl rfl rfl rfl (by simp [go_sem, sEv, sLook, nbeq, i64_w, Try.underlying22, Try.underlying3] <;> (unfold wl wrap64; simp only [u64_wrap]; omega)) ?_
  refine rw_val (v := .int .i64 a) (w' := w26) rfl rfl rfl rfl rfl ?_
  refine rw_val (v := .int .i64 b) (w' := w26) rfl rfl rfl rfl rfl ?_
  refine rw_val (v := .int .i64 (wrap64 (a + b))) (w' := w26) rfl rfl rfl rfl (by simp [go_sem, sEv, sLook, nbeq, i64_w]) ?_
  refine rw_val (v := .bool false) (w' := w26) rfl rfl rfl rfl (by simp [go_sem, sEv, sLook, nbeq, i64_w]) ?_
  refine rw_end ?_
  refine w_weaken (G' := [(0, .int .i64 a), (1, .int .i64 b), (4, .bool false), (5, .pointer (some ⟨g20, 0, none⟩)), (36, .bool false)]) ⟨rfl, rfl, rfl, rfl, rfl, trivial⟩ ?_
  refine w_cond_f rfl rfl rfl ?_
  refine w_skip ?_
  refine w_seq ?_
  refine w_region ?_
  refine rw_val (v := .int .i64 a) (w' := w26) rfl rfl rfl rfl rfl ?_
  refine rw_val (v := .bool (decide (0 < a))) (w' := w26) rfl rfl rfl rfl (by simp [go_sem, sEv, sLook, nbeq, i64_w]) ?_
  refine rw_val (v := .bool (decide (0 < a))) (w' := w26) rfl rfl rfl rfl rfl ?_
  rcases bcase (decide (0 < a)) with c30 | c30
  · refine rw_off (c := decide (0 < a)) rfl rfl rfl (by simp [c30]) rfl rfl ?_
    refine rw_off (c := decide (0 < a)) rfl rfl rfl (by simp [c30]) rfl rfl ?_
    refine rw_val (v := .bool false) (w' := w26) rfl rfl rfl rfl (by simp [go_sem, sEv, sLook, nbeq, i64_w, c30]) ?_
    refine rw_val (v := .bool false) (w' := w26) rfl rfl rfl rfl rfl ?_
    refine rw_off (c := false) rfl rfl rfl rfl rfl rfl ?_
    refine rw_off (c := false) rfl rfl rfl rfl rfl rfl ?_
    refine rw_off (c := false) rfl rfl rfl rfl rfl rfl ?_
    refine rw_off (c := false) rfl rfl rfl rfl rfl rfl ?_
    refine rw_val (v := .bool false) (w' := w26) rfl rfl rfl rfl (by simp [go_sem, sEv, sLook, nbeq, i64_w]) ?_
    refine rw_val (v := .bool false) (w' := w26) rfl rfl rfl rfl rfl ?_
    refine rw_gval (c := false) (v := .int .i64 a) (w' := w26) rfl rfl rfl rfl rfl rfl rfl (by rfl) ?_
    refine rw_gval (c := false) (v := .bool (decide (a < 0))) (w' := w26) rfl rfl rfl rfl rfl rfl rfl (by simp [go_sem, sEv, sLook, nbeq, i64_w]) ?_
    refine rw_gval (c := false) (v := .bool (decide (a < 0))) (w' := w26) rfl rfl rfl rfl rfl rfl rfl (by rfl) ?_
    rcases bcase (decide (a < 0)) with c31 | c31
    · refine rw_off (c := decide (a < 0)) rfl rfl rfl (by simp [c31]) rfl rfl ?_
      refine rw_off (c := decide (a < 0)) rfl rfl rfl (by simp [c31]) rfl rfl ?_
      refine rw_gval (c := false) (v := .bool false) (w' := w26) rfl rfl rfl rfl rfl rfl rfl (by simp [go_sem, sEv, sLook, nbeq, i64_w, c31]) ?_
      refine rw_gval (c := false) (v := .bool false) (w' := w26) rfl rfl rfl rfl rfl rfl rfl (by rfl) ?_
      refine rw_off (c := false) rfl rfl rfl rfl rfl rfl ?_
      refine rw_off (c := false) rfl rfl rfl rfl rfl rfl ?_
      refine rw_off (c := false) rfl rfl rfl rfl rfl rfl ?_
      refine rw_off (c := false) rfl rfl rfl rfl rfl rfl ?_
      refine rw_gval (c := false) (v := .bool false) (w' := w26) rfl rfl rfl rfl rfl rfl rfl (by simp [go_sem, sEv, sLook, nbeq, i64_w]) ?_
      refine rw_val (v := .bool false) (w' := w26) rfl rfl rfl rfl (by simp [go_sem, sEv, sLook, nbeq, i64_w]) ?_
      refine rw_val (v := .bool false) (w' := w26) rfl rfl rfl rfl rfl ?_
      refine rw_end ?_
      refine w_weaken (G' := [(0, .int .i64 a), (1, .int .i64 b), (4, .bool false), (5, .pointer (some ⟨g20, 0, none⟩)), (6, .bool false)]) ⟨rfl, rfl, rfl, rfl, rfl, trivial⟩ ?_
      refine w_seq ?_
      refine w_draw (M := [0, 0, 0, 6, 14, 31, 0, 64, 255, 511]) (ss := [Is (.agg #[.int .i64 (wh (a / 9223372036854775808) (IntKind.u64.wrap a) (b / 9223372036854775808) (IntKind.u64.wrap b)), .int .u64 (wl (IntKind.u64.wrap a) (IntKind.u64.wrap b))]), Is (.int .i64 a), Is (.int .i64 b), Is (.int .i64 (wrap64 (a + b))), (Is (.agg #[.int .i64 ((wrap64 (a + b)) / 9223372036854775808), .int .u64 (IntKind.u64.wrap (wrap64 (a + b)))])), Is (.bool ((wh (a / 9223372036854775808) (IntKind.u64.wrap a) (b / 9223372036854775808) (IntKind.u64.wrap b)) == ((wrap64 (a + b)) / 9223372036854775808) && ((wl (IntKind.u64.wrap a) (IntKind.u64.wrap b)) == (IntKind.u64.wrap (wrap64 (a + b)))))), Is (.bool false), Is (.bool true), Is (.bool (((wh (a / 9223372036854775808) (IntKind.u64.wrap a) (b / 9223372036854775808) (IntKind.u64.wrap b)) == ((wrap64 (a + b)) / 9223372036854775808) && ((wl (IntKind.u64.wrap a) (IntKind.u64.wrap b)) == (IntKind.u64.wrap (wrap64 (a + b))))) == true)), Is (.bool (((wh (a / 9223372036854775808) (IntKind.u64.wrap a) (b / 9223372036854775808) (IntKind.u64.wrap b)) == ((wrap64 (a + b)) / 9223372036854775808) && ((wl (IntKind.u64.wrap a) (IntKind.u64.wrap b)) == (IntKind.u64.wrap (wrap64 (a + b))))) == true))]) rfl (by decide +kernel) ?_
      refine t_is (.agg #[.int .i64 (wh (a / 9223372036854775808) (IntKind.u64.wrap a) (b / 9223372036854775808) (IntKind.u64.wrap b)), .int .u64 (wl (IntKind.u64.wrap a) (IntKind.u64.wrap b))]) rfl rfl rfl rfl (fun W_ hW_ F_ => by have eb_ := (hk28.on (below_of_drew hW_)); have e0_ := eb_.cellv (i := 0) (v := (.int .i64 (wh (a / 9223372036854775808) (IntKind.u64.wrap a) (b / 9223372036854775808) (IntKind.u64.wrap b)) : Value)) rfl; have e1_ := eb_.cellv (i := 1) (v := (.int .u64 (wl (IntKind.u64.wrap a) (IntKind.u64.wrap b)) : Value)) rfl; simp [go_sem, sEv, sLook, nbeq, i64_w, e0_, e1_, Try.underlying24]) ?_
      refine t_is (.int .i64 a) rfl rfl rfl rfl (fun W_ hW_ F_ => rfl) ?_
      refine t_is (.int .i64 b) rfl rfl rfl rfl (fun W_ hW_ F_ => rfl) ?_
      refine t_is (.int .i64 (wrap64 (a + b))) rfl rfl rfl rfl (fun W_ hW_ F_ => by simp [go_sem, sEv, sLook, nbeq, i64_w]) ?_
      refine t_call (f := 14) (args := #[.int .i64 (wrap64 (a + b))]) (Is (.agg #[.int .i64 ((wrap64 (a + b)) / 9223372036854775808), .int .u64 (IntKind.u64.wrap (wrap64 (a + b)))])) rfl rfl rfl rfl (fun W_ => by simp [go_sem, sEv, sLook, nbeq, i64_w]) (fun W_ hW_ F_ => ?_) ?_
      · refine (of_calls (wrap64 (a + b)) W_).mono ?_
        rintro e_ w_ ⟨rfl, hd_⟩
        exact ⟨_, rfl, rfl, hd_⟩
      rintro _ rfl
      refine t_is (.bool ((wh (a / 9223372036854775808) (IntKind.u64.wrap a) (b / 9223372036854775808) (IntKind.u64.wrap b)) == ((wrap64 (a + b)) / 9223372036854775808) && ((wl (IntKind.u64.wrap a) (IntKind.u64.wrap b)) == (IntKind.u64.wrap (wrap64 (a + b)))))) rfl rfl rfl rfl (fun W_ hW_ F_ => by simp [go_sem, sEv, sLook, nbeq, i64_w, eqA24]) ?_
      refine t_is (.bool false) rfl rfl rfl rfl (fun W_ hW_ F_ => rfl) ?_
      refine t_is (.bool true) rfl rfl rfl rfl (fun W_ hW_ F_ => by simp [go_sem, sEv, sLook, nbeq, i64_w]) ?_
      refine t_is (.bool (((wh (a / 9223372036854775808) (IntKind.u64.wrap a) (b / 9223372036854775808) (IntKind.u64.wrap b)) == ((wrap64 (a + b)) / 9223372036854775808) && ((wl (IntKind.u64.wrap a) (IntKind.u64.wrap b)) == (IntKind.u64.wrap (wrap64 (a + b))))) == true)) rfl rfl rfl rfl (fun W_ hW_ F_ => by first | (simp [go_sem, sEv, sLook, nbeq, i64_w]; done) | (simp [go_sem, sEv, sLook, nbeq, i64_w] <;> cases h0_ : ((wh (a / 9223372036854775808) (IntKind.u64.wrap a) (b / 9223372036854775808) (IntKind.u64.wrap b)) == ((wrap64 (a + b)) / 9223372036854775808) && ((wl (IntKind.u64.wrap a) (IntKind.u64.wrap b)) == (IntKind.u64.wrap (wrap64 (a + b))))) <;> rfl)) ?_
      refine t_is (.bool (((wh (a / 9223372036854775808) (IntKind.u64.wrap a) (b / 9223372036854775808) (IntKind.u64.wrap b)) == ((wrap64 (a + b)) / 9223372036854775808) && ((wl (IntKind.u64.wrap a) (IntKind.u64.wrap b)) == (IntKind.u64.wrap (wrap64 (a + b))))) == true)) rfl rfl rfl rfl (fun W_ hW_ F_ => rfl) ?_
      refine t_end ?_
      intro w32 hb33_ F34
      have hb33 := below_of_drew hb33_
      have hs_w32 := hb33.size
      refine w_weaken (G' := [(4, .bool (((wh (a / 9223372036854775808) (IntKind.u64.wrap a) (b / 9223372036854775808) (IntKind.u64.wrap b)) == ((wrap64 (a + b)) / 9223372036854775808) && ((wl (IntKind.u64.wrap a) (IntKind.u64.wrap b)) == (IntKind.u64.wrap (wrap64 (a + b))))) == true))]) ⟨rfl, trivial⟩ ?_
      have hq35 : (((wh (a / 9223372036854775808) (IntKind.u64.wrap a) (b / 9223372036854775808) (IntKind.u64.wrap b)) == ((wrap64 (a + b)) / 9223372036854775808) && ((wl (IntKind.u64.wrap a) (IntKind.u64.wrap b)) == (IntKind.u64.wrap (wrap64 (a + b))))) == true) = true := by simp only [keep_fact a b ha hb]; first | simp [c30, c31] | (simp [c30, c31] <;> omega)
      refine w_ret (post_ret1 rfl rfl ?_)
      exact ⟨by simp only [hq35], (chain (hk27.below (by omega) (chain (chain (chain (chain (chain (chain (chain (chain (chain hb2 hb4) hb6) hb8) hb10) hb12) hb15) hb17) hb19) hb22)) hb33)⟩
    · refine rw_gval (c := decide (a < 0)) (v := .int .i64 b) (w' := w26) rfl rfl rfl (by simp [c31]) rfl rfl rfl (by rfl) ?_
      refine rw_gval (c := decide (a < 0)) (v := .bool (decide (b < 0))) (w' := w26) rfl rfl rfl (by simp [c31]) rfl rfl rfl (by simp [go_sem, sEv, sLook, nbeq, i64_w]) ?_
      refine rw_gval (c := false) (v := .bool (decide (b < 0))) (w' := w26) rfl rfl rfl rfl rfl rfl rfl (by simp [go_sem, sEv, sLook, nbeq, i64_w, c31]) ?_
      refine rw_gval (c := false) (v := .bool (decide (b < 0))) (w' := w26) rfl rfl rfl rfl rfl rfl rfl (by rfl) ?_
      rcases bcase (decide (b < 0)) with c36 | c36
      · refine rw_off (c := decide (b < 0)) rfl rfl rfl (by simp [c36]) rfl rfl ?_
        refine rw_off (c := decide (b < 0)) rfl rfl rfl (by simp [c36]) rfl rfl ?_
        refine rw_off (c := decide (b < 0)) rfl rfl rfl (by simp [c36]) rfl rfl ?_
        refine rw_off (c := decide (b < 0)) rfl rfl rfl (by simp [c36]) rfl rfl ?_
        refine rw_gval (c := false) (v := .bool false) (w' := w26) rfl rfl rfl rfl rfl rfl rfl (by simp [go_sem, sEv, sLook, nbeq, i64_w, c36]) ?_
        refine rw_val (v := .bool false) (w' := w26) rfl rfl rfl rfl (by simp [go_sem, sEv, sLook, nbeq, i64_w]) ?_
        refine rw_val (v := .bool false) (w' := w26) rfl rfl rfl rfl rfl ?_
        refine rw_end ?_
        refine w_weaken (G' := [(0, .int .i64 a), (1, .int .i64 b), (4, .bool false), (5, .pointer (some ⟨g20, 0, none⟩)), (6, .bool false)]) ⟨rfl, rfl, rfl, rfl, rfl, trivial⟩ ?_
        refine w_seq ?_
        refine w_draw (M := [0, 0, 0, 6, 14, 31, 0, 64, 255, 511]) (ss := [Is (.agg #[.int .i64 (wh (a / 9223372036854775808) (IntKind.u64.wrap a) (b / 9223372036854775808) (IntKind.u64.wrap b)), .int .u64 (wl (IntKind.u64.wrap a) (IntKind.u64.wrap b))]), Is (.int .i64 a), Is (.int .i64 b), Is (.int .i64 (wrap64 (a + b))), (Is (.agg #[.int .i64 ((wrap64 (a + b)) / 9223372036854775808), .int .u64 (IntKind.u64.wrap (wrap64 (a + b)))])), Is (.bool ((wh (a / 9223372036854775808) (IntKind.u64.wrap a) (b / 9223372036854775808) (IntKind.u64.wrap b)) == ((wrap64 (a + b)) / 9223372036854775808) && ((wl (IntKind.u64.wrap a) (IntKind.u64.wrap b)) == (IntKind.u64.wrap (wrap64 (a + b)))))), Is (.bool false), Is (.bool true), Is (.bool (((wh (a / 9223372036854775808) (IntKind.u64.wrap a) (b / 9223372036854775808) (IntKind.u64.wrap b)) == ((wrap64 (a + b)) / 9223372036854775808) && ((wl (IntKind.u64.wrap a) (IntKind.u64.wrap b)) == (IntKind.u64.wrap (wrap64 (a + b))))) == true)), Is (.bool (((wh (a / 9223372036854775808) (IntKind.u64.wrap a) (b / 9223372036854775808) (IntKind.u64.wrap b)) == ((wrap64 (a + b)) / 9223372036854775808) && ((wl (IntKind.u64.wrap a) (IntKind.u64.wrap b)) == (IntKind.u64.wrap (wrap64 (a + b))))) == true))]) rfl (by decide +kernel) ?_
        refine t_is (.agg #[.int .i64 (wh (a / 9223372036854775808) (IntKind.u64.wrap a) (b / 9223372036854775808) (IntKind.u64.wrap b)), .int .u64 (wl (IntKind.u64.wrap a) (IntKind.u64.wrap b))]) rfl rfl rfl rfl (fun W_ hW_ F_ => by have eb_ := (hk28.on (below_of_drew hW_)); have e0_ := eb_.cellv (i := 0) (v := (.int .i64 (wh (a / 9223372036854775808) (IntKind.u64.wrap a) (b / 9223372036854775808) (IntKind.u64.wrap b)) : Value)) rfl; have e1_ := eb_.cellv (i := 1) (v := (.int .u64 (wl (IntKind.u64.wrap a) (IntKind.u64.wrap b)) : Value)) rfl; simp [go_sem, sEv, sLook, nbeq, i64_w, e0_, e1_, Try.underlying24]) ?_
        refine t_is (.int .i64 a) rfl rfl rfl rfl (fun W_ hW_ F_ => rfl) ?_
        refine t_is (.int .i64 b) rfl rfl rfl rfl (fun W_ hW_ F_ => rfl) ?_
        refine t_is (.int .i64 (wrap64 (a + b))) rfl rfl rfl rfl (fun W_ hW_ F_ => by simp [go_sem, sEv, sLook, nbeq, i64_w]) ?_
        refine t_call (f := 14) (args := #[.int .i64 (wrap64 (a + b))]) (Is (.agg #[.int .i64 ((wrap64 (a + b)) / 9223372036854775808), .int .u64 (IntKind.u64.wrap (wrap64 (a + b)))])) rfl rfl rfl rfl (fun W_ => by simp [go_sem, sEv, sLook, nbeq, i64_w]) (fun W_ hW_ F_ => ?_) ?_
        · refine (of_calls (wrap64 (a + b)) W_).mono ?_
          rintro e_ w_ ⟨rfl, hd_⟩
          exact ⟨_, rfl, rfl, hd_⟩
        rintro _ rfl
        refine t_is (.bool ((wh (a / 9223372036854775808) (IntKind.u64.wrap a) (b / 9223372036854775808) (IntKind.u64.wrap b)) == ((wrap64 (a + b)) / 9223372036854775808) && ((wl (IntKind.u64.wrap a) (IntKind.u64.wrap b)) == (IntKind.u64.wrap (wrap64 (a + b)))))) rfl rfl rfl rfl (fun W_ hW_ F_ => by simp [go_sem, sEv, sLook, nbeq, i64_w, eqA24]) ?_
        refine t_is (.bool false) rfl rfl rfl rfl (fun W_ hW_ F_ => rfl) ?_
        refine t_is (.bool true) rfl rfl rfl rfl (fun W_ hW_ F_ => by simp [go_sem, sEv, sLook, nbeq, i64_w]) ?_
        refine t_is (.bool (((wh (a / 9223372036854775808) (IntKind.u64.wrap a) (b / 9223372036854775808) (IntKind.u64.wrap b)) == ((wrap64 (a + b)) / 9223372036854775808) && ((wl (IntKind.u64.wrap a) (IntKind.u64.wrap b)) == (IntKind.u64.wrap (wrap64 (a + b))))) == true)) rfl rfl rfl rfl (fun W_ hW_ F_ => by first | (simp [go_sem, sEv, sLook, nbeq, i64_w]; done) | (simp [go_sem, sEv, sLook, nbeq, i64_w] <;> cases h0_ : ((wh (a / 9223372036854775808) (IntKind.u64.wrap a) (b / 9223372036854775808) (IntKind.u64.wrap b)) == ((wrap64 (a + b)) / 9223372036854775808) && ((wl (IntKind.u64.wrap a) (IntKind.u64.wrap b)) == (IntKind.u64.wrap (wrap64 (a + b))))) <;> rfl)) ?_
        refine t_is (.bool (((wh (a / 9223372036854775808) (IntKind.u64.wrap a) (b / 9223372036854775808) (IntKind.u64.wrap b)) == ((wrap64 (a + b)) / 9223372036854775808) && ((wl (IntKind.u64.wrap a) (IntKind.u64.wrap b)) == (IntKind.u64.wrap (wrap64 (a + b))))) == true)) rfl rfl rfl rfl (fun W_ hW_ F_ => rfl) ?_
        refine t_end ?_
        intro w37 hb38_ F39
        have hb38 := below_of_drew hb38_
        have hs_w37 := hb38.size
        refine w_weaken (G' := [(4, .bool (((wh (a / 9223372036854775808) (IntKind.u64.wrap a) (b / 9223372036854775808) (IntKind.u64.wrap b)) == ((wrap64 (a + b)) / 9223372036854775808) && ((wl (IntKind.u64.wrap a) (IntKind.u64.wrap b)) == (IntKind.u64.wrap (wrap64 (a + b))))) == true))]) ⟨rfl, trivial⟩ ?_
        have hq40 : (((wh (a / 9223372036854775808) (IntKind.u64.wrap a) (b / 9223372036854775808) (IntKind.u64.wrap b)) == ((wrap64 (a + b)) / 9223372036854775808) && ((wl (IntKind.u64.wrap a) (IntKind.u64.wrap b)) == (IntKind.u64.wrap (wrap64 (a + b))))) == true) = true := by simp only [keep_fact a b ha hb]; first | simp [c30, c31, c36] | (simp [c30, c31, c36] <;> omega)
        refine w_ret (post_ret1 rfl rfl ?_)
        exact ⟨by simp only [hq40], (chain (hk27.below (by omega) (chain (chain (chain (chain (chain (chain (chain (chain (chain hb2 hb4) hb6) hb8) hb10) hb12) hb15) hb17) hb19) hb22)) hb38)⟩
      · refine rw_gval (c := decide (b < 0)) (v := .int .i64 a) (w' := w26) rfl rfl rfl (by simp [c36]) rfl rfl rfl (by rfl) ?_
        refine rw_gval (c := decide (b < 0)) (v := .int .i64 b) (w' := w26) rfl rfl rfl (by simp [c36]) rfl rfl rfl (by rfl) ?_
        refine rw_gval (c := decide (b < 0)) (v := .int .i64 (wrap64 (a + b))) (w' := w26) rfl rfl rfl (by simp [c36]) rfl rfl rfl (by simp [go_sem, sEv, sLook, nbeq, i64_w]) ?_
        refine rw_gval (c := decide (b < 0)) (v := .bool (decide (0 ≤ (wrap64 (a + b))))) (w' := w26) rfl rfl rfl (by simp [c36]) rfl rfl rfl (by simp [go_sem, sEv, sLook, nbeq, i64_w]) ?_
        refine rw_gval (c := false) (v := .bool (decide (0 ≤ (wrap64 (a + b))))) (w' := w26) rfl rfl rfl rfl rfl rfl rfl (by simp [go_sem, sEv, sLook, nbeq, i64_w, c36]) ?_
        refine rw_val (v := .bool (decide (0 ≤ (wrap64 (a + b))))) (w' := w26) rfl rfl rfl rfl (by simp [go_sem, sEv, sLook, nbeq, i64_w]) ?_
        refine rw_val (v := .bool (decide (0 ≤ (wrap64 (a + b))))) (w' := w26) rfl rfl rfl rfl rfl ?_
        refine rw_end ?_
        refine w_weaken (G' := [(0, .int .i64 a), (1, .int .i64 b), (4, .bool false), (5, .pointer (some ⟨g20, 0, none⟩)), (6, .bool (decide (0 ≤ (wrap64 (a + b)))))]) ⟨rfl, rfl, rfl, rfl, rfl, trivial⟩ ?_
        refine w_seq ?_
        refine w_draw (M := [0, 0, 0, 6, 14, 31, 0, 64, 255, 511]) (ss := [Is (.agg #[.int .i64 (wh (a / 9223372036854775808) (IntKind.u64.wrap a) (b / 9223372036854775808) (IntKind.u64.wrap b)), .int .u64 (wl (IntKind.u64.wrap a) (IntKind.u64.wrap b))]), Is (.int .i64 a), Is (.int .i64 b), Is (.int .i64 (wrap64 (a + b))), (Is (.agg #[.int .i64 ((wrap64 (a + b)) / 9223372036854775808), .int .u64 (IntKind.u64.wrap (wrap64 (a + b)))])), Is (.bool ((wh (a / 9223372036854775808) (IntKind.u64.wrap a) (b / 9223372036854775808) (IntKind.u64.wrap b)) == ((wrap64 (a + b)) / 9223372036854775808) && ((wl (IntKind.u64.wrap a) (IntKind.u64.wrap b)) == (IntKind.u64.wrap (wrap64 (a + b)))))), Is (.bool (decide (0 ≤ (wrap64 (a + b))))), Is (.bool (!(decide (0 ≤ (wrap64 (a + b)))))), Is (.bool (((wh (a / 9223372036854775808) (IntKind.u64.wrap a) (b / 9223372036854775808) (IntKind.u64.wrap b)) == ((wrap64 (a + b)) / 9223372036854775808) && ((wl (IntKind.u64.wrap a) (IntKind.u64.wrap b)) == (IntKind.u64.wrap (wrap64 (a + b))))) == (!(decide (0 ≤ (wrap64 (a + b))))))), Is (.bool (((wh (a / 9223372036854775808) (IntKind.u64.wrap a) (b / 9223372036854775808) (IntKind.u64.wrap b)) == ((wrap64 (a + b)) / 9223372036854775808) && ((wl (IntKind.u64.wrap a) (IntKind.u64.wrap b)) == (IntKind.u64.wrap (wrap64 (a + b))))) == (!(decide (0 ≤ (wrap64 (a + b)))))))]) rfl (by decide +kernel) ?_
        refine t_is (.agg #[.int .i64 (wh (a / 9223372036854775808) (IntKind.u64.wrap a) (b / 9223372036854775808) (IntKind.u64.wrap b)), .int .u64 (wl (IntKind.u64.wrap a) (IntKind.u64.wrap b))]) rfl rfl rfl rfl (fun W_ hW_ F_ => by have eb_ := (hk28.on (below_of_drew hW_)); have e0_ := eb_.cellv (i := 0) (v := (.int .i64 (wh (a / 9223372036854775808) (IntKind.u64.wrap a) (b / 9223372036854775808) (IntKind.u64.wrap b)) : Value)) rfl; have e1_ := eb_.cellv (i := 1) (v := (.int .u64 (wl (IntKind.u64.wrap a) (IntKind.u64.wrap b)) : Value)) rfl; simp [go_sem, sEv, sLook, nbeq, i64_w, e0_, e1_, Try.underlying24]) ?_
        refine t_is (.int .i64 a) rfl rfl rfl rfl (fun W_ hW_ F_ => rfl) ?_
        refine t_is (.int .i64 b) rfl rfl rfl rfl (fun W_ hW_ F_ => rfl) ?_
        refine t_is (.int .i64 (wrap64 (a + b))) rfl rfl rfl rfl (fun W_ hW_ F_ => by simp [go_sem, sEv, sLook, nbeq, i64_w]) ?_
        refine t_call (f := 14) (args := #[.int .i64 (wrap64 (a + b))]) (Is (.agg #[.int .i64 ((wrap64 (a + b)) / 9223372036854775808), .int .u64 (IntKind.u64.wrap (wrap64 (a + b)))])) rfl rfl rfl rfl (fun W_ => by simp [go_sem, sEv, sLook, nbeq, i64_w]) (fun W_ hW_ F_ => ?_) ?_
        · refine (of_calls (wrap64 (a + b)) W_).mono ?_
          rintro e_ w_ ⟨rfl, hd_⟩
          exact ⟨_, rfl, rfl, hd_⟩
        rintro _ rfl
        refine t_is (.bool ((wh (a / 9223372036854775808) (IntKind.u64.wrap a) (b / 9223372036854775808) (IntKind.u64.wrap b)) == ((wrap64 (a + b)) / 9223372036854775808) && ((wl (IntKind.u64.wrap a) (IntKind.u64.wrap b)) == (IntKind.u64.wrap (wrap64 (a + b)))))) rfl rfl rfl rfl (fun W_ hW_ F_ => by simp [go_sem, sEv, sLook, nbeq, i64_w, eqA24]) ?_
        refine t_is (.bool (decide (0 ≤ (wrap64 (a + b))))) rfl rfl rfl rfl (fun W_ hW_ F_ => rfl) ?_
        refine t_is (.bool (!(decide (0 ≤ (wrap64 (a + b)))))) rfl rfl rfl rfl (fun W_ hW_ F_ => by simp [go_sem, sEv, sLook, nbeq, i64_w]) ?_
        refine t_is (.bool (((wh (a / 9223372036854775808) (IntKind.u64.wrap a) (b / 9223372036854775808) (IntKind.u64.wrap b)) == ((wrap64 (a + b)) / 9223372036854775808) && ((wl (IntKind.u64.wrap a) (IntKind.u64.wrap b)) == (IntKind.u64.wrap (wrap64 (a + b))))) == (!(decide (0 ≤ (wrap64 (a + b))))))) rfl rfl rfl rfl (fun W_ hW_ F_ => by first | (simp [go_sem, sEv, sLook, nbeq, i64_w]; done) | (simp [go_sem, sEv, sLook, nbeq, i64_w] <;> cases h0_ : ((wh (a / 9223372036854775808) (IntKind.u64.wrap a) (b / 9223372036854775808) (IntKind.u64.wrap b)) == ((wrap64 (a + b)) / 9223372036854775808) && ((wl (IntKind.u64.wrap a) (IntKind.u64.wrap b)) == (IntKind.u64.wrap (wrap64 (a + b))))) <;> cases h1_ : (decide (0 ≤ (wrap64 (a + b)))) <;> rfl)) ?_
        refine t_is (.bool (((wh (a / 9223372036854775808) (IntKind.u64.wrap a) (b / 9223372036854775808) (IntKind.u64.wrap b)) == ((wrap64 (a + b)) / 9223372036854775808) && ((wl (IntKind.u64.wrap a) (IntKind.u64.wrap b)) == (IntKind.u64.wrap (wrap64 (a + b))))) == (!(decide (0 ≤ (wrap64 (a + b))))))) rfl rfl rfl rfl (fun W_ hW_ F_ => rfl) ?_
        refine t_end ?_
        intro w41 hb42_ F43
        have hb42 := below_of_drew hb42_
        have hs_w41 := hb42.size
        refine w_weaken (G' := [(4, .bool (((wh (a / 9223372036854775808) (IntKind.u64.wrap a) (b / 9223372036854775808) (IntKind.u64.wrap b)) == ((wrap64 (a + b)) / 9223372036854775808) && ((wl (IntKind.u64.wrap a) (IntKind.u64.wrap b)) == (IntKind.u64.wrap (wrap64 (a + b))))) == (!(decide (0 ≤ (wrap64 (a + b)))))))]) ⟨rfl, trivial⟩ ?_
        have hq44 : (((wh (a / 9223372036854775808) (IntKind.u64.wrap a) (b / 9223372036854775808) (IntKind.u64.wrap b)) == ((wrap64 (a + b)) / 9223372036854775808) && ((wl (IntKind.u64.wrap a) (IntKind.u64.wrap b)) == (IntKind.u64.wrap (wrap64 (a + b))))) == (!(decide (0 ≤ (wrap64 (a + b)))))) = true := by simp only [keep_fact a b ha hb]; first | simp [c30, c31, c36] | (simp [c30, c31, c36] <;> omega)
        refine w_ret (post_ret1 rfl rfl ?_)
        exact ⟨by simp only [hq44], (chain (hk27.below (by omega) (chain (chain (chain (chain (chain (chain (chain (chain (chain hb2 hb4) hb6) hb8) hb10) hb12) hb15) hb17) hb19) hb22)) hb42)⟩
  · refine rw_gval (c := decide (0 < a)) (v := .int .i64 b) (w' := w26) rfl rfl rfl (by simp [c30]) rfl rfl rfl (by rfl) ?_
    refine rw_gval (c := decide (0 < a)) (v := .bool (decide (0 < b))) (w' := w26) rfl rfl rfl (by simp [c30]) rfl rfl rfl (by simp [go_sem, sEv, sLook, nbeq, i64_w]) ?_
    refine rw_val (v := .bool (decide (0 < b))) (w' := w26) rfl rfl rfl rfl (by simp [go_sem, sEv, sLook, nbeq, i64_w, c30]) ?_
    refine rw_val (v := .bool (decide (0 < b))) (w' := w26) rfl rfl rfl rfl rfl ?_
    rcases bcase (decide (0 < b)) with c45 | c45
    · refine rw_off (c := decide (0 < b)) rfl rfl rfl (by simp [c45]) rfl rfl ?_
      refine rw_off (c := decide (0 < b)) rfl rfl rfl (by simp [c45]) rfl rfl ?_
      refine rw_off (c := decide (0 < b)) rfl rfl rfl (by simp [c45]) rfl rfl ?_
      refine rw_off (c := decide (0 < b)) rfl rfl rfl (by simp [c45]) rfl rfl ?_
      refine rw_val (v := .bool false) (w' := w26) rfl rfl rfl rfl (by simp [go_sem, sEv, sLook, nbeq, i64_w, c45]) ?_
      refine rw_val (v := .bool false) (w' := w26) rfl rfl rfl rfl rfl ?_
      refine rw_gval (c := false) (v := .int .i64 a) (w' := w26) rfl rfl rfl rfl rfl rfl rfl (by rfl) ?_
      refine rw_gval (c := false) (v := .bool (decide (a < 0))) (w' := w26) rfl rfl rfl rfl rfl rfl rfl (by simp [go_sem, sEv, sLook, nbeq, i64_w]) ?_
      refine rw_gval (c := false) (v := .bool (decide (a < 0))) (w' := w26) rfl rfl rfl rfl rfl rfl rfl (by rfl) ?_
      rcases bcase (decide (a < 0)) with c46 | c46
      · refine rw_off (c := decide (a < 0)) rfl rfl rfl (by simp [c46]) rfl rfl ?_
        refine rw_off (c := decide (a < 0)) rfl rfl rfl (by simp [c46]) rfl rfl ?_
        refine rw_gval (c := false) (v := .bool false) (w' := w26) rfl rfl rfl rfl rfl rfl rfl (by simp [go_sem, sEv, sLook, nbeq, i64_w, c46]) ?_
        refine rw_gval (c := false) (v := .bool false) (w' := w26) rfl rfl rfl rfl rfl rfl rfl (by rfl) ?_
        refine rw_off (c := false) rfl rfl rfl rfl rfl rfl ?_
        refine rw_off (c := false) rfl rfl rfl rfl rfl rfl ?_
        refine rw_off (c := false) rfl rfl rfl rfl rfl rfl ?_
        refine rw_off (c := false) rfl rfl rfl rfl rfl rfl ?_
        refine rw_gval (c := false) (v := .bool false) (w' := w26) rfl rfl rfl rfl rfl rfl rfl (by simp [go_sem, sEv, sLook, nbeq, i64_w]) ?_
        refine rw_val (v := .bool false) (w' := w26) rfl rfl rfl rfl (by simp [go_sem, sEv, sLook, nbeq, i64_w]) ?_
        refine rw_val (v := .bool false) (w' := w26) rfl rfl rfl rfl rfl ?_
        refine rw_end ?_
        refine w_weaken (G' := [(0, .int .i64 a), (1, .int .i64 b), (4, .bool false), (5, .pointer (some ⟨g20, 0, none⟩)), (6, .bool false)]) ⟨rfl, rfl, rfl, rfl, rfl, trivial⟩ ?_
        refine w_seq ?_
        refine w_draw (M := [0, 0, 0, 6, 14, 31, 0, 64, 255, 511]) (ss := [Is (.agg #[.int .i64 (wh (a / 9223372036854775808) (IntKind.u64.wrap a) (b / 9223372036854775808) (IntKind.u64.wrap b)), .int .u64 (wl (IntKind.u64.wrap a) (IntKind.u64.wrap b))]), Is (.int .i64 a), Is (.int .i64 b), Is (.int .i64 (wrap64 (a + b))), (Is (.agg #[.int .i64 ((wrap64 (a + b)) / 9223372036854775808), .int .u64 (IntKind.u64.wrap (wrap64 (a + b)))])), Is (.bool ((wh (a / 9223372036854775808) (IntKind.u64.wrap a) (b / 9223372036854775808) (IntKind.u64.wrap b)) == ((wrap64 (a + b)) / 9223372036854775808) && ((wl (IntKind.u64.wrap a) (IntKind.u64.wrap b)) == (IntKind.u64.wrap (wrap64 (a + b)))))), Is (.bool false), Is (.bool true), Is (.bool (((wh (a / 9223372036854775808) (IntKind.u64.wrap a) (b / 9223372036854775808) (IntKind.u64.wrap b)) == ((wrap64 (a + b)) / 9223372036854775808) && ((wl (IntKind.u64.wrap a) (IntKind.u64.wrap b)) == (IntKind.u64.wrap (wrap64 (a + b))))) == true)), Is (.bool (((wh (a / 9223372036854775808) (IntKind.u64.wrap a) (b / 9223372036854775808) (IntKind.u64.wrap b)) == ((wrap64 (a + b)) / 9223372036854775808) && ((wl (IntKind.u64.wrap a) (IntKind.u64.wrap b)) == (IntKind.u64.wrap (wrap64 (a + b))))) == true))]) rfl (by decide +kernel) ?_
        refine t_is (.agg #[.int .i64 (wh (a / 9223372036854775808) (IntKind.u64.wrap a) (b / 9223372036854775808) (IntKind.u64.wrap b)), .int .u64 (wl (IntKind.u64.wrap a) (IntKind.u64.wrap b))]) rfl rfl rfl rfl (fun W_ hW_ F_ => by have eb_ := (hk28.on (below_of_drew hW_)); have e0_ := eb_.cellv (i := 0) (v := (.int .i64 (wh (a / 9223372036854775808) (IntKind.u64.wrap a) (b / 9223372036854775808) (IntKind.u64.wrap b)) : Value)) rfl; have e1_ := eb_.cellv (i := 1) (v := (.int .u64 (wl (IntKind.u64.wrap a) (IntKind.u64.wrap b)) : Value)) rfl; simp [go_sem, sEv, sLook, nbeq, i64_w, e0_, e1_, Try.underlying24]) ?_
        refine t_is (.int .i64 a) rfl rfl rfl rfl (fun W_ hW_ F_ => rfl) ?_
        refine t_is (.int .i64 b) rfl rfl rfl rfl (fun W_ hW_ F_ => rfl) ?_
        refine t_is (.int .i64 (wrap64 (a + b))) rfl rfl rfl rfl (fun W_ hW_ F_ => by simp [go_sem, sEv, sLook, nbeq, i64_w]) ?_
        refine t_call (f := 14) (args := #[.int .i64 (wrap64 (a + b))]) (Is (.agg #[.int .i64 ((wrap64 (a + b)) / 9223372036854775808), .int .u64 (IntKind.u64.wrap (wrap64 (a + b)))])) rfl rfl rfl rfl (fun W_ => by simp [go_sem, sEv, sLook, nbeq, i64_w]) (fun W_ hW_ F_ => ?_) ?_
        · refine (of_calls (wrap64 (a + b)) W_).mono ?_
          rintro e_ w_ ⟨rfl, hd_⟩
          exact ⟨_, rfl, rfl, hd_⟩
        rintro _ rfl
        refine t_is (.bool ((wh (a / 9223372036854775808) (IntKind.u64.wrap a) (b / 9223372036854775808) (IntKind.u64.wrap b)) == ((wrap64 (a + b)) / 9223372036854775808) && ((wl (IntKind.u64.wrap a) (IntKind.u64.wrap b)) == (IntKind.u64.wrap (wrap64 (a + b)))))) rfl rfl rfl rfl (fun W_ hW_ F_ => by simp [go_sem, sEv, sLook, nbeq, i64_w, eqA24]) ?_
        refine t_is (.bool false) rfl rfl rfl rfl (fun W_ hW_ F_ => rfl) ?_
        refine t_is (.bool true) rfl rfl rfl rfl (fun W_ hW_ F_ => by simp [go_sem, sEv, sLook, nbeq, i64_w]) ?_
        refine t_is (.bool (((wh (a / 9223372036854775808) (IntKind.u64.wrap a) (b / 9223372036854775808) (IntKind.u64.wrap b)) == ((wrap64 (a + b)) / 9223372036854775808) && ((wl (IntKind.u64.wrap a) (IntKind.u64.wrap b)) == (IntKind.u64.wrap (wrap64 (a + b))))) == true)) rfl rfl rfl rfl (fun W_ hW_ F_ => by first | (simp [go_sem, sEv, sLook, nbeq, i64_w]; done) | (simp [go_sem, sEv, sLook, nbeq, i64_w] <;> cases h0_ : ((wh (a / 9223372036854775808) (IntKind.u64.wrap a) (b / 9223372036854775808) (IntKind.u64.wrap b)) == ((wrap64 (a + b)) / 9223372036854775808) && ((wl (IntKind.u64.wrap a) (IntKind.u64.wrap b)) == (IntKind.u64.wrap (wrap64 (a + b))))) <;> rfl)) ?_
        refine t_is (.bool (((wh (a / 9223372036854775808) (IntKind.u64.wrap a) (b / 9223372036854775808) (IntKind.u64.wrap b)) == ((wrap64 (a + b)) / 9223372036854775808) && ((wl (IntKind.u64.wrap a) (IntKind.u64.wrap b)) == (IntKind.u64.wrap (wrap64 (a + b))))) == true)) rfl rfl rfl rfl (fun W_ hW_ F_ => rfl) ?_
        refine t_end ?_
        intro w47 hb48_ F49
        have hb48 := below_of_drew hb48_
        have hs_w47 := hb48.size
        refine w_weaken (G' := [(4, .bool (((wh (a / 9223372036854775808) (IntKind.u64.wrap a) (b / 9223372036854775808) (IntKind.u64.wrap b)) == ((wrap64 (a + b)) / 9223372036854775808) && ((wl (IntKind.u64.wrap a) (IntKind.u64.wrap b)) == (IntKind.u64.wrap (wrap64 (a + b))))) == true))]) ⟨rfl, trivial⟩ ?_
        have hq50 : (((wh (a / 9223372036854775808) (IntKind.u64.wrap a) (b / 9223372036854775808) (IntKind.u64.wrap b)) == ((wrap64 (a + b)) / 9223372036854775808) && ((wl (IntKind.u64.wrap a) (IntKind.u64.wrap b)) == (IntKind.u64.wrap (wrap64 (a + b))))) == true) = true := by simp only [keep_fact a b ha hb]; first | simp [c30, c45, c46] | (simp [c30, c45, c46] <;> omega)
        refine w_ret (post_ret1 rfl rfl ?_)
        exact ⟨by simp only [hq50], (chain (hk27.below (by omega) (chain (chain (chain (chain (chain (chain (chain (chain (chain hb2 hb4) hb6) hb8) hb10) hb12) hb15) hb17) hb19) hb22)) hb48)⟩
      · refine rw_gval (c := decide (a < 0)) (v := .int .i64 b) (w' := w26) rfl rfl rfl (by simp [c46]) rfl rfl rfl (by rfl) ?_
        refine rw_gval (c := decide (a < 0)) (v := .bool (decide (b < 0))) (w' := w26) rfl rfl rfl (by simp [c46]) rfl rfl rfl (by simp [go_sem, sEv, sLook, nbeq, i64_w]) ?_
        refine rw_gval (c := false) (v := .bool (decide (b < 0))) (w' := w26) rfl rfl rfl rfl rfl rfl rfl (by simp [go_sem, sEv, sLook, nbeq, i64_w, c46]) ?_
        refine rw_gval (c := false) (v := .bool (decide (b < 0))) (w' := w26) rfl rfl rfl rfl rfl rfl rfl (by rfl) ?_
        rcases bcase (decide (b < 0)) with c51 | c51
        · refine rw_off (c := decide (b < 0)) rfl rfl rfl (by simp [c51]) rfl rfl ?_
          refine rw_off (c := decide (b < 0)) rfl rfl rfl (by simp [c51]) rfl rfl ?_
          refine rw_off (c := decide (b < 0)) rfl rfl rfl (by simp [c51]) rfl rfl ?_
          refine rw_off (c := decide (b < 0)) rfl rfl rfl (by simp [c51]) rfl rfl ?_
          refine rw_gval (c := false) (v := .bool false) (w' := w26) rfl rfl rfl rfl rfl rfl rfl (by simp [go_sem, sEv, sLook, nbeq, i64_w, c51]) ?_
          refine rw_val (v := .bool false) (w' := w26) rfl rfl rfl rfl (by simp [go_sem, sEv, sLook, nbeq, i64_w]) ?_
          refine rw_val (v := .bool false) (w' := w26) rfl rfl rfl rfl rfl ?_
          refine rw_end ?_
          refine w_weaken (G' := [(0, .int .i64 a), (1, .int .i64 b), (4, .bool false), (5, .pointer (some ⟨g20, 0, none⟩)), (6, .bool false)]) ⟨rfl, rfl, rfl, rfl, rfl, trivial⟩ ?_
          refine w_seq ?_
          refine w_draw (M := [0, 0, 0, 6, 14, 31, 0, 64, 255, 511]) (ss := [Is (.agg #[.int .i64 (wh (a / 9223372036854775808) (IntKind.u64.wrap a) (b / 9223372036854775808) (IntKind.u64.wrap b)), .int .u64 (wl (IntKind.u64.wrap a) (IntKind.u64.wrap b))]), Is (.int .i64 a), Is (.int .i64 b), Is (.int .i64 (wrap64 (a + b))), (Is (.agg #[.int .i64 ((wrap64 (a + b)) / 9223372036854775808), .int .u64 (IntKind.u64.wrap (wrap64 (a + b)))])), Is (.bool ((wh (a / 9223372036854775808) (IntKind.u64.wrap a) (b / 9223372036854775808) (IntKind.u64.wrap b)) == ((wrap64 (a + b)) / 9223372036854775808) && ((wl (IntKind.u64.wrap a) (IntKind.u64.wrap b)) == (IntKind.u64.wrap (wrap64 (a + b)))))), Is (.bool false), Is (.bool true), Is (.bool (((wh (a / 9223372036854775808) (IntKind.u64.wrap a) (b / 9223372036854775808) (IntKind.u64.wrap b)) == ((wrap64 (a + b)) / 9223372036854775808) && ((wl (IntKind.u64.wrap a) (IntKind.u64.wrap b)) == (IntKind.u64.wrap (wrap64 (a + b))))) == true)), Is (.bool (((wh (a / 9223372036854775808) (IntKind.u64.wrap a) (b / 9223372036854775808) (IntKind.u64.wrap b)) == ((wrap64 (a + b)) / 9223372036854775808) && ((wl (IntKind.u64.wrap a) (IntKind.u64.wrap b)) == (IntKind.u64.wrap (wrap64 (a + b))))) == true))]) rfl (by decide +kernel) ?_
          refine t_is (.agg #[.int .i64 (wh (a / 9223372036854775808) (IntKind.u64.wrap a) (b / 9223372036854775808) (IntKind.u64.wrap b)), .int .u64 (wl (IntKind.u64.wrap a) (IntKind.u64.wrap b))]) rfl rfl rfl rfl (fun W_ hW_ F_ => by have eb_ := (hk28.on (below_of_drew hW_)); have e0_ := eb_.cellv (i := 0) (v := (.int .i64 (wh (a / 9223372036854775808) (IntKind.u64.wrap a) (b / 9223372036854775808) (IntKind.u64.wrap b)) : Value)) rfl; have e1_ := eb_.cellv (i := 1) (v := (.int .u64 (wl (IntKind.u64.wrap a) (IntKind.u64.wrap b)) : Value)) rfl; simp [go_sem, sEv, sLook, nbeq, i64_w, e0_, e1_, Try.underlying24]) ?_
          refine t_is (.int .i64 a) rfl rfl rfl rfl (fun W_ hW_ F_ => rfl) ?_
          refine t_is (.int .i64 b) rfl rfl rfl rfl (fun W_ hW_ F_ => rfl) ?_
          refine t_is (.int .i64 (wrap64 (a + b))) rfl rfl rfl rfl (fun W_ hW_ F_ => by simp [go_sem, sEv, sLook, nbeq, i64_w]) ?_
          refine t_call (f := 14) (args := #[.int .i64 (wrap64 (a + b))]) (Is (.agg #[.int .i64 ((wrap64 (a + b)) / 9223372036854775808), .int .u64 (IntKind.u64.wrap (wrap64 (a + b)))])) rfl rfl rfl rfl (fun W_ => by simp [go_sem, sEv, sLook, nbeq, i64_w]) (fun W_ hW_ F_ => ?_) ?_
          · refine (of_calls (wrap64 (a + b)) W_).mono ?_
            rintro e_ w_ ⟨rfl, hd_⟩
            exact ⟨_, rfl, rfl, hd_⟩
          rintro _ rfl
          refine t_is (.bool ((wh (a / 9223372036854775808) (IntKind.u64.wrap a) (b / 9223372036854775808) (IntKind.u64.wrap b)) == ((wrap64 (a + b)) / 9223372036854775808) && ((wl (IntKind.u64.wrap a) (IntKind.u64.wrap b)) == (IntKind.u64.wrap (wrap64 (a + b)))))) rfl rfl rfl rfl (fun W_ hW_ F_ => by simp [go_sem, sEv, sLook, nbeq, i64_w, eqA24]) ?_
          refine t_is (.bool false) rfl rfl rfl rfl (fun W_ hW_ F_ => rfl) ?_
          refine t_is (.bool true) rfl rfl rfl rfl (fun W_ hW_ F_ => by simp [go_sem, sEv, sLook, nbeq, i64_w]) ?_
          refine t_is (.bool (((wh (a / 9223372036854775808) (IntKind.u64.wrap a) (b / 9223372036854775808) (IntKind.u64.wrap b)) == ((wrap64 (a + b)) / 9223372036854775808) && ((wl (IntKind.u64.wrap a) (IntKind.u64.wrap b)) == (IntKind.u64.wrap (wrap64 (a + b))))) == true)) rfl rfl rfl rfl (fun W_ hW_ F_ => by first | (simp [go_sem, sEv, sLook, nbeq, i64_w]; done) | (simp [go_sem, sEv, sLook, nbeq, i64_w] <;> cases h0_ : ((wh (a / 9223372036854775808) (IntKind.u64.wrap a) (b / 9223372036854775808) (IntKind.u64.wrap b)) == ((wrap64 (a + b)) / 9223372036854775808) && ((wl (IntKind.u64.wrap a) (IntKind.u64.wrap b)) == (IntKind.u64.wrap (wrap64 (a + b))))) <;> rfl)) ?_
          refine t_is (.bool (((wh (a / 9223372036854775808) (IntKind.u64.wrap a) (b / 9223372036854775808) (IntKind.u64.wrap b)) == ((wrap64 (a + b)) / 9223372036854775808) && ((wl (IntKind.u64.wrap a) (IntKind.u64.wrap b)) == (IntKind.u64.wrap (wrap64 (a + b))))) == true)) rfl rfl rfl rfl (fun W_ hW_ F_ => rfl) ?_
          refine t_end ?_
          intro w52 hb53_ F54
          have hb53 := below_of_drew hb53_
          have hs_w52 := hb53.size
          refine w_weaken (G' := [(4, .bool (((wh (a / 9223372036854775808) (IntKind.u64.wrap a) (b / 9223372036854775808) (IntKind.u64.wrap b)) == ((wrap64 (a + b)) / 9223372036854775808) && ((wl (IntKind.u64.wrap a) (IntKind.u64.wrap b)) == (IntKind.u64.wrap (wrap64 (a + b))))) == true))]) ⟨rfl, trivial⟩ ?_
          have hq55 : (((wh (a / 9223372036854775808) (IntKind.u64.wrap a) (b / 9223372036854775808) (IntKind.u64.wrap b)) == ((wrap64 (a + b)) / 9223372036854775808) && ((wl (IntKind.u64.wrap a) (IntKind.u64.wrap b)) == (IntKind.u64.wrap (wrap64 (a + b))))) == true) = true := by simp only [keep_fact a b ha hb]; first | simp [c30, c45, c46, c51] | (simp [c30, c45, c46, c51] <;> omega)
          refine w_ret (post_ret1 rfl rfl ?_)
          exact ⟨by simp only [hq55], (chain (hk27.below (by omega) (chain (chain (chain (chain (chain (chain (chain (chain (chain hb2 hb4) hb6) hb8) hb10) hb12) hb15) hb17) hb19) hb22)) hb53)⟩
        · refine rw_gval (c := decide (b < 0)) (v := .int .i64 a) (w' := w26) rfl rfl rfl (by simp [c51]) rfl rfl rfl (by rfl) ?_
          refine rw_gval (c := decide (b < 0)) (v := .int .i64 b) (w' := w26) rfl rfl rfl (by simp [c51]) rfl rfl rfl (by rfl) ?_
          refine rw_gval (c := decide (b < 0)) (v := .int .i64 (wrap64 (a + b))) (w' := w26) rfl rfl rfl (by simp [c51]) rfl rfl rfl (by simp [go_sem, sEv, sLook, nbeq, i64_w]) ?_
          refine rw_gval (c := decide (b < 0)) (v := .bool (decide (0 ≤ (wrap64 (a + b))))) (w' := w26) rfl rfl rfl (by simp [c51]) rfl rfl rfl (by simp [go_sem, sEv, sLook, nbeq, i64_w]) ?_
          refine rw_gval (c := false) (v := .bool (decide (0 ≤ (wrap64 (a + b))))) (w' := w26) rfl rfl rfl rfl rfl rfl rfl (by simp [go_sem, sEv, sLook, nbeq, i64_w, c51]) ?_
          refine rw_val (v := .bool (decide (0 ≤ (wrap64 (a + b))))) (w' := w26) rfl rfl rfl rfl (by simp [go_sem, sEv, sLook, nbeq, i64_w]) ?_
          refine rw_val (v := .bool (decide (0 ≤ (wrap64 (a + b))))) (w' := w26) rfl rfl rfl rfl rfl ?_
          refine rw_end ?_
          refine w_weaken (G' := [(0, .int .i64 a), (1, .int .i64 b), (4, .bool false), (5, .pointer (some ⟨g20, 0, none⟩)), (6, .bool (decide (0 ≤ (wrap64 (a + b)))))]) ⟨rfl, rfl, rfl, rfl, rfl, trivial⟩ ?_
          refine w_seq ?_
          refine w_draw (M := [0, 0, 0, 6, 14, 31, 0, 64, 255, 511]) (ss := [Is (.agg #[.int .i64 (wh (a / 9223372036854775808) (IntKind.u64.wrap a) (b / 9223372036854775808) (IntKind.u64.wrap b)), .int .u64 (wl (IntKind.u64.wrap a) (IntKind.u64.wrap b))]), Is (.int .i64 a), Is (.int .i64 b), Is (.int .i64 (wrap64 (a + b))), (Is (.agg #[.int .i64 ((wrap64 (a + b)) / 9223372036854775808), .int .u64 (IntKind.u64.wrap (wrap64 (a + b)))])), Is (.bool ((wh (a / 9223372036854775808) (IntKind.u64.wrap a) (b / 9223372036854775808) (IntKind.u64.wrap b)) == ((wrap64 (a + b)) / 9223372036854775808) && ((wl (IntKind.u64.wrap a) (IntKind.u64.wrap b)) == (IntKind.u64.wrap (wrap64 (a + b)))))), Is (.bool (decide (0 ≤ (wrap64 (a + b))))), Is (.bool (!(decide (0 ≤ (wrap64 (a + b)))))), Is (.bool (((wh (a / 9223372036854775808) (IntKind.u64.wrap a) (b / 9223372036854775808) (IntKind.u64.wrap b)) == ((wrap64 (a + b)) / 9223372036854775808) && ((wl (IntKind.u64.wrap a) (IntKind.u64.wrap b)) == (IntKind.u64.wrap (wrap64 (a + b))))) == (!(decide (0 ≤ (wrap64 (a + b))))))), Is (.bool (((wh (a / 9223372036854775808) (IntKind.u64.wrap a) (b / 9223372036854775808) (IntKind.u64.wrap b)) == ((wrap64 (a + b)) / 9223372036854775808) && ((wl (IntKind.u64.wrap a) (IntKind.u64.wrap b)) == (IntKind.u64.wrap (wrap64 (a + b))))) == (!(decide (0 ≤ (wrap64 (a + b)))))))]) rfl (by decide +kernel) ?_
          refine t_is (.agg #[.int .i64 (wh (a / 9223372036854775808) (IntKind.u64.wrap a) (b / 9223372036854775808) (IntKind.u64.wrap b)), .int .u64 (wl (IntKind.u64.wrap a) (IntKind.u64.wrap b))]) rfl rfl rfl rfl (fun W_ hW_ F_ => by have eb_ := (hk28.on (below_of_drew hW_)); have e0_ := eb_.cellv (i := 0) (v := (.int .i64 (wh (a / 9223372036854775808) (IntKind.u64.wrap a) (b / 9223372036854775808) (IntKind.u64.wrap b)) : Value)) rfl; have e1_ := eb_.cellv (i := 1) (v := (.int .u64 (wl (IntKind.u64.wrap a) (IntKind.u64.wrap b)) : Value)) rfl; simp [go_sem, sEv, sLook, nbeq, i64_w, e0_, e1_, Try.underlying24]) ?_
          refine t_is (.int .i64 a) rfl rfl rfl rfl (fun W_ hW_ F_ => rfl) ?_
          refine t_is (.int .i64 b) rfl rfl rfl rfl (fun W_ hW_ F_ => rfl) ?_
          refine t_is (.int .i64 (wrap64 (a + b))) rfl rfl rfl rfl (fun W_ hW_ F_ => by simp [go_sem, sEv, sLook, nbeq, i64_w]) ?_
          refine t_call (f := 14) (args := #[.int .i64 (wrap64 (a + b))]) (Is (.agg #[.int .i64 ((wrap64 (a + b)) / 9223372036854775808), .int .u64 (IntKind.u64.wrap (wrap64 (a + b)))])) rfl rfl rfl rfl (fun W_ => by simp [go_sem, sEv, sLook, nbeq, i64_w]) (fun W_ hW_ F_ => ?_) ?_
          · refine (of_calls (wrap64 (a + b)) W_).mono ?_
            rintro e_ w_ ⟨rfl, hd_⟩
            exact ⟨_, rfl, rfl, hd_⟩
          rintro _ rfl
          refine t_is (.bool ((wh (a / 9223372036854775808) (IntKind.u64.wrap a) (b / 9223372036854775808) (IntKind.u64.wrap b)) == ((wrap64 (a + b)) / 9223372036854775808) && ((wl (IntKind.u64.wrap a) (IntKind.u64.wrap b)) == (IntKind.u64.wrap (wrap64 (a + b)))))) rfl rfl rfl rfl (fun W_ hW_ F_ => by simp [go_sem, sEv, sLook, nbeq, i64_w, eqA24]) ?_
          refine t_is (.bool (decide (0 ≤ (wrap64 (a + b))))) rfl rfl rfl rfl (fun W_ hW_ F_ => rfl) ?_
          refine t_is (.bool (!(decide (0 ≤ (wrap64 (a + b)))))) rfl rfl rfl rfl (fun W_ hW_ F_ => by simp [go_sem, sEv, sLook, nbeq, i64_w]) ?_
          refine t_is (.bool (((wh (a / 9223372036854775808) (IntKind.u64.wrap a) (b / 9223372036854775808) (IntKind.u64.wrap b)) == ((wrap64 (a + b)) / 9223372036854775808) && ((wl (IntKind.u64.wrap a) (IntKind.u64.wrap b)) == (IntKind.u64.wrap (wrap64 (a + b))))) == (!(decide (0 ≤ (wrap64 (a + b))))))) rfl rfl rfl rfl (fun W_ hW_ F_ => by first | (simp [go_sem, sEv, sLook, nbeq, i64_w]; done) | (simp [go_sem, sEv, sLook, nbeq, i64_w] <;> cases h0_ : ((wh (a / 9223372036854775808) (IntKind.u64.wrap a) (b / 9223372036854775808) (IntKind.u64.wrap b)) == ((wrap64 (a + b)) / 9223372036854775808) && ((wl (IntKind.u64.wrap a) (IntKind.u64.wrap b)) == (IntKind.u64.wrap (wrap64 (a + b))))) <;> cases h1_ : (decide (0 ≤ (wrap64 (a + b)))) <;> rfl)) ?_
          refine t_is (.bool (((wh (a / 9223372036854775808) (IntKind.u64.wrap a) (b / 9223372036854775808) (IntKind.u64.wrap b)) == ((wrap64 (a + b)) / 9223372036854775808) && ((wl (IntKind.u64.wrap a) (IntKind.u64.wrap b)) == (IntKind.u64.wrap (wrap64 (a + b))))) == (!(decide (0 ≤ (wrap64 (a + b))))))) rfl rfl rfl rfl (fun W_ hW_ F_ => rfl) ?_
          refine t_end ?_
          intro w56 hb57_ F58
          have hb57 := below_of_drew hb57_
          have hs_w56 := hb57.size
          refine w_weaken (G' := [(4, .bool (((wh (a / 9223372036854775808) (IntKind.u64.wrap a) (b / 9223372036854775808) (IntKind.u64.wrap b)) == ((wrap64 (a + b)) / 9223372036854775808) && ((wl (IntKind.u64.wrap a) (IntKind.u64.wrap b)) == (IntKind.u64.wrap (wrap64 (a + b))))) == (!(decide (0 ≤ (wrap64 (a + b)))))))]) ⟨rfl, trivial⟩ ?_
          have hq59 : (((wh (a / 9223372036854775808) (IntKind.u64.wrap a) (b / 9223372036854775808) (IntKind.u64.wrap b)) == ((wrap64 (a + b)) / 9223372036854775808) && ((wl (IntKind.u64.wrap a) (IntKind.u64.wrap b)) == (IntKind.u64.wrap (wrap64 (a + b))))) == (!(decide (0 ≤ (wrap64 (a + b)))))) = true := by simp only [keep_fact a b ha hb]; first | simp [c30, c45, c46, c51] | (simp [c30, c45, c46, c51] <;> omega)
          refine w_ret (post_ret1 rfl rfl ?_)
          exact ⟨by simp only [hq59], (chain (hk27.below (by omega) (chain (chain (chain (chain (chain (chain (chain (chain (chain hb2 hb4) hb6) hb8) hb10) hb12) hb15) hb17) hb19) hb22)) hb57)⟩
    · refine rw_gval (c := decide (0 < b)) (v := .int .i64 a) (w' := w26) rfl rfl rfl (by simp [c45]) rfl rfl rfl (by rfl) ?_
      refine rw_gval (c := decide (0 < b)) (v := .int .i64 b) (w' := w26) rfl rfl rfl (by simp [c45]) rfl rfl rfl (by rfl) ?_
      refine rw_gval (c := decide (0 < b)) (v := .int .i64 (wrap64 (a + b))) (w' := w26) rfl rfl rfl (by simp [c45]) rfl rfl rfl (by simp [go_sem, sEv, sLook, nbeq, i64_w]) ?_
      refine rw_gval (c := decide (0 < b)) (v := .bool (decide ((wrap64 (a + b)) ≤ 0))) (w' := w26) rfl rfl rfl (by simp [c45]) rfl rfl rfl (by simp [go_sem, sEv, sLook, nbeq, i64_w]) ?_
      refine rw_val (v := .bool (decide ((wrap64 (a + b)) ≤ 0))) (w' := w26) rfl rfl rfl rfl (by simp [go_sem, sEv, sLook, nbeq, i64_w, c45]) ?_
      refine rw_val (v := .bool (decide ((wrap64 (a + b)) ≤ 0))) (w' := w26) rfl rfl rfl rfl rfl ?_
      rcases bcase (decide ((wrap64 (a + b)) ≤ 0)) with c60 | c60
      · refine rw_gval (c := decide ((wrap64 (a + b)) ≤ 0)) (v := .int .i64 a) (w' := w26) rfl rfl rfl (by simp [c60]) rfl rfl rfl (by rfl) ?_
        refine rw_gval (c := decide ((wrap64 (a + b)) ≤ 0)) (v := .bool (decide (a < 0))) (w' := w26) rfl rfl rfl (by simp [c60]) rfl rfl rfl (by simp [go_sem, sEv, sLook, nbeq, i64_w]) ?_
        refine rw_gval (c := decide ((wrap64 (a + b)) ≤ 0)) (v := .bool (decide (a < 0))) (w' := w26) rfl rfl rfl (by simp [c60]) rfl rfl rfl (by rfl) ?_
        rcases bcase (decide (a < 0)) with c61 | c61
        · refine rw_off (c := decide (a < 0)) rfl rfl rfl (by simp [c61]) rfl rfl ?_
          refine rw_off (c := decide (a < 0)) rfl rfl rfl (by simp [c61]) rfl rfl ?_
          refine rw_gval (c := decide ((wrap64 (a + b)) ≤ 0)) (v := .bool false) (w' := w26) rfl rfl rfl (by simp [c60]) rfl rfl rfl (by simp [go_sem, sEv, sLook, nbeq, i64_w, c61]) ?_
          refine rw_gval (c := decide ((wrap64 (a + b)) ≤ 0)) (v := .bool false) (w' := w26) rfl rfl rfl (by simp [c60]) rfl rfl rfl (by rfl) ?_
          refine rw_off (c := false) rfl rfl rfl rfl rfl rfl ?_
          refine rw_off (c := false) rfl rfl rfl rfl rfl rfl ?_
          refine rw_off (c := false) rfl rfl rfl rfl rfl rfl ?_
          refine rw_off (c := false) rfl rfl rfl rfl rfl rfl ?_
          refine rw_gval (c := decide ((wrap64 (a + b)) ≤ 0)) (v := .bool false) (w' := w26) rfl rfl rfl (by simp [c60]) rfl rfl rfl (by simp [go_sem, sEv, sLook, nbeq, i64_w]) ?_
          refine rw_val (v := .bool false) (w' := w26) rfl rfl rfl rfl (by simp [go_sem, sEv, sLook, nbeq, i64_w, c60]) ?_
          refine rw_val (v := .bool false) (w' := w26) rfl rfl rfl rfl rfl ?_
          refine rw_end ?_
          refine w_weaken (G' := [(0, .int .i64 a), (1, .int .i64 b), (4, .bool false), (5, .pointer (some ⟨g20, 0, none⟩)), (6, .bool false)]) ⟨rfl, rfl, rfl, rfl, rfl, trivial⟩ ?_
          refine w_seq ?_
          refine w_draw (M := [0, 0, 0, 6, 14, 31, 0, 64, 255, 511]) (ss := [Is (.agg #[.int .i64 (wh (a / 9223372036854775808) (IntKind.u64.wrap a) (b / 9223372036854775808) (IntKind.u64.wrap b)), .int .u64 (wl (IntKind.u64.wrap a) (IntKind.u64.wrap b))]), Is (.int .i64 a), Is (.int .i64 b), Is (.int .i64 (wrap64 (a + b))), (Is (.agg #[.int .i64 ((wrap64 (a + b)) / 9223372036854775808), .int .u64 (IntKind.u64.wrap (wrap64 (a + b)))])), Is (.bool ((wh (a / 9223372036854775808) (IntKind.u64.wrap a) (b / 9223372036854775808) (IntKind.u64.wrap b)) == ((wrap64 (a + b)) / 9223372036854775808) && ((wl (IntKind.u64.wrap a) (IntKind.u64.wrap b)) == (IntKind.u64.wrap (wrap64 (a + b)))))), Is (.bool false), Is (.bool true), Is (.bool (((wh (a / 9223372036854775808) (IntKind.u64.wrap a) (b / 9223372036854775808) (IntKind.u64.wrap b)) == ((wrap64 (a + b)) / 9223372036854775808) && ((wl (IntKind.u64.wrap a) (IntKind.u64.wrap b)) == (IntKind.u64.wrap (wrap64 (a + b))))) == true)), Is (.bool (((wh (a / 9223372036854775808) (IntKind.u64.wrap a) (b / 9223372036854775808) (IntKind.u64.wrap b)) == ((wrap64 (a + b)) / 9223372036854775808) && ((wl (IntKind.u64.wrap a) (IntKind.u64.wrap b)) == (IntKind.u64.wrap (wrap64 (a + b))))) == true))]) rfl (by decide +kernel) ?_
          refine t_is (.agg #[.int .i64 (wh (a / 9223372036854775808) (IntKind.u64.wrap a) (b / 9223372036854775808) (IntKind.u64.wrap b)), .int .u64 (wl (IntKind.u64.wrap a) (IntKind.u64.wrap b))]) rfl rfl rfl rfl (fun W_ hW_ F_ => by have eb_ := (hk28.on (below_of_drew hW_)); have e0_ := eb_.cellv (i := 0) (v := (.int .i64 (wh (a / 9223372036854775808) (IntKind.u64.wrap a) (b / 9223372036854775808) (IntKind.u64.wrap b)) : Value)) rfl; have e1_ := eb_.cellv (i := 1) (v := (.int .u64 (wl (IntKind.u64.wrap a) (IntKind.u64.wrap b)) : Value)) rfl; simp [go_sem, sEv, sLook, nbeq, i64_w, e0_, e1_, Try.underlying24]) ?_
          refine t_is (.int .i64 a) rfl rfl rfl rfl (fun W_ hW_ F_ => rfl) ?_
          refine t_is (.int .i64 b) rfl rfl rfl rfl (fun W_ hW_ F_ => rfl) ?_
          refine t_is (.int .i64 (wrap64 (a + b))) rfl rfl rfl rfl (fun W_ hW_ F_ => by simp [go_sem, sEv, sLook, nbeq, i64_w]) ?_
          refine t_call (f := 14) (args := #[.int .i64 (wrap64 (a + b))]) (Is (.agg #[.int .i64 ((wrap64 (a + b)) / 9223372036854775808), .int .u64 (IntKind.u64.wrap (wrap64 (a + b)))])) rfl rfl rfl rfl (fun W_ => by simp [go_sem, sEv, sLook, nbeq, i64_w]) (fun W_ hW_ F_ => ?_) ?_
          · refine (of_calls (wrap64 (a + b)) W_).mono ?_
            rintro e_ w_ ⟨rfl, hd_⟩
            exact ⟨_, rfl, rfl, hd_⟩
          rintro _ rfl
          refine t_is (.bool ((wh (a / 9223372036854775808) (IntKind.u64.wrap a) (b / 9223372036854775808) (IntKind.u64.wrap b)) == ((wrap64 (a + b)) / 9223372036854775808) && ((wl (IntKind.u64.wrap a) (IntKind.u64.wrap b)) == (IntKind.u64.wrap (wrap64 (a + b)))))) rfl rfl rfl rfl (fun W_ hW_ F_ => by simp [go_sem, sEv, sLook, nbeq, i64_w, eqA24]) ?_
          refine t_is (.bool false) rfl rfl rfl rfl (fun W_ hW_ F_ => rfl) ?_
          refine t_is (.bool true) rfl rfl rfl rfl (fun W_ hW_ F_ => by simp [go_sem, sEv, sLook, nbeq, i64_w]) ?_
          refine t_is (.bool (((wh (a / 9223372036854775808) (IntKind.u64.wrap a) (b / 9223372036854775808) (IntKind.u64.wrap b)) == ((wrap64 (a + b)) / 9223372036854775808) && ((wl (IntKind.u64.wrap a) (IntKind.u64.wrap b)) == (IntKind.u64.wrap (wrap64 (a + b))))) == true)) rfl rfl rfl rfl (fun W_ hW_ F_ => by first | (simp [go_sem, sEv, sLook, nbeq, i64_w]; done) | (simp [go_sem, sEv, sLook, nbeq, i64_w] <;> cases h0_ : ((wh (a / 9223372036854775808) (IntKind.u64.wrap a) (b / 9223372036854775808) (IntKind.u64.wrap b)) == ((wrap64 (a + b)) / 9223372036854775808) && ((wl (IntKind.u64.wrap a) (IntKind.u64.wrap b)) == (IntKind.u64.wrap (wrap64 (a + b))))) <;> rfl)) ?_
          refine t_is (.bool (((wh (a / 9223372036854775808) (IntKind.u64.wrap a) (b / 9223372036854775808) (IntKind.u64.wrap b)) == ((wrap64 (a + b)) / 9223372036854775808) && ((wl (IntKind.u64.wrap a) (IntKind.u64.wrap b)) == (IntKind.u64.wrap (wrap64 (a + b))))) == true)) rfl rfl rfl rfl (fun W_ hW_ F_ => rfl) ?_
          refine t_end ?_
          intro w62 hb63_ F64
          have hb63 := below_of_drew hb63_
          have hs_w62 := hb63.size
          refine w_weaken (G' := [(4, .bool (((wh (a / 9223372036854775808) (IntKind.u64.wrap a) (b / 9223372036854775808) (IntKind.u64.wrap b)) == ((wrap64 (a + b)) / 9223372036854775808) && ((wl (IntKind.u64.wrap a) (IntKind.u64.wrap b)) == (IntKind.u64.wrap (wrap64 (a + b))))) == true))]) ⟨rfl, trivial⟩ ?_
          have hq65 : (((wh (a / 9223372036854775808) (IntKind.u64.wrap a) (b / 9223372036854775808) (IntKind.u64.wrap b)) == ((wrap64 (a + b)) / 9223372036854775808) && ((wl (IntKind.u64.wrap a) (IntKind.u64.wrap b)) == (IntKind.u64.wrap (wrap64 (a + b))))) == true) = true := by simp only [keep_fact a b ha hb]; first | simp [c30, c45, c60, c61] | (simp [c30, c45, c60, c61] <;> omega)
          refine w_ret (post_ret1 rfl rfl ?_)
          exact ⟨by simp only [hq65], (chain (hk27.below (by omega) (chain (chain (chain (chain (chain (chain (chain (chain (chain hb2 hb4) hb6) hb8) hb10) hb12) hb15) hb17) hb19) hb22)) hb63)⟩
        · refine rw_gval (c := decide (a < 0)) (v := .int .i64 b) (w' := w26) rfl rfl rfl (by simp [c61]) rfl rfl rfl (by rfl) ?_
          refine rw_gval (c := decide (a < 0)) (v := .bool (decide (b < 0))) (w' := w26) rfl rfl rfl (by simp [c61]) rfl rfl rfl (by simp [go_sem, sEv, sLook, nbeq, i64_w]) ?_
          refine rw_gval (c := decide ((wrap64 (a + b)) ≤ 0)) (v := .bool (decide (b < 0))) (w' := w26) rfl rfl rfl (by simp [c60]) rfl rfl rfl (by simp [go_sem, sEv, sLook, nbeq, i64_w, c61]) ?_
          refine rw_gval (c := decide ((wrap64 (a + b)) ≤ 0)) (v := .bool (decide (b < 0))) (w' := w26) rfl rfl rfl (by simp [c60]) rfl rfl rfl (by rfl) ?_
          rcases bcase (decide (b < 0)) with c66 | c66
          · refine rw_off (c := decide (b < 0)) rfl rfl rfl (by simp [c66]) rfl rfl ?_
            refine rw_off (c := decide (b < 0)) rfl rfl rfl (by simp [c66]) rfl rfl ?_
            refine rw_off (c := decide (b < 0)) rfl rfl rfl (by simp [c66]) rfl rfl ?_
            refine rw_off (c := decide (b < 0)) rfl rfl rfl (by simp [c66]) rfl rfl ?_
            refine rw_gval (c := decide ((wrap64 (a + b)) ≤ 0)) (v := .bool false) (w' := w26) rfl rfl rfl (by simp [c60]) rfl rfl rfl (by simp [go_sem, sEv, sLook, nbeq, i64_w, c66]) ?_
            refine rw_val (v := .bool false) (w' := w26) rfl rfl rfl rfl (by simp [go_sem, sEv, sLook, nbeq, i64_w, c60]) ?_
            refine rw_val (v := .bool false) (w' := w26) rfl rfl rfl rfl rfl ?_
            refine rw_end ?_
            refine w_weaken (G' := [(0, .int .i64 a), (1, .int .i64 b), (4, .bool false), (5, .pointer (some ⟨g20, 0, none⟩)), (6, .bool false)]) ⟨rfl, rfl, rfl, rfl, rfl, trivial⟩ ?_
            refine w_seq ?_
            refine w_draw (M := [0, 0, 0, 6, 14, 31, 0, 64, 255, 511]) (ss := [Is (.agg #[.int .i64 (wh (a / 9223372036854775808) (IntKind.u64.wrap a) (b / 9223372036854775808) (IntKind.u64.wrap b)), .int .u64 (wl (IntKind.u64.wrap a) (IntKind.u64.wrap b))]), Is (.int .i64 a), Is (.int .i64 b), Is (.int .i64 (wrap64 (a + b))), (Is (.agg #[.int .i64 ((wrap64 (a + b)) / 9223372036854775808), .int .u64 (IntKind.u64.wrap (wrap64 (a + b)))])), Is (.bool ((wh (a / 9223372036854775808) (IntKind.u64.wrap a) (b / 9223372036854775808) (IntKind.u64.wrap b)) == ((wrap64 (a + b)) / 9223372036854775808) && ((wl (IntKind.u64.wrap a) (IntKind.u64.wrap b)) == (IntKind.u64.wrap (wrap64 (a + b)))))), Is (.bool false), Is (.bool true), Is (.bool (((wh (a / 9223372036854775808) (IntKind.u64.wrap a) (b / 9223372036854775808) (IntKind.u64.wrap b)) == ((wrap64 (a + b)) / 9223372036854775808) && ((wl (IntKind.u64.wrap a) (IntKind.u64.wrap b)) == (IntKind.u64.wrap (wrap64 (a + b))))) == true)), Is (.bool (((wh (a / 9223372036854775808) (IntKind.u64.wrap a) (b / 9223372036854775808) (IntKind.u64.wrap b)) == ((wrap64 (a + b)) / 9223372036854775808) && ((wl (IntKind.u64.wrap a) (IntKind.u64.wrap b)) == (IntKind.u64.wrap (wrap64 (a + b))))) == true))]) rfl (by decide +kernel) ?_
            refine t_is (.agg #[.int .i64 (wh (a / 9223372036854775808) (IntKind.u64.wrap a) (b / 9223372036854775808) (IntKind.u64.wrap b)), .int .u64 (wl (IntKind.u64.wrap a) (IntKind.u64.wrap b))]) rfl rfl rfl rfl (fun W_ hW_ F_ => by have eb_ := (hk28.on (below_of_drew hW_)); have e0_ := eb_.cellv (i := 0) (v := (.int .i64 (wh (a / 9223372036854775808) (IntKind.u64.wrap a) (b / 9223372036854775808) (IntKind.u64.wrap b)) : Value)) rfl; have e1_ := eb_.cellv (i := 1) (v := (.int .u64 (wl (IntKind.u64.wrap a) (IntKind.u64.wrap b)) : Value)) rfl; simp [go_sem, sEv, sLook, nbeq, i64_w, e0_, e1_, Try.underlying24]) ?_
            refine t_is (.int .i64 a) rfl rfl rfl rfl (fun W_ hW_ F_ => rfl) ?_
            refine t_is (.int .i64 b) rfl rfl rfl rfl (fun W_ hW_ F_ => rfl) ?_
            refine t_is (.int .i64 (wrap64 (a + b))) rfl rfl rfl rfl (fun W_ hW_ F_ => by simp [go_sem, sEv, sLook, nbeq, i64_w]) ?_
            refine t_call (f := 14) (args := #[.int .i64 (wrap64 (a + b))]) (Is (.agg #[.int .i64 ((wrap64 (a + b)) / 9223372036854775808), .int .u64 (IntKind.u64.wrap (wrap64 (a + b)))])) rfl rfl rfl rfl (fun W_ => by simp [go_sem, sEv, sLook, nbeq, i64_w]) (fun W_ hW_ F_ => ?_) ?_
            · refine (of_calls (wrap64 (a + b)) W_).mono ?_
              rintro e_ w_ ⟨rfl, hd_⟩
              exact ⟨_, rfl, rfl, hd_⟩
            rintro _ rfl
            refine t_is (.bool ((wh (a / 9223372036854775808) (IntKind.u64.wrap a) (b / 9223372036854775808) (IntKind.u64.wrap b)) == ((wrap64 (a + b)) / 9223372036854775808) && ((wl (IntKind.u64.wrap a) (IntKind.u64.wrap b)) == (IntKind.u64.wrap (wrap64 (a + b)))))) rfl rfl rfl rfl (fun W_ hW_ F_ => by simp [go_sem, sEv, sLook, nbeq, i64_w, eqA24]) ?_
            refine t_is (.bool false) rfl rfl rfl rfl (fun W_ hW_ F_ => rfl) ?_
            refine t_is (.bool true) rfl rfl rfl rfl (fun W_ hW_ F_ => by simp [go_sem, sEv, sLook, nbeq, i64_w]) ?_
            refine t_is (.bool (((wh (a / 9223372036854775808) (IntKind.u64.wrap a) (b / 9223372036854775808) (IntKind.u64.wrap b)) == ((wrap64 (a + b)) / 9223372036854775808) && ((wl (IntKind.u64.wrap a) (IntKind.u64.wrap b)) == (IntKind.u64.wrap (wrap64 (a + b))))) == true)) rfl rfl rfl rfl (fun W_ hW_ F_ => by first | (simp [go_sem, sEv, sLook, nbeq, i64_w]; done) | (simp [go_sem, sEv, sLook, nbeq, i64_w] <;> cases h0_ : ((wh (a / 9223372036854775808) (IntKind.u64.wrap a) (b / 9223372036854775808) (IntKind.u64.wrap b)) == ((wrap64 (a + b)) / 9223372036854775808) && ((wl (IntKind.u64.wrap a) (IntKind.u64.wrap b)) == (IntKind.u64.wrap (wrap64 (a + b))))) <;> rfl)) ?_
            refine t_is (.bool (((wh (a / 9223372036854775808) (IntKind.u64.wrap a) (b / 9223372036854775808) (IntKind.u64.wrap b)) == ((wrap64 (a + b)) / 9223372036854775808) && ((wl (IntKind.u64.wrap a) (IntKind.u64.wrap b)) == (IntKind.u64.wrap (wrap64 (a + b))))) == true)) rfl rfl rfl rfl (fun W_ hW_ F_ => rfl) ?_
            refine t_end ?_
            intro w67 hb68_ F69
            have hb68 := below_of_drew hb68_
            have hs_w67 := hb68.size
            refine w_weaken (G' := [(4, .bool (((wh (a / 9223372036854775808) (IntKind.u64.wrap a) (b / 9223372036854775808) (IntKind.u64.wrap b)) == ((wrap64 (a + b)) / 9223372036854775808) && ((wl (IntKind.u64.wrap a) (IntKind.u64.wrap b)) == (IntKind.u64.wrap (wrap64 (a + b))))) == true))]) ⟨rfl, trivial⟩ ?_
            have hq70 : (((wh (a / 9223372036854775808) (IntKind.u64.wrap a) (b / 9223372036854775808) (IntKind.u64.wrap b)) == ((wrap64 (a + b)) / 9223372036854775808) && ((wl (IntKind.u64.wrap a) (IntKind.u64.wrap b)) == (IntKind.u64.wrap (wrap64 (a + b))))) == true) = true := by simp only [keep_fact a b ha hb]; first | simp [c30, c45, c60, c61, c66] | (simp [c30, c45, c60, c61, c66] <;> omega)
            refine w_ret (post_ret1 rfl rfl ?_)
            exact ⟨by simp only [hq70], (chain (hk27.below (by omega) (chain (chain (chain (chain (chain (chain (chain (chain (chain hb2 hb4) hb6) hb8) hb10) hb12) hb15) hb17) hb19) hb22)) hb68)⟩
          · refine rw_gval (c := decide (b < 0)) (v := .int .i64 a) (w' := w26) rfl rfl rfl (by simp [c66]) rfl rfl rfl (by rfl) ?_
            refine rw_gval (c := decide (b < 0)) (v := .int .i64 b) (w' := w26) rfl rfl rfl (by simp [c66]) rfl rfl rfl (by rfl) ?_
            refine rw_gval (c := decide (b < 0)) (v := .int .i64 (wrap64 (a + b))) (w' := w26) rfl rfl rfl (by simp [c66]) rfl rfl rfl (by simp [go_sem, sEv, sLook, nbeq, i64_w]) ?_
            refine rw_gval (c := decide (b < 0)) (v := .bool (decide (0 ≤ (wrap64 (a + b))))) (w' := w26) rfl rfl rfl (by simp [c66]) rfl rfl rfl (by simp [go_sem, sEv, sLook, nbeq, i64_w]) ?_
            refine rw_gval (c := decide ((wrap64 (a + b)) ≤ 0)) (v := .bool (decide (0 ≤ (wrap64 (a + b))))) (w' := w26) rfl rfl rfl (by simp [c60]) rfl rfl rfl (by simp [go_sem, sEv, sLook, nbeq, i64_w, c66]) ?_
            refine rw_val (v := .bool (decide (0 ≤ (wrap64 (a + b))))) (w' := w26) rfl rfl rfl rfl (by simp [go_sem, sEv, sLook, nbeq, i64_w, c60]) ?_
            refine rw_val (v := .bool (decide (0 ≤ (wrap64 (a + b))))) (w' := w26) rfl rfl rfl rfl rfl ?_
            refine rw_end ?_
            refine w_weaken (G' := [(0, .int .i64 a), (1, .int .i64 b), (4, .bool false), (5, .pointer (some ⟨g20, 0, none⟩)), (6, .bool (decide (0 ≤ (wrap64 (a + b)))))]) ⟨rfl, rfl, rfl, rfl, rfl, trivial⟩ ?_
            refine w_seq ?_
            refine w_draw (M := [0, 0, 0, 6, 14, 31, 0, 64, 255, 511]) (ss := [Is (.agg #[.int .i64 (wh (a / 9223372036854775808) (IntKind.u64.wrap a) (b / 9223372036854775808) (IntKind.u64.wrap b)), .int .u64 (wl (IntKind.u64.wrap a) (IntKind.u64.wrap b))]), Is (.int .i64 a), Is (.int .i64 b), Is (.int .i64 (wrap64 (a + b))), (Is (.agg #[.int .i64 ((wrap64 (a + b)) / 9223372036854775808), .int .u64 (IntKind.u64.wrap (wrap64 (a + b)))])), Is (.bool ((wh (a / 9223372036854775808) (IntKind.u64.wrap a) (b / 9223372036854775808) (IntKind.u64.wrap b)) == ((wrap64 (a + b)) / 9223372036854775808) && ((wl (IntKind.u64.wrap a) (IntKind.u64.wrap b)) == (IntKind.u64.wrap (wrap64 (a + b)))))), Is (.bool (decide (0 ≤ (wrap64 (a + b))))), Is (.bool (!(decide (0 ≤ (wrap64 (a + b)))))), Is (.bool (((wh (a / 9223372036854775808) (IntKind.u64.wrap a) (b / 9223372036854775808) (IntKind.u64.wrap b)) == ((wrap64 (a + b)) / 9223372036854775808) && ((wl (IntKind.u64.wrap a) (IntKind.u64.wrap b)) == (IntKind.u64.wrap (wrap64 (a + b))))) == (!(decide (0 ≤ (wrap64 (a + b))))))), Is (.bool (((wh (a / 9223372036854775808) (IntKind.u64.wrap a) (b / 9223372036854775808) (IntKind.u64.wrap b)) == ((wrap64 (a + b)) / 9223372036854775808) && ((wl (IntKind.u64.wrap a) (IntKind.u64.wrap b)) == (IntKind.u64.wrap (wrap64 (a + b))))) == (!(decide (0 ≤ (wrap64 (a + b)))))))]) rfl (by decide +kernel) ?_
            refine t_is (.agg #[.int .i64 (wh (a / 9223372036854775808) (IntKind.u64.wrap a) (b / 9223372036854775808) (IntKind.u64.wrap b)), .int .u64 (wl (IntKind.u64.wrap a) (IntKind.u64.wrap b))]) rfl rfl rfl rfl (fun W_ hW_ F_ => by have eb_ := (hk28.on (below_of_drew hW_)); have e0_ := eb_.cellv (i := 0) (v := (.int .i64 (wh (a / 9223372036854775808) (IntKind.u64.wrap a) (b / 9223372036854775808) (IntKind.u64.wrap b)) : Value)) rfl; have e1_ := eb_.cellv (i := 1) (v := (.int .u64 (wl (IntKind.u64.wrap a) (IntKind.u64.wrap b)) : Value)) rfl; simp [go_sem, sEv, sLook, nbeq, i64_w, e0_, e1_, Try.underlying24]) ?_
            refine t_is (.int .i64 a) rfl rfl rfl rfl (fun W_ hW_ F_ => rfl) ?_
            refine t_is (.int .i64 b) rfl rfl rfl rfl (fun W_ hW_ F_ => rfl) ?_
            refine t_is (.int .i64 (wrap64 (a + b))) rfl rfl rfl rfl (fun W_ hW_ F_ => by simp [go_sem, sEv, sLook, nbeq, i64_w]) ?_
            refine t_call (f := 14) (args := #[.int .i64 (wrap64 (a + b))]) (Is (.agg #[.int .i64 ((wrap64 (a + b)) / 9223372036854775808), .int .u64 (IntKind.u64.wrap (wrap64 (a + b)))])) rfl rfl rfl rfl (fun W_ => by simp [go_sem, sEv, sLook, nbeq, i64_w]) (fun W_ hW_ F_ => ?_) ?_
            · refine (of_calls (wrap64 (a + b)) W_).mono ?_
              rintro e_ w_ ⟨rfl, hd_⟩
              exact ⟨_, rfl, rfl, hd_⟩
            rintro _ rfl
            refine t_is (.bool ((wh (a / 9223372036854775808) (IntKind.u64.wrap a) (b / 9223372036854775808) (IntKind.u64.wrap b)) == ((wrap64 (a + b)) / 9223372036854775808) && ((wl (IntKind.u64.wrap a) (IntKind.u64.wrap b)) == (IntKind.u64.wrap (wrap64 (a + b)))))) rfl rfl rfl rfl (fun W_ hW_ F_ => by simp [go_sem, sEv, sLook, nbeq, i64_w, eqA24]) ?_
            refine t_is (.bool (decide (0 ≤ (wrap64 (a + b))))) rfl rfl rfl rfl (fun W_ hW_ F_ => rfl) ?_
            refine t_is (.bool (!(decide (0 ≤ (wrap64 (a + b)))))) rfl rfl rfl rfl (fun W_ hW_ F_ => by simp [go_sem, sEv, sLook, nbeq, i64_w]) ?_
            refine t_is (.bool (((wh (a / 9223372036854775808) (IntKind.u64.wrap a) (b / 9223372036854775808) (IntKind.u64.wrap b)) == ((wrap64 (a + b)) / 9223372036854775808) && ((wl (IntKind.u64.wrap a) (IntKind.u64.wrap b)) == (IntKind.u64.wrap (wrap64 (a + b))))) == (!(decide (0 ≤ (wrap64 (a + b))))))) rfl rfl rfl rfl (fun W_ hW_ F_ => by first | (simp [go_sem, sEv, sLook, nbeq, i64_w]; done) | (simp [go_sem, sEv, sLook, nbeq, i64_w] <;> cases h0_ : ((wh (a / 9223372036854775808) (IntKind.u64.wrap a) (b / 9223372036854775808) (IntKind.u64.wrap b)) == ((wrap64 (a + b)) / 9223372036854775808) && ((wl (IntKind.u64.wrap a) (IntKind.u64.wrap b)) == (IntKind.u64.wrap (wrap64 (a + b))))) <;> cases h1_ : (decide (0 ≤ (wrap64 (a + b)))) <;> rfl)) ?_
            refine t_is (.bool (((wh (a / 9223372036854775808) (IntKind.u64.wrap a) (b / 9223372036854775808) (IntKind.u64.wrap b)) == ((wrap64 (a + b)) / 9223372036854775808) && ((wl (IntKind.u64.wrap a) (IntKind.u64.wrap b)) == (IntKind.u64.wrap (wrap64 (a + b))))) == (!(decide (0 ≤ (wrap64 (a + b))))))) rfl rfl rfl rfl (fun W_ hW_ F_ => rfl) ?_
            refine t_end ?_
            intro w71 hb72_ F73
            have hb72 := below_of_drew hb72_
            have hs_w71 := hb72.size
            refine w_weaken (G' := [(4, .bool (((wh (a / 9223372036854775808) (IntKind.u64.wrap a) (b / 9223372036854775808) (IntKind.u64.wrap b)) == ((wrap64 (a + b)) / 9223372036854775808) && ((wl (IntKind.u64.wrap a) (IntKind.u64.wrap b)) == (IntKind.u64.wrap (wrap64 (a + b))))) == (!(decide (0 ≤ (wrap64 (a + b)))))))]) ⟨rfl, trivial⟩ ?_
            have hq74 : (((wh (a / 9223372036854775808) (IntKind.u64.wrap a) (b / 9223372036854775808) (IntKind.u64.wrap b)) == ((wrap64 (a + b)) / 9223372036854775808) && ((wl (IntKind.u64.wrap a) (IntKind.u64.wrap b)) == (IntKind.u64.wrap (wrap64 (a + b))))) == (!(decide (0 ≤ (wrap64 (a + b)))))) = true := by simp only [keep_fact a b ha hb]; first | simp [c30, c45, c60, c61, c66] | (simp [c30, c45, c60, c61, c66] <;> omega)
            refine w_ret (post_ret1 rfl rfl ?_)
            exact ⟨by simp only [hq74], (chain (hk27.below (by omega) (chain (chain (chain (chain (chain (chain (chain (chain (chain hb2 hb4) hb6) hb8) hb10) hb12) hb15) hb17) hb19) hb22)) hb72)⟩
      · refine rw_off (c := decide ((wrap64 (a + b)) ≤ 0)) rfl rfl rfl (by simp [c60]) rfl rfl ?_
        refine rw_off (c := decide ((wrap64 (a + b)) ≤ 0)) rfl rfl rfl (by simp [c60]) rfl rfl ?_
        refine rw_off (c := decide ((wrap64 (a + b)) ≤ 0)) rfl rfl rfl (by simp [c60]) rfl rfl ?_
        refine rw_offu rfl rfl rfl rfl rfl ?_
        refine rw_offu rfl rfl rfl rfl rfl ?_
        refine rw_off (c := decide ((wrap64 (a + b)) ≤ 0)) rfl rfl rfl (by simp [c60]) rfl rfl ?_
        refine rw_off (c := decide ((wrap64 (a + b)) ≤ 0)) rfl rfl rfl (by simp [c60]) rfl rfl ?_
        refine rw_offu rfl rfl rfl rfl rfl ?_
        refine rw_offu rfl rfl rfl rfl rfl ?_
        refine rw_offu rfl rfl rfl rfl rfl ?_
        refine rw_offu rfl rfl rfl rfl rfl ?_
        refine rw_off (c := decide ((wrap64 (a + b)) ≤ 0)) rfl rfl rfl (by simp [c60]) rfl rfl ?_
        refine rw_val (v := .bool true) (w' := w26) rfl rfl rfl rfl (by simp [go_sem, sEv, sLook, nbeq, i64_w, c60]) ?_
        refine rw_val (v := .bool true) (w' := w26) rfl rfl rfl rfl rfl ?_
        refine rw_end ?_
        refine w_weaken (G' := [(0, .int .i64 a), (1, .int .i64 b), (4, .bool false), (5, .pointer (some ⟨g20, 0, none⟩)), (6, .bool true)]) ⟨rfl, rfl, rfl, rfl, rfl, trivial⟩ ?_
        refine w_seq ?_
        refine w_draw (M := [0, 0, 0, 6, 14, 31, 0, 64, 255, 511]) (ss := [Is (.agg #[.int .i64 (wh (a / 9223372036854775808) (IntKind.u64.wrap a) (b / 9223372036854775808) (IntKind.u64.wrap b)), .int .u64 (wl (IntKind.u64.wrap a) (IntKind.u64.wrap b))]), Is (.int .i64 a), Is (.int .i64 b), Is (.int .i64 (wrap64 (a + b))), (Is (.agg #[.int .i64 ((wrap64 (a + b)) / 9223372036854775808), .int .u64 (IntKind.u64.wrap (wrap64 (a + b)))])), Is (.bool ((wh (a / 9223372036854775808) (IntKind.u64.wrap a) (b / 9223372036854775808) (IntKind.u64.wrap b)) == ((wrap64 (a + b)) / 9223372036854775808) && ((wl (IntKind.u64.wrap a) (IntKind.u64.wrap b)) == (IntKind.u64.wrap (wrap64 (a + b)))))), Is (.bool true), Is (.bool false), Is (.bool (((wh (a / 9223372036854775808) (IntKind.u64.wrap a) (b / 9223372036854775808) (IntKind.u64.wrap b)) == ((wrap64 (a + b)) / 9223372036854775808) && ((wl (IntKind.u64.wrap a) (IntKind.u64.wrap b)) == (IntKind.u64.wrap (wrap64 (a + b))))) == false)), Is (.bool (((wh (a / 9223372036854775808) (IntKind.u64.wrap a) (b / 9223372036854775808) (IntKind.u64.wrap b)) == ((wrap64 (a + b)) / 9223372036854775808) && ((wl (IntKind.u64.wrap a) (IntKind.u64.wrap b)) == (IntKind.u64.wrap (wrap64 (a + b))))) == false))]) rfl (by decide +kernel) ?_
        refine t_is (.agg #[.int .i64 (wh (a / 9223372036854775808) (IntKind.u64.wrap a) (b / 9223372036854775808) (IntKind.u64.wrap b)), .int .u64 (wl (IntKind.u64.wrap a) (IntKind.u64.wrap b))]) rfl rfl rfl rfl (fun W_ hW_ F_ => by have eb_ := (hk28.on (below_of_drew hW_)); have e0_ := eb_.cellv (i := 0) (v := (.int .i64 (wh (a / 9223372036854775808) (IntKind.u64.wrap a) (b / 9223372036854775808) (IntKind.u64.wrap b)) : Value)) rfl; have e1_ := eb_.cellv (i := 1) (v := (.int .u64 (wl (IntKind.u64.wrap a) (IntKind.u64.wrap b)) : Value)) rfl; simp [go_sem, sEv, sLook, nbeq, i64_w, e0_, e1_, Try.underlying24]) ?_
        refine t_is (.int .i64 a) rfl rfl rfl rfl (fun W_ hW_ F_ => rfl) ?_
        refine t_is (.int .i64 b) rfl rfl rfl rfl (fun W_ hW_ F_ => rfl) ?_
        refine t_is (.int .i64 (wrap64 (a + b))) rfl rfl rfl rfl (fun W_ hW_ F_ => by simp [go_sem, sEv, sLook, nbeq, i64_w]) ?_
        refine t_call (f := 14) (args := #[.int .i64 (wrap64 (a + b))]) (Is (.agg #[.int .i64 ((wrap64 (a + b)) / 9223372036854775808), .int .u64 (IntKind.u64.wrap (wrap64 (a + b)))])) rfl rfl rfl rfl (fun W_ => by simp [go_sem, sEv, sLook, nbeq, i64_w]) (fun W_ hW_ F_ => ?_) ?_
        · refine (of_calls (wrap64 (a + b)) W_).mono ?_
          rintro e_ w_ ⟨rfl, hd_⟩
          exact ⟨_, rfl, rfl, hd_⟩
        rintro _ rfl
        refine t_is (.bool ((wh (a / 9223372036854775808) (IntKind.u64.wrap a) (b / 9223372036854775808) (IntKind.u64.wrap b)) == ((wrap64 (a + b)) / 9223372036854775808) && ((wl (IntKind.u64.wrap a) (IntKind.u64.wrap b)) == (IntKind.u64.wrap (wrap64 (a + b)))))) rfl rfl rfl rfl (fun W_ hW_ F_ => by simp [go_sem, sEv, sLook, nbeq, i64_w, eqA24]) ?_
        refine t_is (.bool true) rfl rfl rfl rfl (fun W_ hW_ F_ => rfl) ?_
        refine t_is (.bool false) rfl rfl rfl rfl (fun W_ hW_ F_ => by simp [go_sem, sEv, sLook, nbeq, i64_w]) ?_
        refine t_is (.bool (((wh (a / 9223372036854775808) (IntKind.u64.wrap a) (b / 9223372036854775808) (IntKind.u64.wrap b)) == ((wrap64 (a + b)) / 9223372036854775808) && ((wl (IntKind.u64.wrap a) (IntKind.u64.wrap b)) == (IntKind.u64.wrap (wrap64 (a + b))))) == false)) rfl rfl rfl rfl (fun W_ hW_ F_ => by first | (simp [go_sem, sEv, sLook, nbeq, i64_w]; done) | (simp [go_sem, sEv, sLook, nbeq, i64_w] <;> cases h0_ : ((wh (a / 9223372036854775808) (IntKind.u64.wrap a) (b / 9223372036854775808) (IntKind.u64.wrap b)) == ((wrap64 (a + b)) / 9223372036854775808) && ((wl (IntKind.u64.wrap a) (IntKind.u64.wrap b)) == (IntKind.u64.wrap (wrap64 (a + b))))) <;> rfl)) ?_
        refine t_is (.bool (((wh (a / 9223372036854775808) (IntKind.u64.wrap a) (b / 9223372036854775808) (IntKind.u64.wrap b)) == ((wrap64 (a + b)) / 9223372036854775808) && ((wl (IntKind.u64.wrap a) (IntKind.u64.wrap b)) == (IntKind.u64.wrap (wrap64 (a + b))))) == false)) rfl rfl rfl rfl (fun W_ hW_ F_ => rfl) ?_
        refine t_end ?_
        intro w75 hb76_ F77
        have hb76 := below_of_drew hb76_
        have hs_w75 := hb76.size
        refine w_weaken (G' := [(4, .bool (((wh (a / 9223372036854775808) (IntKind.u64.wrap a) (b / 9223372036854775808) (IntKind.u64.wrap b)) == ((wrap64 (a + b)) / 9223372036854775808) && ((wl (IntKind.u64.wrap a) (IntKind.u64.wrap b)) == (IntKind.u64.wrap (wrap64 (a + b))))) == false))]) ⟨rfl, trivial⟩ ?_
        have hq78 : (((wh (a / 9223372036854775808) (IntKind.u64.wrap a) (b / 9223372036854775808) (IntKind.u64.wrap b)) == ((wrap64 (a + b)) / 9223372036854775808) && ((wl (IntKind.u64.wrap a) (IntKind.u64.wrap b)) == (IntKind.u64.wrap (wrap64 (a + b))))) == false) = true := by simp only [keep_fact a b ha hb]; first | simp [c30, c45, c60] | (simp [c30, c45, c60] <;> omega)
        refine w_ret (post_ret1 rfl rfl ?_)
        exact ⟨by simp only [hq78], (chain (hk27.below (by omega) (chain (chain (chain (chain (chain (chain (chain (chain (chain hb2 hb4) hb6) hb8) hb10) hb12) hb15) hb17) hb19) hb22)) hb76)⟩
end Go.Proofs.Ythhepaikogcddaa.PFloorGroup
