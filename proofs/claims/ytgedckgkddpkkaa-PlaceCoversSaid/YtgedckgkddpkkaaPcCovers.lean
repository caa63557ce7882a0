/- What is covered stays covered: the walks. -/
import Derived.Test.YtgedckgkddpkkaaPcUp
import Derived.Test.YtgedckgkddpkkaaFlowX
namespace Go.Proofs.Ytgedckgkddpkkaa.PPlaceCells
open Go.RowKit Go.Proofs.YtgedckgkddpkkaaW.PrintWords Go.Proofs.YtgedckgkddpkkaaW.PrintLast Go.Proofs.YtgedckgkddpkkaaW.PrintMore
open Go.Proofs.Ytgedckgkddpkkaa.Flow
set_option linter.unusedVariables false
set_option linter.unusedSimpArgs false

set_option maxHeartbeats 4000000 in
theorem after_calls (w : World) (p : S29) (hp : In29 p) :
    Calls Try.prog 19 #[.agg #[.int .i64 p.f0, .int .i64 p.f1]] w fun e w' => ∃ b : Bool, e = .returned (.tuple #[.agg #[.int .i64 (nxtS p).f0, .int .i64 (nxtS p).f1], .bool b]) ∧ Below w.heap.size w w' := by
  refine calls_flow Try.func19 rfl 23 rfl (Nat.le_of_ble_eq_true rfl) [(0, .agg #[.int .i64 p.f0, .int .i64 p.f1])] ?_ ?_
  · intro t v h; exact args_look rfl t v h
  refine w_seq ?_
  refine w_region ?_
  refine rw_new (cs := #[.int .i64 p.f0, .int .i64 p.f1]) (t := 29) (fun g => .pointer (some ⟨g, 0, none⟩)) rfl rfl rfl rfl (by simp [go_sem, sEv, sLook, nbeq, i64_w]) ?_
  intro g1 w2 hg6 hz5 hb3 hk4
  have hs_w2 := hb3.size
  refine rw_new (cs := #[.int .i64 0, .int .i64 0]) (t := 29) (fun g => .pointer (some ⟨g, 0, none⟩)) rfl rfl rfl rfl (by kernel_rfl) ?_
  intro g7 w8 hg12 hz11 hb9 hk10
  have hs_w8 := hb9.size
  refine rw_val (v := .bool false) (w' := w8) rfl rfl rfl rfl rfl ?_
  refine rw_end ?_
  refine w_seq ?_
  refine w_block ?_
  refine w_seq ?_
  refine w_region ?_
  refine rw_val (v := .pointer (some ⟨g1, 1, none⟩)) (w' := w8) rfl rfl rfl rfl (by simp [go_sem, sEv, sLook, nbeq, i64_w, Try.underlying29]) ?_
  refine rw_val (v := .int .i64 p.f1) (w' := w8) rfl rfl rfl rfl (by have eb_ := (hk4.on hb9); have e0_ := eb_.cellv (i := 1) (v := (.int .i64 p.f1 : Value)) rfl; simp [go_sem, sEv, sLook, nbeq, i64_w, e0_]) ?_
  refine rw_val (v := .bool (decide (p.f1 < 9223372036854775807))) (w' := w8) rfl rfl rfl rfl (by simp [go_sem, sEv, sLook, nbeq, i64_w]) ?_
  refine rw_val (v := .bool (decide (p.f1 < 9223372036854775807))) (w' := w8) rfl rfl rfl rfl rfl ?_
  refine rw_end ?_
  refine w_weaken (G' := [(1, .pointer (some ⟨g1, 0, none⟩)), (2, .pointer (some ⟨g7, 0, none⟩)), (3, .bool false), (4, .bool (decide (p.f1 < 9223372036854775807)))]) ⟨rfl, rfl, rfl, rfl, trivial⟩ ?_
  refine w_cond rfl rfl (fun cA => ?_) (fun cA => ?_)
  · have l13 : (p.f1 < 9223372036854775807) := of_decide_eq_true cA
    refine w_seq ?_
    refine w_region ?_
    refine rw_val (v := .pointer (some ⟨g1, 0, none⟩)) (w' := w8) rfl rfl rfl rfl (by simp [go_sem, sEv, sLook, nbeq, i64_w, Try.underlying29]) ?_
    refine rw_val (v := .int .i64 p.f0) (w' := w8) rfl rfl rfl rfl (by have eb_ := (hk4.on hb9); have e0_ := eb_.cellv (i := 0) (v := (.int .i64 p.f0 : Value)) rfl; simp [go_sem, sEv, sLook, nbeq, i64_w, e0_]) ?_
    refine rw_val (v := .pointer (some ⟨g1, 1, none⟩)) (w' := w8) rfl rfl rfl rfl (by simp [go_sem, sEv, sLook, nbeq, i64_w, Try.underlying29]) ?_
    refine rw_val (v := .int .i64 p.f1) (w' := w8) rfl rfl rfl rfl (by have eb_ := (hk4.on hb9); have e0_ := eb_.cellv (i := 1) (v := (.int .i64 p.f1 : Value)) rfl; simp [go_sem, sEv, sLook, nbeq, i64_w, e0_]) ?_
    refine rw_val (v := .int .i64 (p.f1 + 1)) (w' := w8) rfl rfl rfl rfl (by simp [go_sem, sEv, sLook, nbeq, i64_w]; exact wrap_id (by have := hp.2; omega) (by have := of_decide_eq_true cA; omega)) ?_
    refine rw_val (v := .agg #[.int .i64 p.f0, .int .i64 (p.f1 + 1)]) (w' := w8) rfl rfl rfl rfl (by kernel_rfl) ?_
    have hb17 := hk10
    refine rw_store (g := g7) (i := 0) (l := [.int .i64 p.f0, .int .i64 (p.f1 + 1)]) (cs' := #[.int .i64 p.f0, .int .i64 (p.f1 + 1)]) rfl rfl rfl hb17 rfl (by have e0_ := hb17.cellv (i := 0) (v := (.int .i64 0 : Value)) rfl; have f0_ := hb17.frozen 0; have e1_ := hb17.cellv (i := 1) (v := (.int .i64 0 : Value)) rfl; have f1_ := hb17.frozen 1; simp [go_sem, sEv, sLook, nbeq, i64_w, putCells, e0_, f0_, e1_, f1_, Try.underlying29]) ?_
    intro w14 hk15 hk16
    have hs_w14 := hk15.size
    refine rw_val (v := .bool true) (w' := w14) rfl rfl rfl rfl rfl ?_
    refine rw_end ?_
    refine w_weaken (G' := [(1, .pointer (some ⟨g1, 0, none⟩)), (2, .pointer (some ⟨g7, 0, none⟩)), (3, .bool true)]) ⟨rfl, rfl, rfl, trivial⟩ ?_
    refine w_ret (post_retct (v := .agg #[.int .i64 p.f0, .int .i64 (p.f1 + 1)]) rfl rfl rfl (by have eb_ := hk16; have e0_ := eb_.cellv (i := 0) (v := (.int .i64 p.f0 : Value)) rfl; have e1_ := eb_.cellv (i := 1) (v := (.int .i64 (p.f1 + 1) : Value)) rfl; simp [go_sem, e0_, e1_, Try.underlying29]) ?_)
    exact ⟨_, by unfold nxtS; rw [if_pos (of_decide_eq_true cA)], (hk15.below (by omega) (chain hb3 hb9))⟩
  · have l18 : ¬ (p.f1 < 9223372036854775807) := of_decide_eq_false cA
    refine w_seq ?_
    refine w_region ?_
    refine rw_val (v := .pointer (some ⟨g1, 0, none⟩)) (w' := w8) rfl rfl rfl rfl (by simp [go_sem, sEv, sLook, nbeq, i64_w, Try.underlying29]) ?_
    refine rw_val (v := .int .i64 p.f0) (w' := w8) rfl rfl rfl rfl (by have eb_ := (hk4.on hb9); have e0_ := eb_.cellv (i := 0) (v := (.int .i64 p.f0 : Value)) rfl; simp [go_sem, sEv, sLook, nbeq, i64_w, e0_]) ?_
    refine rw_val (v := .bool (decide (p.f0 < 9223372036854775807))) (w' := w8) rfl rfl rfl rfl (by simp [go_sem, sEv, sLook, nbeq, i64_w]) ?_
    refine rw_val (v := .bool (decide (p.f0 < 9223372036854775807))) (w' := w8) rfl rfl rfl rfl rfl ?_
    refine rw_end ?_
    refine w_weaken (G' := [(1, .pointer (some ⟨g1, 0, none⟩)), (2, .pointer (some ⟨g7, 0, none⟩)), (3, .bool false), (14, .bool (decide (p.f0 < 9223372036854775807)))]) ⟨rfl, rfl, rfl, rfl, trivial⟩ ?_
    refine w_cond rfl rfl (fun cB => ?_) (fun cB => ?_)
    · have l19 : (p.f0 < 9223372036854775807) := of_decide_eq_true cB
      refine w_seq ?_
      refine w_region ?_
      refine rw_val (v := .pointer (some ⟨g1, 0, none⟩)) (w' := w8) rfl rfl rfl rfl (by simp [go_sem, sEv, sLook, nbeq, i64_w, Try.underlying29]) ?_
      refine rw_val (v := .int .i64 p.f0) (w' := w8) rfl rfl rfl rfl (by have eb_ := (hk4.on hb9); have e0_ := eb_.cellv (i := 0) (v := (.int .i64 p.f0 : Value)) rfl; simp [go_sem, sEv, sLook, nbeq, i64_w, e0_]) ?_
      refine rw_val (v := .int .i64 (p.f0 + 1)) (w' := w8) rfl rfl rfl rfl (by simp [go_sem, sEv, sLook, nbeq, i64_w]; exact wrap_id (by have := hp.1; omega) (by have := of_decide_eq_true cB; omega)) ?_
      refine rw_val (v := .agg #[.int .i64 (p.f0 + 1), .int .i64 (-9223372036854775808)]) (w' := w8) rfl rfl rfl rfl (by kernel_rfl) ?_
      have hb23 := hk10
      refine rw_store (g := g7) (i := 0) (l := [.int .i64 (p.f0 + 1), .int .i64 (-9223372036854775808)]) (cs' := #[.int .i64 (p.f0 + 1), .int .i64 (-9223372036854775808)]) rfl rfl rfl hb23 rfl (by have e0_ := hb23.cellv (i := 0) (v := (.int .i64 0 : Value)) rfl; have f0_ := hb23.frozen 0; have e1_ := hb23.cellv (i := 1) (v := (.int .i64 0 : Value)) rfl; have f1_ := hb23.frozen 1; simp [go_sem, sEv, sLook, nbeq, i64_w, putCells, e0_, f0_, e1_, f1_, Try.underlying29]) ?_
      intro w20 hk21 hk22
      have hs_w20 := hk21.size
      refine rw_val (v := .bool true) (w' := w20) rfl rfl rfl rfl rfl ?_
      refine rw_end ?_
      refine w_weaken (G' := [(1, .pointer (some ⟨g1, 0, none⟩)), (2, .pointer (some ⟨g7, 0, none⟩)), (3, .bool true)]) ⟨rfl, rfl, rfl, trivial⟩ ?_
      refine w_ret (post_retct (v := .agg #[.int .i64 (p.f0 + 1), .int .i64 (-9223372036854775808)]) rfl rfl rfl (by have eb_ := hk22; have e0_ := eb_.cellv (i := 0) (v := (.int .i64 (p.f0 + 1) : Value)) rfl; have e1_ := eb_.cellv (i := 1) (v := (.int .i64 (-9223372036854775808) : Value)) rfl; simp [go_sem, e0_, e1_, Try.underlying29]) ?_)
      exact ⟨_, by unfold nxtS; rw [if_neg (of_decide_eq_false cA)]; rw [if_pos (of_decide_eq_true cB)], (hk21.below (by omega) (chain hb3 hb9))⟩
    · have l24 : ¬ (p.f0 < 9223372036854775807) := of_decide_eq_false cB
      refine w_skip ?_
      refine w_blk ?_
      refine w_seq ?_
      refine w_region ?_
      refine rw_val (v := .agg #[.int .i64 p.f0, .int .i64 p.f1]) (w' := w8) rfl rfl rfl rfl (by have eb_ := (hk4.on hb9); have e0_ := eb_.cellv (i := 0) (v := (.int .i64 p.f0 : Value)) rfl; have e1_ := eb_.cellv (i := 1) (v := (.int .i64 p.f1 : Value)) rfl; simp [go_sem, sEv, sLook, nbeq, i64_w, e0_, e1_, Try.underlying29]) ?_
      have hb28 := hk10
      refine rw_store (g := g7) (i := 0) (l := [.int .i64 p.f0, .int .i64 p.f1]) (cs' := #[.int .i64 p.f0, .int .i64 p.f1]) rfl rfl rfl hb28 rfl (by have e0_ := hb28.cellv (i := 0) (v := (.int .i64 0 : Value)) rfl; have f0_ := hb28.frozen 0; have e1_ := hb28.cellv (i := 1) (v := (.int .i64 0 : Value)) rfl; have f1_ := hb28.frozen 1; simp [go_sem, sEv, sLook, nbeq, i64_w, putCells, e0_, f0_, e1_, f1_, Try.underlying29]) ?_
      intro w25 hk26 hk27
      have hs_w25 := hk26.size
      refine rw_val (v := .bool false) (w' := w25) rfl rfl rfl rfl rfl ?_
      refine rw_end ?_
      refine w_ret (post_retct (v := .agg #[.int .i64 p.f0, .int .i64 p.f1]) rfl rfl rfl (by have eb_ := hk27; have e0_ := eb_.cellv (i := 0) (v := (.int .i64 p.f0 : Value)) rfl; have e1_ := eb_.cellv (i := 1) (v := (.int .i64 p.f1 : Value)) rfl; simp [go_sem, e0_, e1_, Try.underlying29]) ?_)
      exact ⟨_, by unfold nxtS; rw [if_neg (of_decide_eq_false cA)]; rw [if_neg (of_decide_eq_false cB)], (hk26.below (by omega) (chain hb3 hb9))⟩
set_option maxHeartbeats 4000000 in
theorem least_calls (w : World) :
    Calls Try.prog 23 #[] w fun e w' => e = .returned (.agg #[.int .i64 (-9223372036854775808), .int .i64 (-9223372036854775808)]) ∧ Below w.heap.size w w' := by
  refine calls_flow Try.func23 rfl 2 rfl (Nat.le_of_ble_eq_true rfl) [] ?_ ?_
  · intro t v h; exact args_look rfl t v h
  refine w_seq ?_
  refine w_region ?_
  refine rw_new (cs := #[.int .i64 0, .int .i64 0]) (t := 29) (fun g => .pointer (some ⟨g, 0, none⟩)) rfl rfl rfl rfl (by kernel_rfl) ?_
  intro g1 w2 hg6 hz5 hb3 hk4
  have hs_w2 := hb3.size
  refine rw_end ?_
  refine w_seq ?_
  refine w_region ?_
  refine rw_val (v := .agg #[.int .i64 (-9223372036854775808), .int .i64 (-9223372036854775808)]) (w' := w2) rfl rfl rfl rfl (by kernel_rfl) ?_
  have hb10 := hk4
  refine rw_store (g := g1) (i := 0) (l := [.int .i64 (-9223372036854775808), .int .i64 (-9223372036854775808)]) (cs' := #[.int .i64 (-9223372036854775808), .int .i64 (-9223372036854775808)]) rfl rfl rfl hb10 rfl (by have e0_ := hb10.cellv (i := 0) (v := (.int .i64 0 : Value)) rfl; have f0_ := hb10.frozen 0; have e1_ := hb10.cellv (i := 1) (v := (.int .i64 0 : Value)) rfl; have f1_ := hb10.frozen 1; simp [go_sem, sEv, sLook, nbeq, i64_w, putCells, e0_, f0_, e1_, f1_, Try.underlying29]) ?_
  intro w7 hk8 hk9
  have hs_w7 := hk8.size
  refine rw_end ?_
  refine w_ret (post_retc (v := .agg #[.int .i64 (-9223372036854775808), .int .i64 (-9223372036854775808)]) rfl rfl (by have eb_ := hk9; have e0_ := eb_.cellv (i := 0) (v := (.int .i64 (-9223372036854775808) : Value)) rfl; have e1_ := eb_.cellv (i := 1) (v := (.int .i64 (-9223372036854775808) : Value)) rfl; simp [go_sem, e0_, e1_, Try.underlying29]) ?_)
  exact ⟨rfl, (hk8.below (by omega) hb3)⟩
theorem covered_n (w : World) (a0 a1 t key a4 sh : Int) (ht : -9223372036854775808 ≤ t ∧ t ≤ 9223372036854775807) (hk : -9223372036854775808 ≤ key ∧ key ≤ 9223372036854775807) (hsh : sh ≤ 9223372036854775807) (A1 A3 : Option Addr) (c1 c3 n1 n : Nat) (rs : List Int) (ps : List S29) (hn1 : rs.length = n1) (hn : ps.length = n) (hR : (Kd.int .i64).C w A1 rs.length rs) (hcr : n1 ≤ c1) (hP : k29.C w A3 ps.length ps) (hcp : n ≤ c3) (hrs : rs.length ≤ 900) :
    Calls Try.prog 26 #[.agg #[.int .i64 a0, .int .i64 a1, .int .i64 t, .int .i64 key, .int .i64 a4], .slice A1 n1 c1, .int .i64 sh, .slice A3 n c3] w fun e w' => e = .returned (.bool (coversP ps (idsFrom t key sh 0 rs))) ∧ Below w.heap.size w w' := by
  subst hn
  subst hn1
  exact covered_calls w a0 a1 t key a4 sh ht hk hsh A1 A3 c1 c3 rs ps hR hcr hP hcp hrs
/-- The cells of a Op. -/
def encOp (x : (Int × Int × Int × Int × Int)) : List Value := [.int .i64 x.1, .int .i64 x.2.1, .int .i64 x.2.2.1, .int .i64 x.2.2.2.1, .int .i64 x.2.2.2.2]
theorem encOp_len (x : (Int × Int × Int × Int × Int)) : (encOp x).length = 5 := rfl
theorem encOp_one (x : (Int × Int × Int × Int × Int)) (u : Value) (hu : u ∈ encOp x) : u.oneCell' = true := by
  simp only [encOp, List.mem_cons, List.not_mem_nil, or_false] at hu
  rcases hu with rfl | rfl | rfl | rfl | rfl <;> rfl
abbrev kOp : Kd (Int × Int × Int × Int × Int) := flat 5 encOp encOp_len encOp_one
set_option maxHeartbeats 4000000 in
theorem walkCovers (w : World) (p : Int × Int × Int × Int × Int) (sh : Int) (ht : -9223372036854775808 ≤ p.2.2.1 ∧ p.2.2.1 ≤ 9223372036854775807) (hk : -9223372036854775808 ≤ p.2.2.2.1 ∧ p.2.2.2.1 ≤ 9223372036854775807) (hsh : sh ≤ 9223372036854775807) (A1 A2 A3 : Option Addr) (c1 c2 c3 : Nat) (rs us : List Int) (ps : List S29) (hR : (Kd.int .i64).C w A1 rs.length rs) (hcr : rs.length ≤ c1) (hU : (Kd.int .i64).C w A2 us.length us) (hcu : us.length ≤ c2) (hP : k29.C w A3 ps.length ps) (hcp : ps.length ≤ c3) (hps : ∀ p ∈ ps, In29 p) :
    Calls Try.prog 9 #[.agg #[.int .i64 p.1, .int .i64 p.2.1, .int .i64 p.2.2.1, .int .i64 p.2.2.2.1, .int .i64 p.2.2.2.2, .slice A1 rs.length c1, .int .i64 sh, .slice A3 ps.length c3], .slice A2 us.length c2] w fun e w' => e = .returned (.bool true) ∧ Below w.heap.size w w' := by
  refine calls_flow Try.func9 rfl 111 rfl (Nat.le_of_ble_eq_true rfl) [(0, .agg #[.int .i64 p.1, .int .i64 p.2.1, .int .i64 p.2.2.1, .int .i64 p.2.2.2.1, .int .i64 p.2.2.2.2, .slice A1 rs.length c1, .int .i64 sh, .slice A3 ps.length c3]), (1, .slice A2 us.length c2)] ?_ ?_
  · intro t v h; exact args_look rfl t v h
  refine w_seq ?_
  refine w_region ?_
  refine rw_new (cs := #[.int .i64 p.1, .int .i64 p.2.1, .int .i64 p.2.2.1, .int .i64 p.2.2.2.1, .int .i64 p.2.2.2.2, .slice A1 rs.length c1, .int .i64 sh, .slice A3 ps.length c3]) (t := 47) (fun g => .pointer (some ⟨g, 0, none⟩)) rfl rfl rfl rfl (by simp [go_sem, sEv, sLook, nbeq, i64_w]) ?_
  intro g1 w2 hg6 hz5 hb3 hk4
  have hs_w2 := hb3.size
  refine rw_val (v := .bool false) (w' := w2) rfl rfl rfl rfl rfl ?_
  refine rw_end ?_
  refine w_seq ?_
  refine w_seq ?_
  refine w_region ?_
  refine rw_call rfl rfl rfl rfl (f := 10) (args := #[]) (by simp [go_sem, sEv, sLook, nbeq, i64_w]) (estuarylaw03_alive.calls 3 true w2 alive_true) ?_
  rintro e_ w7 ⟨rfl, hb8⟩
  refine ⟨_, rfl, ?_⟩
  have hs_w7 := hb8.size
  refine rw_val (v := .bool false) (w' := w7) rfl rfl rfl rfl (by simp [go_sem, sEv, sLook, nbeq, i64_w]) ?_
  refine rw_end ?_
  refine w_cond_f rfl rfl rfl ?_
  refine w_skip ?_
  refine w_seq ?_
  refine w_seq ?_
  refine w_region ?_
  refine rw_val (v := .pointer (some ⟨g1, 5, none⟩)) (w' := w7) rfl rfl rfl rfl (by simp [go_sem, sEv, sLook, nbeq, i64_w, Try.underlying47]) ?_
  refine rw_val (v := .slice A1 rs.length c1) (w' := w7) rfl rfl rfl rfl (by have eb_ := (hk4.on hb8); have e0_ := eb_.cellv (i := 5) (v := (.slice A1 rs.length c1 : Value)) rfl; simp [go_sem, sEv, sLook, nbeq, i64_w, e0_, Try.underlying27]) ?_
  refine rw_val (v := .int .i64 ((rs.length : Nat) : Int)) (w' := w7) rfl rfl rfl rfl (by simp [go_sem, sEv, sLook, nbeq, i64_w]) ?_
  refine rw_val (v := .bool (decide (100 < ((rs.length : Nat) : Int)))) (w' := w7) rfl rfl rfl rfl (by simp [go_sem, sEv, sLook, nbeq, i64_w]) ?_
  refine rw_val (v := .bool (decide (100 < ((rs.length : Nat) : Int)))) (w' := w7) rfl rfl rfl rfl rfl ?_
  rcases bcase (decide (100 < ((rs.length : Nat) : Int))) with cN | cN
  · have l9 : ¬ (100 < ((rs.length : Nat) : Int)) := of_decide_eq_false cN
    refine rw_on (c := decide (100 < ((rs.length : Nat) : Int))) rfl rfl rfl (by first | (rw [cN]; rfl) | simp [cN]) ?_
    refine rw_val (v := .pointer (some ⟨g1, 7, none⟩)) (w' := w7) rfl rfl rfl rfl (by simp [go_sem, sEv, sLook, nbeq, i64_w, Try.underlying47]) ?_
    refine rw_on (c := decide (100 < ((rs.length : Nat) : Int))) rfl rfl rfl (by first | (rw [cN]; rfl) | simp [cN]) ?_
    refine rw_val (v := .slice A3 ps.length c3) (w' := w7) rfl rfl rfl rfl (by have eb_ := (hk4.on hb8); have e0_ := eb_.cellv (i := 7) (v := (.slice A3 ps.length c3 : Value)) rfl; simp [go_sem, sEv, sLook, nbeq, i64_w, e0_, Try.underlying45]) ?_
    refine rw_on (c := decide (100 < ((rs.length : Nat) : Int))) rfl rfl rfl (by first | (rw [cN]; rfl) | simp [cN]) ?_
    refine rw_val (v := .int .i64 ((ps.length : Nat) : Int)) (w' := w7) rfl rfl rfl rfl (by simp [go_sem, sEv, sLook, nbeq, i64_w]) ?_
    refine rw_on (c := decide (100 < ((rs.length : Nat) : Int))) rfl rfl rfl (by first | (rw [cN]; rfl) | simp [cN]) ?_
    refine rw_val (v := .bool (decide (500 < ((ps.length : Nat) : Int)))) (w' := w7) rfl rfl rfl rfl (by simp [go_sem, sEv, sLook, nbeq, i64_w]) ?_
    refine rw_val (v := .bool (decide (500 < ((ps.length : Nat) : Int)))) (w' := w7) rfl rfl rfl rfl (by first | (simp [go_sem, sEv, sLook, nbeq, i64_w, cN]; done) | (rw [cN]; simp [go_sem, sEv, sLook, nbeq, i64_w]; done) | (simp [go_sem, sEv, sLook, nbeq, i64_w] <;> omega) | (simp [go_sem, sEv, sLook, nbeq, i64_w]; intro h_; exact absurd (by omega) h_)) ?_
    refine rw_val (v := .bool (decide (500 < ((ps.length : Nat) : Int)))) (w' := w7) rfl rfl rfl rfl rfl ?_
    rcases bcase (decide (500 < ((ps.length : Nat) : Int))) with cM | cM
    · have l10 : ¬ (500 < ((ps.length : Nat) : Int)) := of_decide_eq_false cM
      refine rw_on (c := decide (500 < ((ps.length : Nat) : Int))) rfl rfl rfl (by first | (rw [cM]; rfl) | simp [cM]) ?_
      refine rw_val (v := .slice A2 us.length c2) (w' := w7) rfl rfl rfl rfl rfl ?_
      refine rw_on (c := decide (500 < ((ps.length : Nat) : Int))) rfl rfl rfl (by first | (rw [cM]; rfl) | simp [cM]) ?_
      refine rw_val (v := .int .i64 ((us.length : Nat) : Int)) (w' := w7) rfl rfl rfl rfl (by simp [go_sem, sEv, sLook, nbeq, i64_w]) ?_
      refine rw_on (c := decide (500 < ((ps.length : Nat) : Int))) rfl rfl rfl (by first | (rw [cM]; rfl) | simp [cM]) ?_
      refine rw_val (v := .bool (decide (500 < ((us.length : Nat) : Int)))) (w' := w7) rfl rfl rfl rfl (by simp [go_sem, sEv, sLook, nbeq, i64_w]) ?_
      refine rw_val (v := .bool (decide (500 < ((us.length : Nat) : Int)))) (w' := w7) rfl rfl rfl rfl (by first | (simp [go_sem, sEv, sLook, nbeq, i64_w, cM]; done) | (rw [cM]; simp [go_sem, sEv, sLook, nbeq, i64_w]; done) | (simp [go_sem, sEv, sLook, nbeq, i64_w] <;> omega) | (simp [go_sem, sEv, sLook, nbeq, i64_w]; intro h_; exact absurd (by omega) h_)) ?_
      refine rw_end ?_
      refine w_weaken (G' := [(1, .slice A2 us.length c2), (2, .pointer (some ⟨g1, 0, none⟩)), (4, .bool false), (26, .bool (decide (500 < ((us.length : Nat) : Int))))]) ⟨rfl, rfl, rfl, rfl, trivial⟩ ?_
      refine w_cond rfl rfl (fun cU => ?_) (fun cU => ?_)
      · have l11 : (500 < ((us.length : Nat) : Int)) := of_decide_eq_true cU
        refine w_seq ?_
        refine w_region ?_
        refine rw_val (v := .bool true) (w' := w7) rfl rfl rfl rfl rfl ?_
        refine rw_end ?_
        refine w_ret (post_ret1 rfl rfl ?_)
        exact ⟨rfl, (chain hb3 hb8)⟩
      · have l12 : ¬ (500 < ((us.length : Nat) : Int)) := of_decide_eq_false cU
        refine w_skip ?_
        refine w_seq ?_
        refine w_region ?_
        refine rw_new (cs := #[]) (t := 29) (fun g => .slice (some ⟨g, 0, none⟩) 0 0) rfl rfl rfl rfl (by kernel_rfl) ?_
        intro g13 w14 hg18 hz17 hb15 hk16
        have hs_w14 := hb15.size
        have hk16r : OwnK k29 29 w14 w.heap.size g13 (some ⟨g13, 0, none⟩) 0 0 ([] : List S29) := lit_nilK _ w.heap.size hk16 (by omega)
        refine rw_val (v := .pointer (some ⟨g1, 7, none⟩)) (w' := w14) rfl rfl rfl rfl (by simp [go_sem, sEv, sLook, nbeq, i64_w, Try.underlying47]) ?_
        refine rw_val (v := .slice A3 ps.length c3) (w' := w14) rfl rfl rfl rfl (by have eb_ := ((hk4.on hb8).on hb15); have e0_ := eb_.cellv (i := 7) (v := (.slice A3 ps.length c3 : Value)) rfl; simp [go_sem, sEv, sLook, nbeq, i64_w, e0_, Try.underlying45]) ?_
        have oA25 : OwnK k29 29 w14 w.heap.size g13 (some ⟨g13, 0, none⟩) 0 0 ([] : List S29) := hk16r
        refine rw_append_kd (d := k29) w.heap.size rfl rfl rfl (.tmp 27) (.tmp 29) rfl rfl 45 29 (.agg #[.int .i64 0, .int .i64 0]) 16 rfl (by kernel_rfl) (by kernel_rfl) rfl (show 0 < 2 by decide) (by decide) (fun x cs h => by obtain rfl := k29_open h; exact k29_mkM _ _ _ _) (b := g13) rfl rfl (by omega) oA25 (Kd.C_below hP (chain (chain hb3 hb8) hb15)) (chain (chain hb3 hb8) hb15) (by omega) (by first | omega | (simp only [List.length_append, List.length_nil, List.length_cons]; omega)) ?_
        intro A19 c20 w21 hO22 hB23 hG24
        rw [List.nil_append] at hO22
        try rw [List.nil_append]
        have hs_w21 := hB23.size
        have hgs_w21 := hG24.size
        have hk26 := OwnK.blk_grown ((hk4.on hb8).on hb15) oA25 (.inr (by decide)) hG24
        refine rw_val (v := .slice A19 ps.length c20) (w' := w21) rfl rfl rfl rfl rfl ?_
        refine rw_end ?_
        refine w_weaken (G' := [(1, .slice A2 us.length c2), (2, .pointer (some ⟨g1, 0, none⟩)), (4, .bool false), (5, .slice A19 ps.length c20)]) ⟨rfl, rfl, rfl, rfl, trivial⟩ ?_
        refine w_seq ?_
        refine w_region ?_
        refine rw_val (v := .slice A19 ps.length c20) (w' := w21) rfl rfl rfl rfl rfl ?_
        refine rw_val (v := .int .i64 ((ps.length : Nat) : Int)) (w' := w21) rfl rfl rfl rfl (by simp [go_sem, sEv, sLook, nbeq, i64_w]) ?_
        refine rw_make_kd (d := k29) w.heap.size rfl rfl rfl 45 29 (.tmp 32) (.tmp 32) rfl rfl rfl ps.length rfl rfl (.agg #[.int .i64 0, .int .i64 0]) 16 z29 (by kernel_rfl) (by kernel_rfl) rfl (show 0 < 2 by decide) (by decide) (k29_mkM _ _ _ _) (by omega) hB23 (by omega) ?_
        intro A27 c28 w29 hO30 hB31 hG32
        have hs_w29 := hB31.size
        have hgs_w29 := hG32.size
        have hb33 : Below w21.heap.size w21 w29 := ⟨hG32.os, hG32.tape, hG32.output, hG32.size, fun q hq => hG32.block q hq (by simp)⟩
        refine rw_val (v := .slice A27 ps.length c28) (w' := w29) rfl rfl rfl rfl rfl ?_
        refine rw_end ?_
        refine w_weaken (G' := [(1, .slice A2 us.length c2), (2, .pointer (some ⟨g1, 0, none⟩)), (4, .bool false), (5, .slice A19 ps.length c20), (6, .slice A27 ps.length c28)]) ⟨rfl, rfl, rfl, rfl, rfl, trivial⟩ ?_
        refine w_seq ?_
        refine w_seq ?_
        refine w_region ?_
        refine rw_val (v := .slice A19 ps.length c20) (w' := w29) rfl rfl rfl rfl rfl ?_
        refine rw_val (v := .int .i64 ((ps.length : Nat) : Int)) (w' := w29) rfl rfl rfl rfl (by simp [go_sem, sEv, sLook, nbeq, i64_w]) ?_
        refine rw_val (v := .int .i64 0) (w' := w29) rfl rfl rfl rfl rfl ?_
        refine rw_end ?_
        refine w_block ?_
        refine w_loop (fun m_ G W_ => ∃ (j : Nat) (hs : List S29) (ls : List S29) (A5_ : Option Addr) (c5_ : Nat) (A6_ : Option Addr) (c6_ : Nat), j + m_ = ps.length ∧ Below w.heap.size w W_ ∧ OwnK k29 29 W_ w.heap.size w.heap.size A5_ ps.length c5_ hs ∧ OwnK k29 29 W_ w.heap.size w.heap.size A6_ ps.length c6_ ls ∧ (Rise ps hs) ∧ (Lows ps.length j ls) ∧ (∀ q, (Value.slice A5_ ps.length c5_).ownBlock = some q → (Value.slice A6_ ps.length c6_).ownBlock ≠ some q) ∧ (Blk W_ g1 47 #[.int .i64 p.1, .int .i64 p.2.1, .int .i64 p.2.2.1, .int .i64 p.2.2.2.1, .int .i64 p.2.2.2.2, .slice A1 rs.length c1, .int .i64 sh, .slice A3 ps.length c3]) ∧ G = [(1, .slice A2 us.length c2), (2, .pointer (some ⟨g1, 0, none⟩)), (5, .slice A5_ ps.length c5_), (6, .slice A6_ ps.length c6_), (35, .int .i64 ((ps.length : Nat) : Int)), (36, .int .i64 ((j : Nat) : Int))]) ps.length [(1, .slice A2 us.length c2), (2, .pointer (some ⟨g1, 0, none⟩)), (5, .slice A19 ps.length c20), (6, .slice A27 ps.length c28), (35, .int .i64 ((ps.length : Nat) : Int)), (36, .int .i64 0)] ⟨0, ps, (List.replicate ps.length z29), A19, c20, A27, c28, by omega, (chain hB23 hb33), (OwnK.mono (d := k29) (OwnK.on (d := k29) hO22 hb33) (by omega)), (OwnK.mono (d := k29) hO30 (by omega)), (Rise.refl hps), ⟨by simp, fun i hi => absurd hi (Nat.not_lt_zero i)⟩, (apart29 hO22 hO30), (hk26.on hb33), rfl⟩ ⟨rfl, rfl, rfl, rfl, rfl, rfl, trivial⟩ ?_
        rintro m_ G w_L34 ⟨j, hs, ls, A5_, c5_, A6_, c6_, hp35, hB_L34, hO5_, hO6_, hf36, hf37, hf38, hf39, rfl⟩
        have hs_w_L34 := hB_L34.size
        have hn5_ := hf36.1
        have hn6_ := hf37.1
        have hlta_ := hf39.lt
        refine w_seq ?_
        refine w_region ?_
        refine rw_val (v := .bool (decide (((j : Nat) : Int) < ((ps.length : Nat) : Int)))) (w' := w_L34) rfl rfl rfl rfl (by simp [go_sem, sEv, sLook, nbeq, i64_w]) ?_
        refine rw_end ?_
        refine w_seq ?_
        refine w_cond rfl rfl (fun cJ => ?_) (fun cJ => ?_)
        · have l40 : (((j : Nat) : Int) < ((ps.length : Nat) : Int)) := of_decide_eq_true cJ
          refine w_skip ?_
          refine w_seq ?_
          refine w_block ?_
          refine w_seq ?_
          refine w_region ?_
          refine rw_val (v := .int .i64 ((j : Nat) : Int)) (w' := w_L34) rfl rfl rfl rfl rfl ?_
          refine rw_val (v := .int .i64 ((j : Nat) : Int)) (w' := w_L34) rfl rfl rfl rfl rfl ?_
          refine rw_end ?_
          refine w_seq ?_
          refine w_region ?_
          refine rw_val (v := .slice A6_ ps.length c6_) (w' := w_L34) rfl rfl rfl rfl rfl ?_
          refine rw_val (v := .int .i64 ((j : Nat) : Int)) (w' := w_L34) rfl rfl rfl rfl rfl ?_
          refine rw_call rfl rfl rfl rfl (f := 23) (args := #[]) (by simp [go_sem, sEv, sLook, nbeq, i64_w]) (least_calls w_L34) ?_
          rintro e_ w41 ⟨rfl, hb42⟩
          refine ⟨_, rfl, ?_⟩
          have hs_w41 := hb42.size
          obtain ⟨g46, rfl⟩ := OwnK.adr (d := k29) hO6_ (by first | omega | decide)
          obtain ⟨ad43, hA44, hc45⟩ := kd_at (Kd.C_below (OwnK.C (d := k29) hO6_) hb42) (fun x : S29 => [.int .i64 x.f0, .int .i64 x.f1]) (fun x cs h => k29_open h) z29 j (by first | omega | decide)
          obtain rfl := Option.some.inj hA44
          have he47 : w41.cell? ⟨g46, j * 2, none⟩ = some (.int .i64 ((ls.getD j z29).f0)) := cell_g (hc45 0 _ rfl) rfl
          have he48 : w41.cell? ⟨g46, j * 2 + 1, none⟩ = some (.int .i64 ((ls.getD j z29).f1)) := cell_g (hc45 1 _ rfl) rfl
          refine rw_val (v := .pointer (some ⟨g46, j * 2, none⟩)) (w' := w41) rfl rfl rfl rfl (by rw [← add_plain g46 (j * 2)]; exact (run_as (run_at_k (P := Try.prog) (e := 29) (sz := 2) (by kernel_rfl) (by kernel_rfl) j (by first | omega | decide) _))) ?_
          have oA49 : OwnK k29 29 w41 w.heap.size w.heap.size (some ⟨g46, 0, none⟩) ps.length c6_ ls := (OwnK.on (d := k29) hO6_ hb42)
          refine rw_store_el (d := k29) w.heap.size rfl rfl 29 (.tmp 42) (.tmp 41) rfl rfl rfl 29 (i := j) (⟨(-9223372036854775808), (-9223372036854775808)⟩ : S29) [.int .i64 (-9223372036854775808), .int .i64 (-9223372036854775808)] rfl rfl rfl rfl (by kernel_rfl) (by intro q hq; simp only [List.mem_cons, List.not_mem_nil, or_false] at hq; rcases hq with rfl | rfl <;> rfl) rfl oA49 (by omega) (k29_mkM _ _ _ _) (chain hB_L34 hb42) ?_
          intro w50 hO51 hB52 hG53
          have hs_w50 := hB52.size
          have hgs_w50 := hG53.size
          have hk55 := OwnK.blk_grown (hf39.on hb42) oA49 (.inr (by decide)) hG53
          have hO56 := kept29 (OwnK.on (d := k29) hO5_ hb42) hf38 hG53
          refine rw_end ?_
          refine w_weaken (G' := [(1, .slice A2 us.length c2), (2, .pointer (some ⟨g1, 0, none⟩)), (5, .slice A5_ ps.length c5_), (6, .slice (some ⟨g46, 0, none⟩) ps.length c6_), (7, .int .i64 ((j : Nat) : Int)), (35, .int .i64 ((ps.length : Nat) : Int)), (36, .int .i64 ((j : Nat) : Int))]) ⟨rfl, rfl, rfl, rfl, rfl, rfl, rfl, trivial⟩ ?_
          refine w_seq ?_
          refine w_region ?_
          refine rw_val (v := .int .i64 ((j : Nat) : Int)) (w' := w50) rfl rfl rfl rfl rfl ?_
          refine rw_val (v := .slice A2 us.length c2) (w' := w50) rfl rfl rfl rfl rfl ?_
          refine rw_val (v := .int .i64 ((us.length : Nat) : Int)) (w' := w50) rfl rfl rfl rfl (by simp [go_sem, sEv, sLook, nbeq, i64_w]) ?_
          refine rw_val (v := .bool (decide (((j : Nat) : Int) < ((us.length : Nat) : Int)))) (w' := w50) rfl rfl rfl rfl (by simp [go_sem, sEv, sLook, nbeq, i64_w]) ?_
          refine rw_end ?_
          refine w_weaken (G' := [(1, .slice A2 us.length c2), (2, .pointer (some ⟨g1, 0, none⟩)), (5, .slice A5_ ps.length c5_), (6, .slice (some ⟨g46, 0, none⟩) ps.length c6_), (7, .int .i64 ((j : Nat) : Int)), (35, .int .i64 ((ps.length : Nat) : Int)), (36, .int .i64 ((j : Nat) : Int)), (46, .bool (decide (((j : Nat) : Int) < ((us.length : Nat) : Int))))]) ⟨rfl, rfl, rfl, rfl, rfl, rfl, rfl, rfl, trivial⟩ ?_
          refine w_cond rfl rfl (fun cR => ?_) (fun cR => ?_)
          · have l57 : (((j : Nat) : Int) < ((us.length : Nat) : Int)) := of_decide_eq_true cR
            refine w_seq ?_
            refine w_region ?_
            refine rw_val (v := .int .i64 0) (w' := w50) rfl rfl rfl rfl rfl ?_
            refine rw_end ?_
            refine w_block ?_
            obtain ⟨q, hq_, hq2_⟩ := rem3 (us.getD j 0)
            refine w_loop (fun m_ G W_ => ∃ (k : Nat) (hs : List S29) (ls : List S29) (A5_ : Option Addr) (c5_ : Nat) (A6_ : Option Addr) (c6_ : Nat), k + m_ = q ∧ Below w.heap.size w W_ ∧ OwnK k29 29 W_ w.heap.size w.heap.size A5_ ps.length c5_ hs ∧ OwnK k29 29 W_ w.heap.size w.heap.size A6_ ps.length c6_ ls ∧ (Rise ps hs) ∧ (Lows ps.length (j + 1) ls) ∧ (∀ q, (Value.slice A5_ ps.length c5_).ownBlock = some q → (Value.slice A6_ ps.length c6_).ownBlock ≠ some q) ∧ (Blk W_ g1 47 #[.int .i64 p.1, .int .i64 p.2.1, .int .i64 p.2.2.1, .int .i64 p.2.2.2.1, .int .i64 p.2.2.2.2, .slice A1 rs.length c1, .int .i64 sh, .slice A3 ps.length c3]) ∧ G = [(1, .slice A2 us.length c2), (2, .pointer (some ⟨g1, 0, none⟩)), (5, .slice A5_ ps.length c5_), (6, .slice A6_ ps.length c6_), (7, .int .i64 ((j : Nat) : Int)), (8, .int .i64 ((k : Nat) : Int)), (35, .int .i64 ((ps.length : Nat) : Int)), (36, .int .i64 ((j : Nat) : Int))]) q [(1, .slice A2 us.length c2), (2, .pointer (some ⟨g1, 0, none⟩)), (5, .slice A5_ ps.length c5_), (6, .slice (some ⟨g46, 0, none⟩) ps.length c6_), (7, .int .i64 ((j : Nat) : Int)), (8, .int .i64 0), (35, .int .i64 ((ps.length : Nat) : Int)), (36, .int .i64 ((j : Nat) : Int))] ⟨0, hs, (ls.set j (⟨(-9223372036854775808), (-9223372036854775808)⟩ : S29)), A5_, c5_, (some ⟨g46, 0, none⟩), c6_, by omega, hB52, (OwnK.mono (d := k29) hO56 (by omega)), (OwnK.mono (d := k29) hO51 (by omega)), hf36, (hf37.step (by omega)), hf38, hk55, rfl⟩ ⟨rfl, rfl, rfl, rfl, rfl, rfl, rfl, rfl, trivial⟩ ?_
            rintro m1_ G w_L58 ⟨k, hs, ls, A5_, c5_, A6_, c6_, hp59, hB_L58, hO5_, hO6_, hf60, hf61, hf62, hf63, rfl⟩
            have hs_w_L58 := hB_L58.size
            have hn5b_ := hf60.1
            have hn6b_ := hf61.1
            have hltb_ := hf63.lt
            refine w_seq ?_
            refine w_seq ?_
            refine w_region ?_
            refine rw_val (v := .int .i64 ((k : Nat) : Int)) (w' := w_L58) rfl rfl rfl rfl rfl ?_
            refine rw_val (v := .slice A2 us.length c2) (w' := w_L58) rfl rfl rfl rfl rfl ?_
            refine rw_val (v := .int .i64 ((j : Nat) : Int)) (w' := w_L58) rfl rfl rfl rfl rfl ?_
            obtain ⟨ad64, hA65, hc66⟩ := int_at (Kd.C_below hU hB_L58) 0 j (by first | omega | decide)
            subst hA65
            have he67 : w_L58.cell? (ad64.add (j)) = some (.int .i64 (us.getD j 0)) := cell_0 (hc66 0 _ rfl)
            refine rw_val (v := .pointer (some (ad64.add (j)))) (w' := w_L58) rfl rfl rfl rfl (run_as (run_at_1 (P := Try.prog) (e := 3) (by kernel_rfl) (by kernel_rfl) j (by first | omega | decide) _)) ?_
            refine rw_val (v := .int .i64 (us.getD j 0)) (w' := w_L58) rfl rfl rfl rfl (by have e0_ := cellOn he67 (Below.refl _ _); simp [go_sem, sEv, sLook, nbeq, i64_w, e0_]) ?_
            refine rw_val (v := .int .u64 (IntKind.u64.wrap ((us.getD j 0)))) (w' := w_L58) rfl rfl rfl rfl (by simp [go_sem, sEv, sLook, nbeq, i64_w, Try.underlying3, Try.underlying34]) ?_
            refine rw_val (v := .int .u64 ((q : Nat) : Int)) (w' := w_L58) rfl rfl rfl rfl (by rw [hq_]; simp [go_sem, sEv, sLook, nbeq, i64_w, -List.getD_eq_getElem?_getD]) ?_
            refine rw_val (v := .int .i64 ((q : Nat) : Int)) (w' := w_L58) rfl rfl rfl rfl (by simp [go_sem, sEv, sLook, nbeq, i64_w, Try.underlying3, Try.underlying34]; exact wrap_id (by omega) (by omega)) ?_
            refine rw_val (v := .bool (decide (((k : Nat) : Int) < ((q : Nat) : Int)))) (w' := w_L58) rfl rfl rfl rfl (by simp [go_sem, sEv, sLook, nbeq, i64_w]) ?_
            refine rw_end ?_
            refine w_weaken (G' := [(1, .slice (some ad64) us.length c2), (2, .pointer (some ⟨g1, 0, none⟩)), (5, .slice A5_ ps.length c5_), (6, .slice A6_ ps.length c6_), (7, .int .i64 ((j : Nat) : Int)), (8, .int .i64 ((k : Nat) : Int)), (35, .int .i64 ((ps.length : Nat) : Int)), (36, .int .i64 ((j : Nat) : Int)), (55, .bool (decide (((k : Nat) : Int) < ((q : Nat) : Int))))]) ⟨rfl, rfl, rfl, rfl, rfl, rfl, rfl, rfl, rfl, trivial⟩ ?_
            refine w_cond rfl rfl (fun cQ => ?_) (fun cQ => ?_)
            · have l68 : (((k : Nat) : Int) < ((q : Nat) : Int)) := of_decide_eq_true cQ
              refine w_skip ?_
              refine w_seq ?_
              refine w_block ?_
              refine w_region ?_
              refine rw_val (v := .slice A5_ ps.length c5_) (w' := w_L58) rfl rfl rfl rfl rfl ?_
              refine rw_val (v := .int .i64 ((j : Nat) : Int)) (w' := w_L58) rfl rfl rfl rfl rfl ?_
              refine rw_val (v := .slice A5_ ps.length c5_) (w' := w_L58) rfl rfl rfl rfl rfl ?_
              refine rw_val (v := .int .i64 ((j : Nat) : Int)) (w' := w_L58) rfl rfl rfl rfl rfl ?_
              obtain ⟨g72, rfl⟩ := OwnK.adr (d := k29) hO5_ (by first | omega | decide)
              obtain ⟨ad69, hA70, hc71⟩ := kd_at (Kd.C_below (OwnK.C (d := k29) hO5_) (Below.refl _ _)) (fun x : S29 => [.int .i64 x.f0, .int .i64 x.f1]) (fun x cs h => k29_open h) z29 j (by first | omega | decide)
              obtain rfl := Option.some.inj hA70
              have he73 : w_L58.cell? ⟨g72, j * 2, none⟩ = some (.int .i64 ((hs.getD j z29).f0)) := cell_g (hc71 0 _ rfl) rfl
              have he74 : w_L58.cell? ⟨g72, j * 2 + 1, none⟩ = some (.int .i64 ((hs.getD j z29).f1)) := cell_g (hc71 1 _ rfl) rfl
              refine rw_val (v := .pointer (some ⟨g72, j * 2, none⟩)) (w' := w_L58) rfl rfl rfl rfl (by rw [← add_plain g72 (j * 2)]; exact (run_as (run_at_k (P := Try.prog) (e := 29) (sz := 2) (by kernel_rfl) (by kernel_rfl) j (by first | omega | decide) _))) ?_
              refine rw_val (v := .agg #[.int .i64 ((hs.getD j z29).f0), .int .i64 ((hs.getD j z29).f1)]) (w' := w_L58) rfl rfl rfl rfl (by have e0_ := cellOn he73 (Below.refl _ _); have e1_ := cellOn he74 (Below.refl _ _); simp [go_sem, sEv, sLook, nbeq, i64_w, e0_, e1_, Try.underlying29]) ?_
              have hjl_ := hf60.1
              refine rw_call rfl rfl rfl rfl (f := 19) (args := #[.agg #[.int .i64 ((hs.getD j z29).f0), .int .i64 ((hs.getD j z29).f1)]]) (by simp [go_sem, sEv, sLook, nbeq, i64_w]) (after_calls w_L58 (hs.getD j z29) (hf60.2.2 _ (getD_mem29 hs j (by omega)))) ?_
              rintro e_ w75 ⟨b77, rfl, hb76⟩
              refine ⟨_, rfl, ?_⟩
              have hs_w75 := hb76.size
              refine rw_val (v := .tuple #[.agg #[.int .i64 ((nxtS (hs.getD j z29)).f0), .int .i64 ((nxtS (hs.getD j z29)).f1)], .bool b77]) (w' := w75) rfl rfl rfl rfl rfl ?_
              refine rw_val (v := .agg #[.int .i64 ((nxtS (hs.getD j z29)).f0), .int .i64 ((nxtS (hs.getD j z29)).f1)]) (w' := w75) rfl rfl rfl rfl (by simp [go_sem, sEv, sLook, nbeq, i64_w]) ?_
              refine rw_val (v := .bool b77) (w' := w75) rfl rfl rfl rfl (by simp [go_sem, sEv, sLook, nbeq, i64_w]) ?_
              obtain ⟨ad78, hA79, hc80⟩ := kd_at (Kd.C_below (OwnK.C (d := k29) hO5_) hb76) (fun x : S29 => [.int .i64 x.f0, .int .i64 x.f1]) (fun x cs h => k29_open h) z29 j (by first | omega | decide)
              obtain rfl := Option.some.inj hA79
              have he81 : w75.cell? ⟨g72, j * 2, none⟩ = some (.int .i64 ((hs.getD j z29).f0)) := cell_g (hc80 0 _ rfl) rfl
              have he82 : w75.cell? ⟨g72, j * 2 + 1, none⟩ = some (.int .i64 ((hs.getD j z29).f1)) := cell_g (hc80 1 _ rfl) rfl
              refine rw_val (v := .pointer (some ⟨g72, j * 2, none⟩)) (w' := w75) rfl rfl rfl rfl (by rw [← add_plain g72 (j * 2)]; exact (run_as (run_at_k (P := Try.prog) (e := 29) (sz := 2) (by kernel_rfl) (by kernel_rfl) j (by first | omega | decide) _))) ?_
              have oA83 : OwnK k29 29 w75 w.heap.size w.heap.size (some ⟨g72, 0, none⟩) ps.length c5_ hs := (OwnK.on (d := k29) hO5_ hb76)
              refine rw_store_el (d := k29) w.heap.size rfl rfl 29 (.tmp 68) (.tmp 66) rfl rfl rfl 29 (i := j) (⟨(nxtS (hs.getD j z29)).f0, (nxtS (hs.getD j z29)).f1⟩ : S29) [.int .i64 ((nxtS (hs.getD j z29)).f0), .int .i64 ((nxtS (hs.getD j z29)).f1)] rfl rfl rfl rfl (by kernel_rfl) (by intro q hq; simp only [List.mem_cons, List.not_mem_nil, or_false] at hq; rcases hq with rfl | rfl <;> rfl) rfl oA83 (by omega) (k29_mkM _ _ _ _) (chain hB_L58 hb76) ?_
              intro w84 hO85 hB86 hG87
              have hs_w84 := hB86.size
              have hgs_w84 := hG87.size
              have hk89 := OwnK.blk_grown (hf63.on hb76) oA83 (.inr (by decide)) hG87
              have hO90 := kept29 (OwnK.on (d := k29) hO6_ hb76) (apart29' hf62) hG87
              refine rw_end ?_
              refine w_weaken (G' := [(1, .slice (some ad64) us.length c2), (2, .pointer (some ⟨g1, 0, none⟩)), (5, .slice (some ⟨g72, 0, none⟩) ps.length c5_), (6, .slice A6_ ps.length c6_), (7, .int .i64 ((j : Nat) : Int)), (8, .int .i64 ((k : Nat) : Int)), (35, .int .i64 ((ps.length : Nat) : Int)), (36, .int .i64 ((j : Nat) : Int))]) ⟨rfl, rfl, rfl, rfl, rfl, rfl, rfl, rfl, trivial⟩ ?_
              refine w_blk ?_
              refine w_region ?_
              refine rw_val (v := .int .i64 ((k : Nat) : Int)) (w' := w84) rfl rfl rfl rfl rfl ?_
              refine rw_val (v := .int .i64 ((k + 1 : Nat) : Int)) (w' := w84) rfl rfl rfl rfl (by simp [go_sem, sEv, sLook, nbeq, i64_w]; exact wrap_id (by omega) (by omega)) ?_
              refine rw_val (v := .int .i64 ((k + 1 : Nat) : Int)) (w' := w84) rfl rfl rfl rfl rfl ?_
              refine rw_end ?_
              exact w_back (m1_ - 1) [(1, .slice (some ad64) us.length c2), (2, .pointer (some ⟨g1, 0, none⟩)), (5, .slice (some ⟨g72, 0, none⟩) ps.length c5_), (6, .slice A6_ ps.length c6_), (7, .int .i64 ((j : Nat) : Int)), (8, .int .i64 ((k + 1 : Nat) : Int)), (35, .int .i64 ((ps.length : Nat) : Int)), (36, .int .i64 ((j : Nat) : Int))] (by omega) ⟨rfl, rfl, rfl, rfl, rfl, rfl, rfl, rfl, trivial⟩ ⟨(k + 1), (hs.set j (⟨(nxtS (hs.getD j z29)).f0, (nxtS (hs.getD j z29)).f1⟩ : S29)), ls, (some ⟨g72, 0, none⟩), c5_, A6_, c6_, by omega, hB86, (OwnK.mono (d := k29) hO85 (by omega)), (OwnK.mono (d := k29) hO90 (by omega)), (hf60.step (by omega)), hf61, hf62, hk89, rfl⟩
            · have l97 : ¬ (((k : Nat) : Int) < ((q : Nat) : Int)) := of_decide_eq_false cQ
              refine w_exit rfl ?_
              refine w_blk ?_
              refine w_region ?_
              refine rw_val (v := .int .i64 ((j + 1 : Nat) : Int)) (w' := w_L58) rfl rfl rfl rfl (by simp [go_sem, sEv, sLook, nbeq, i64_w]; exact wrap_id (by omega) (by omega)) ?_
              refine rw_val (v := .int .i64 ((j + 1 : Nat) : Int)) (w' := w_L58) rfl rfl rfl rfl rfl ?_
              refine rw_end ?_
              exact w_back (m_ - 1) [(1, .slice (some ad64) us.length c2), (2, .pointer (some ⟨g1, 0, none⟩)), (5, .slice A5_ ps.length c5_), (6, .slice A6_ ps.length c6_), (35, .int .i64 ((ps.length : Nat) : Int)), (36, .int .i64 ((j + 1 : Nat) : Int))] (by omega) ⟨rfl, rfl, rfl, rfl, rfl, rfl, trivial⟩ ⟨(j + 1), hs, ls, A5_, c5_, A6_, c6_, by omega, hB_L58, (OwnK.mono (d := k29) hO5_ (by omega)), (OwnK.mono (d := k29) hO6_ (by omega)), hf60, hf61, hf62, hf63, rfl⟩
          · have l104 : ¬ (((j : Nat) : Int) < ((us.length : Nat) : Int)) := of_decide_eq_false cR
            refine w_skip ?_
            refine w_blk ?_
            refine w_region ?_
            refine rw_val (v := .int .i64 ((j + 1 : Nat) : Int)) (w' := w50) rfl rfl rfl rfl (by simp [go_sem, sEv, sLook, nbeq, i64_w]; exact wrap_id (by omega) (by omega)) ?_
            refine rw_val (v := .int .i64 ((j + 1 : Nat) : Int)) (w' := w50) rfl rfl rfl rfl rfl ?_
            refine rw_end ?_
            exact w_back (m_ - 1) [(1, .slice A2 us.length c2), (2, .pointer (some ⟨g1, 0, none⟩)), (5, .slice A5_ ps.length c5_), (6, .slice (some ⟨g46, 0, none⟩) ps.length c6_), (35, .int .i64 ((ps.length : Nat) : Int)), (36, .int .i64 ((j + 1 : Nat) : Int))] (by omega) ⟨rfl, rfl, rfl, rfl, rfl, rfl, trivial⟩ ⟨(j + 1), hs, (ls.set j (⟨(-9223372036854775808), (-9223372036854775808)⟩ : S29)), A5_, c5_, (some ⟨g46, 0, none⟩), c6_, by omega, hB52, (OwnK.mono (d := k29) hO56 (by omega)), (OwnK.mono (d := k29) hO51 (by omega)), hf36, (hf37.step (by omega)), hf38, hk55, rfl⟩
        · have l111 : ¬ (((j : Nat) : Int) < ((ps.length : Nat) : Int)) := of_decide_eq_false cJ
          refine w_exit rfl ?_
          refine w_seq ?_
          refine w_region ?_
          refine rw_val (v := .pointer (some ⟨g1, 0, none⟩)) (w' := w_L34) rfl rfl rfl rfl (by simp [go_sem, sEv, sLook, nbeq, i64_w, Try.underlying47]) ?_
          refine rw_val (v := .agg #[.int .i64 p.1, .int .i64 p.2.1, .int .i64 p.2.2.1, .int .i64 p.2.2.2.1, .int .i64 p.2.2.2.2]) (w' := w_L34) rfl rfl rfl rfl (by have eb_ := hf39; have e0_ := eb_.cellv (i := 0) (v := (.int .i64 p.1 : Value)) rfl; have e1_ := eb_.cellv (i := 1) (v := (.int .i64 p.2.1 : Value)) rfl; have e2_ := eb_.cellv (i := 2) (v := (.int .i64 p.2.2.1 : Value)) rfl; have e3_ := eb_.cellv (i := 3) (v := (.int .i64 p.2.2.2.1 : Value)) rfl; have e4_ := eb_.cellv (i := 4) (v := (.int .i64 p.2.2.2.2 : Value)) rfl; simp [go_sem, sEv, sLook, nbeq, i64_w, e0_, e1_, e2_, e3_, e4_, Try.underlying23]) ?_
          refine rw_val (v := .pointer (some ⟨g1, 5, none⟩)) (w' := w_L34) rfl rfl rfl rfl (by simp [go_sem, sEv, sLook, nbeq, i64_w, Try.underlying47]) ?_
          refine rw_val (v := .slice A1 rs.length c1) (w' := w_L34) rfl rfl rfl rfl (by have eb_ := hf39; have e0_ := eb_.cellv (i := 5) (v := (.slice A1 rs.length c1 : Value)) rfl; simp [go_sem, sEv, sLook, nbeq, i64_w, e0_, Try.underlying27]) ?_
          refine rw_val (v := .pointer (some ⟨g1, 6, none⟩)) (w' := w_L34) rfl rfl rfl rfl (by simp [go_sem, sEv, sLook, nbeq, i64_w, Try.underlying47]) ?_
          refine rw_val (v := .int .i64 sh) (w' := w_L34) rfl rfl rfl rfl (by have eb_ := hf39; have e0_ := eb_.cellv (i := 6) (v := (.int .i64 sh : Value)) rfl; simp [go_sem, sEv, sLook, nbeq, i64_w, e0_]) ?_
          refine rw_val (v := .pointer (some ⟨g1, 7, none⟩)) (w' := w_L34) rfl rfl rfl rfl (by simp [go_sem, sEv, sLook, nbeq, i64_w, Try.underlying47]) ?_
          refine rw_val (v := .slice A3 ps.length c3) (w' := w_L34) rfl rfl rfl rfl (by have eb_ := hf39; have e0_ := eb_.cellv (i := 7) (v := (.slice A3 ps.length c3 : Value)) rfl; simp [go_sem, sEv, sLook, nbeq, i64_w, e0_, Try.underlying45]) ?_
          refine rw_call rfl rfl rfl rfl (f := 26) (args := #[.agg #[.int .i64 p.1, .int .i64 p.2.1, .int .i64 p.2.2.1, .int .i64 p.2.2.2.1, .int .i64 p.2.2.2.2], .slice A1 rs.length c1, .int .i64 sh, .slice A3 ps.length c3]) (by simp [go_sem, sEv, sLook, nbeq, i64_w]) (covered_n w_L34 p.1 p.2.1 p.2.2.1 p.2.2.2.1 p.2.2.2.2 sh ht hk hsh A1 A3 c1 c3 rs.length ps.length rs ps rfl rfl (Kd.C_below hR hB_L34) hcr (Kd.C_below hP hB_L34) hcp (by first | (simp; done) | omega)) ?_
          rintro e_ w112 ⟨rfl, hb113⟩
          refine ⟨_, rfl, ?_⟩
          have hs_w112 := hb113.size
          refine rw_val (v := .bool (coversP ps (idsFrom p.2.2.1 p.2.2.2.1 sh 0 rs))) (w' := w112) rfl rfl rfl rfl rfl ?_
          refine rw_end ?_
          refine w_weaken (G' := [(2, .pointer (some ⟨g1, 0, none⟩)), (5, .slice A5_ ps.length c5_), (6, .slice A6_ ps.length c6_), (9, .bool (coversP ps (idsFrom p.2.2.1 p.2.2.2.1 sh 0 rs)))]) ⟨rfl, rfl, rfl, rfl, trivial⟩ ?_
          refine w_seq ?_
          refine w_region ?_
          refine rw_val (v := .bool (coversP ps (idsFrom p.2.2.1 p.2.2.2.1 sh 0 rs))) (w' := w112) rfl rfl rfl rfl rfl ?_
          refine rw_val (v := .bool (!(coversP ps (idsFrom p.2.2.1 p.2.2.2.1 sh 0 rs)))) (w' := w112) rfl rfl rfl rfl (by simp [go_sem, sEv, sLook, nbeq, i64_w]) ?_
          refine rw_val (v := .bool (!(coversP ps (idsFrom p.2.2.1 p.2.2.2.1 sh 0 rs)))) (w' := w112) rfl rfl rfl rfl rfl ?_
          rcases bcase (!(coversP ps (idsFrom p.2.2.1 p.2.2.2.1 sh 0 rs))) with cW | cW
          · refine rw_on (c := !(coversP ps (idsFrom p.2.2.1 p.2.2.2.1 sh 0 rs))) rfl rfl rfl (by first | (rw [cW]; rfl) | simp [cW]) ?_
            refine rw_val (v := .pointer (some ⟨g1, 0, none⟩)) (w' := w112) rfl rfl rfl rfl (by simp [go_sem, sEv, sLook, nbeq, i64_w, Try.underlying47]) ?_
            refine rw_on (c := !(coversP ps (idsFrom p.2.2.1 p.2.2.2.1 sh 0 rs))) rfl rfl rfl (by first | (rw [cW]; rfl) | simp [cW]) ?_
            refine rw_val (v := .agg #[.int .i64 p.1, .int .i64 p.2.1, .int .i64 p.2.2.1, .int .i64 p.2.2.2.1, .int .i64 p.2.2.2.2]) (w' := w112) rfl rfl rfl rfl (by have eb_ := (hf39.on hb113); have e0_ := eb_.cellv (i := 0) (v := (.int .i64 p.1 : Value)) rfl; have e1_ := eb_.cellv (i := 1) (v := (.int .i64 p.2.1 : Value)) rfl; have e2_ := eb_.cellv (i := 2) (v := (.int .i64 p.2.2.1 : Value)) rfl; have e3_ := eb_.cellv (i := 3) (v := (.int .i64 p.2.2.2.1 : Value)) rfl; have e4_ := eb_.cellv (i := 4) (v := (.int .i64 p.2.2.2.2 : Value)) rfl; simp [go_sem, sEv, sLook, nbeq, i64_w, e0_, e1_, e2_, e3_, e4_, Try.underlying23]) ?_
            refine rw_on (c := !(coversP ps (idsFrom p.2.2.1 p.2.2.2.1 sh 0 rs))) rfl rfl rfl (by first | (rw [cW]; rfl) | simp [cW]) ?_
            refine rw_val (v := .pointer (some ⟨g1, 5, none⟩)) (w' := w112) rfl rfl rfl rfl (by simp [go_sem, sEv, sLook, nbeq, i64_w, Try.underlying47]) ?_
            refine rw_on (c := !(coversP ps (idsFrom p.2.2.1 p.2.2.2.1 sh 0 rs))) rfl rfl rfl (by first | (rw [cW]; rfl) | simp [cW]) ?_
            refine rw_val (v := .slice A1 rs.length c1) (w' := w112) rfl rfl rfl rfl (by have eb_ := (hf39.on hb113); have e0_ := eb_.cellv (i := 5) (v := (.slice A1 rs.length c1 : Value)) rfl; simp [go_sem, sEv, sLook, nbeq, i64_w, e0_, Try.underlying27]) ?_
            refine rw_on (c := !(coversP ps (idsFrom p.2.2.1 p.2.2.2.1 sh 0 rs))) rfl rfl rfl (by first | (rw [cW]; rfl) | simp [cW]) ?_
            refine rw_val (v := .pointer (some ⟨g1, 6, none⟩)) (w' := w112) rfl rfl rfl rfl (by simp [go_sem, sEv, sLook, nbeq, i64_w, Try.underlying47]) ?_
            refine rw_on (c := !(coversP ps (idsFrom p.2.2.1 p.2.2.2.1 sh 0 rs))) rfl rfl rfl (by first | (rw [cW]; rfl) | simp [cW]) ?_
            refine rw_val (v := .int .i64 sh) (w' := w112) rfl rfl rfl rfl (by have eb_ := (hf39.on hb113); have e0_ := eb_.cellv (i := 6) (v := (.int .i64 sh : Value)) rfl; simp [go_sem, sEv, sLook, nbeq, i64_w, e0_]) ?_
            refine rw_on (c := !(coversP ps (idsFrom p.2.2.1 p.2.2.2.1 sh 0 rs))) rfl rfl rfl (by first | (rw [cW]; rfl) | simp [cW]) ?_
            refine rw_val (v := .slice A5_ ps.length c5_) (w' := w112) rfl rfl rfl rfl rfl ?_
            refine rw_on (c := !(coversP ps (idsFrom p.2.2.1 p.2.2.2.1 sh 0 rs))) rfl rfl rfl (by first | (rw [cW]; rfl) | simp [cW]) ?_
            refine rw_call rfl rfl rfl rfl (f := 26) (args := #[.agg #[.int .i64 p.1, .int .i64 p.2.1, .int .i64 p.2.2.1, .int .i64 p.2.2.2.1, .int .i64 p.2.2.2.2], .slice A1 rs.length c1, .int .i64 sh, .slice A5_ ps.length c5_]) (by simp [go_sem, sEv, sLook, nbeq, i64_w]) (covered_n w112 p.1 p.2.1 p.2.2.1 p.2.2.2.1 p.2.2.2.2 sh ht hk hsh A1 A5_ c1 c5_ rs.length ps.length rs hs rfl (by have q_ := hf36.1; omega) (Kd.C_below hR (chain hB_L34 hb113)) hcr (Kd.C_below (OwnK.C (d := k29) hO5_) hb113) (OwnK.cap (d := k29) hO5_) (by first | (simp; done) | omega)) ?_
            rintro e_ w114 ⟨rfl, hb115⟩
            refine ⟨_, rfl, ?_⟩
            have hs_w114 := hb115.size
            refine rw_val (v := .bool (coversP hs (idsFrom p.2.2.1 p.2.2.2.1 sh 0 rs))) (w' := w114) rfl rfl rfl rfl (by first | (simp [go_sem, sEv, sLook, nbeq, i64_w, cW]; done) | (rw [cW]; simp [go_sem, sEv, sLook, nbeq, i64_w]; done) | (simp [go_sem, sEv, sLook, nbeq, i64_w] <;> omega) | (simp [go_sem, sEv, sLook, nbeq, i64_w]; intro h_; exact absurd (by omega) h_)) ?_
            refine rw_val (v := .bool (coversP hs (idsFrom p.2.2.1 p.2.2.2.1 sh 0 rs))) (w' := w114) rfl rfl rfl rfl rfl ?_
            have hq116 : (coversP hs (idsFrom p.2.2.1 p.2.2.2.1 sh 0 rs)) = true := by exact covers_up hf36 (by simpa using cW)
            refine rw_on (c := coversP hs (idsFrom p.2.2.1 p.2.2.2.1 sh 0 rs)) rfl rfl rfl (by first | (rw [hq116]; rfl) | simp [hq116]) ?_
            refine rw_val (v := .pointer (some ⟨g1, 0, none⟩)) (w' := w114) rfl rfl rfl rfl (by simp [go_sem, sEv, sLook, nbeq, i64_w, Try.underlying47]) ?_
            refine rw_on (c := coversP hs (idsFrom p.2.2.1 p.2.2.2.1 sh 0 rs)) rfl rfl rfl (by first | (rw [hq116]; rfl) | simp [hq116]) ?_
            refine rw_val (v := .agg #[.int .i64 p.1, .int .i64 p.2.1, .int .i64 p.2.2.1, .int .i64 p.2.2.2.1, .int .i64 p.2.2.2.2]) (w' := w114) rfl rfl rfl rfl (by have eb_ := ((hf39.on hb113).on hb115); have e0_ := eb_.cellv (i := 0) (v := (.int .i64 p.1 : Value)) rfl; have e1_ := eb_.cellv (i := 1) (v := (.int .i64 p.2.1 : Value)) rfl; have e2_ := eb_.cellv (i := 2) (v := (.int .i64 p.2.2.1 : Value)) rfl; have e3_ := eb_.cellv (i := 3) (v := (.int .i64 p.2.2.2.1 : Value)) rfl; have e4_ := eb_.cellv (i := 4) (v := (.int .i64 p.2.2.2.2 : Value)) rfl; simp [go_sem, sEv, sLook, nbeq, i64_w, e0_, e1_, e2_, e3_, e4_, Try.underlying23]) ?_
            refine rw_on (c := coversP hs (idsFrom p.2.2.1 p.2.2.2.1 sh 0 rs)) rfl rfl rfl (by first | (rw [hq116]; rfl) | simp [hq116]) ?_
            refine rw_val (v := .pointer (some ⟨g1, 5, none⟩)) (w' := w114) rfl rfl rfl rfl (by simp [go_sem, sEv, sLook, nbeq, i64_w, Try.underlying47]) ?_
            refine rw_on (c := coversP hs (idsFrom p.2.2.1 p.2.2.2.1 sh 0 rs)) rfl rfl rfl (by first | (rw [hq116]; rfl) | simp [hq116]) ?_
            refine rw_val (v := .slice A1 rs.length c1) (w' := w114) rfl rfl rfl rfl (by have eb_ := ((hf39.on hb113).on hb115); have e0_ := eb_.cellv (i := 5) (v := (.slice A1 rs.length c1 : Value)) rfl; simp [go_sem, sEv, sLook, nbeq, i64_w, e0_, Try.underlying27]) ?_
            refine rw_on (c := coversP hs (idsFrom p.2.2.1 p.2.2.2.1 sh 0 rs)) rfl rfl rfl (by first | (rw [hq116]; rfl) | simp [hq116]) ?_
            refine rw_val (v := .pointer (some ⟨g1, 6, none⟩)) (w' := w114) rfl rfl rfl rfl (by simp [go_sem, sEv, sLook, nbeq, i64_w, Try.underlying47]) ?_
            refine rw_on (c := coversP hs (idsFrom p.2.2.1 p.2.2.2.1 sh 0 rs)) rfl rfl rfl (by first | (rw [hq116]; rfl) | simp [hq116]) ?_
            refine rw_val (v := .int .i64 sh) (w' := w114) rfl rfl rfl rfl (by have eb_ := ((hf39.on hb113).on hb115); have e0_ := eb_.cellv (i := 6) (v := (.int .i64 sh : Value)) rfl; simp [go_sem, sEv, sLook, nbeq, i64_w, e0_]) ?_
            refine rw_on (c := coversP hs (idsFrom p.2.2.1 p.2.2.2.1 sh 0 rs)) rfl rfl rfl (by first | (rw [hq116]; rfl) | simp [hq116]) ?_
            refine rw_val (v := .slice A6_ ps.length c6_) (w' := w114) rfl rfl rfl rfl rfl ?_
            refine rw_on (c := coversP hs (idsFrom p.2.2.1 p.2.2.2.1 sh 0 rs)) rfl rfl rfl (by first | (rw [hq116]; rfl) | simp [hq116]) ?_
            refine rw_call rfl rfl rfl rfl (f := 26) (args := #[.agg #[.int .i64 p.1, .int .i64 p.2.1, .int .i64 p.2.2.1, .int .i64 p.2.2.2.1, .int .i64 p.2.2.2.2], .slice A1 rs.length c1, .int .i64 sh, .slice A6_ ps.length c6_]) (by simp [go_sem, sEv, sLook, nbeq, i64_w]) (covered_n w114 p.1 p.2.1 p.2.2.1 p.2.2.2.1 p.2.2.2.2 sh ht hk hsh A1 A6_ c1 c6_ rs.length ps.length rs ls rfl (by have q_ := hf37.1; omega) (Kd.C_below hR (chain (chain hB_L34 hb113) hb115)) hcr (Kd.C_below (OwnK.C (d := k29) hO6_) (chain hb113 hb115)) (OwnK.cap (d := k29) hO6_) (by first | (simp; done) | omega)) ?_
            rintro e_ w117 ⟨rfl, hb118⟩
            refine ⟨_, rfl, ?_⟩
            have hs_w117 := hb118.size
            refine rw_on (c := coversP hs (idsFrom p.2.2.1 p.2.2.2.1 sh 0 rs)) rfl rfl rfl (by first | (rw [hq116]; rfl) | simp [hq116]) ?_
            refine rw_val (v := .bool (!(coversP ls (idsFrom p.2.2.1 p.2.2.2.1 sh 0 rs)))) (w' := w117) rfl rfl rfl rfl (by simp [go_sem, sEv, sLook, nbeq, i64_w]) ?_
            refine rw_val (v := .bool (!(coversP ls (idsFrom p.2.2.1 p.2.2.2.1 sh 0 rs)))) (w' := w117) rfl rfl rfl rfl (by first | (simp [go_sem, sEv, sLook, nbeq, i64_w, hq116]; done) | (rw [hq116]; simp [go_sem, sEv, sLook, nbeq, i64_w]; done) | (simp [go_sem, sEv, sLook, nbeq, i64_w] <;> omega) | (simp [go_sem, sEv, sLook, nbeq, i64_w]; intro h_; exact absurd (by omega) h_)) ?_
            refine rw_val (v := .bool (!(coversP ls (idsFrom p.2.2.1 p.2.2.2.1 sh 0 rs)))) (w' := w117) rfl rfl rfl rfl rfl ?_
            have hq119 : (coversP ls (idsFrom p.2.2.1 p.2.2.2.1 sh 0 rs)) = false := by exact covers_least (by have h_ := hf37; rw [show j = ps.length by omega] at h_; exact h_) _ _ _ ht hk.1 _
            have hq120 : (!(coversP ls (idsFrom p.2.2.1 p.2.2.2.1 sh 0 rs))) = true := by simp [hq119]
            refine rw_on (c := !(coversP ls (idsFrom p.2.2.1 p.2.2.2.1 sh 0 rs))) rfl rfl rfl (by first | (rw [hq120]; rfl) | simp [hq120]) ?_
            refine rw_val (v := .pointer (some ⟨g1, 0, none⟩)) (w' := w117) rfl rfl rfl rfl (by simp [go_sem, sEv, sLook, nbeq, i64_w, Try.underlying47]) ?_
            refine rw_on (c := !(coversP ls (idsFrom p.2.2.1 p.2.2.2.1 sh 0 rs))) rfl rfl rfl (by first | (rw [hq120]; rfl) | simp [hq120]) ?_
            refine rw_val (v := .agg #[.int .i64 p.1, .int .i64 p.2.1, .int .i64 p.2.2.1, .int .i64 p.2.2.2.1, .int .i64 p.2.2.2.2]) (w' := w117) rfl rfl rfl rfl (by have eb_ := (((hf39.on hb113).on hb115).on hb118); have e0_ := eb_.cellv (i := 0) (v := (.int .i64 p.1 : Value)) rfl; have e1_ := eb_.cellv (i := 1) (v := (.int .i64 p.2.1 : Value)) rfl; have e2_ := eb_.cellv (i := 2) (v := (.int .i64 p.2.2.1 : Value)) rfl; have e3_ := eb_.cellv (i := 3) (v := (.int .i64 p.2.2.2.1 : Value)) rfl; have e4_ := eb_.cellv (i := 4) (v := (.int .i64 p.2.2.2.2 : Value)) rfl; simp [go_sem, sEv, sLook, nbeq, i64_w, e0_, e1_, e2_, e3_, e4_, Try.underlying23]) ?_
            refine rw_on (c := !(coversP ls (idsFrom p.2.2.1 p.2.2.2.1 sh 0 rs))) rfl rfl rfl (by first | (rw [hq120]; rfl) | simp [hq120]) ?_
            refine rw_val (v := .pointer (some ⟨g1, 6, none⟩)) (w' := w117) rfl rfl rfl rfl (by simp [go_sem, sEv, sLook, nbeq, i64_w, Try.underlying47]) ?_
            refine rw_on (c := !(coversP ls (idsFrom p.2.2.1 p.2.2.2.1 sh 0 rs))) rfl rfl rfl (by first | (rw [hq120]; rfl) | simp [hq120]) ?_
            refine rw_val (v := .int .i64 sh) (w' := w117) rfl rfl rfl rfl (by have eb_ := (((hf39.on hb113).on hb115).on hb118); have e0_ := eb_.cellv (i := 6) (v := (.int .i64 sh : Value)) rfl; simp [go_sem, sEv, sLook, nbeq, i64_w, e0_]) ?_
            refine rw_on (c := !(coversP ls (idsFrom p.2.2.1 p.2.2.2.1 sh 0 rs))) rfl rfl rfl (by first | (rw [hq120]; rfl) | simp [hq120]) ?_
            refine rw_val (v := .slice A5_ ps.length c5_) (w' := w117) rfl rfl rfl rfl rfl ?_
            refine rw_on (c := !(coversP ls (idsFrom p.2.2.1 p.2.2.2.1 sh 0 rs))) rfl rfl rfl (by first | (rw [hq120]; rfl) | simp [hq120]) ?_
            refine rw_call rfl rfl rfl rfl (f := 26) (args := #[.agg #[.int .i64 p.1, .int .i64 p.2.1, .int .i64 p.2.2.1, .int .i64 p.2.2.2.1, .int .i64 p.2.2.2.2], .slice none 0 0, .int .i64 sh, .slice A5_ ps.length c5_]) (by simp [go_sem, sEv, sLook, nbeq, i64_w]) (covered_n w117 p.1 p.2.1 p.2.2.1 p.2.2.2.1 p.2.2.2.2 sh ht hk hsh none A5_ 0 c5_ 0 ps.length [] hs rfl (by have q_ := hf36.1; omega) (C_nilK _ _ _) (Nat.le_refl 0) (Kd.C_below (OwnK.C (d := k29) hO5_) (chain (chain hb113 hb115) hb118)) (OwnK.cap (d := k29) hO5_) (by first | (simp; done) | omega)) ?_
            rintro e_ w121 ⟨rfl, hb122⟩
            refine ⟨_, rfl, ?_⟩
            have hs_w121 := hb122.size
            refine rw_on (c := !(coversP ls (idsFrom p.2.2.1 p.2.2.2.1 sh 0 rs))) rfl rfl rfl (by first | (rw [hq120]; rfl) | simp [hq120]) ?_
            refine rw_val (v := .bool (!(coversP hs (idsFrom p.2.2.1 p.2.2.2.1 sh 0 [])))) (w' := w121) rfl rfl rfl rfl (by simp [go_sem, sEv, sLook, nbeq, i64_w]) ?_
            refine rw_val (v := .bool (!(coversP hs (idsFrom p.2.2.1 p.2.2.2.1 sh 0 [])))) (w' := w121) rfl rfl rfl rfl (by first | (simp [go_sem, sEv, sLook, nbeq, i64_w, hq120]; done) | (rw [hq120]; simp [go_sem, sEv, sLook, nbeq, i64_w]; done) | (simp [go_sem, sEv, sLook, nbeq, i64_w] <;> omega) | (simp [go_sem, sEv, sLook, nbeq, i64_w]; intro h_; exact absurd (by omega) h_)) ?_
            refine rw_val (v := .bool (!(coversP hs (idsFrom p.2.2.1 p.2.2.2.1 sh 0 [])))) (w' := w121) rfl rfl rfl rfl rfl ?_
            refine rw_end ?_
            refine w_weaken (G' := [(4, .bool (!(coversP hs (idsFrom p.2.2.1 p.2.2.2.1 sh 0 []))))]) ⟨rfl, trivial⟩ ?_
            have hq123 : (coversP hs (idsFrom p.2.2.1 p.2.2.2.1 sh 0 [])) = false := by rfl
            have hq124 : (!(coversP hs (idsFrom p.2.2.1 p.2.2.2.1 sh 0 []))) = true := by simp [hq123]
            refine w_ret (post_ret1 rfl rfl ?_)
            exact ⟨by simp only [hq124], (chain (chain (chain (chain hB_L34 hb113) hb115) hb118) hb122)⟩
          · refine rw_off (c := !(coversP ps (idsFrom p.2.2.1 p.2.2.2.1 sh 0 rs))) rfl rfl rfl (by first | (rw [cW]; rfl) | simp [cW]) rfl rfl ?_
            refine rw_off (c := !(coversP ps (idsFrom p.2.2.1 p.2.2.2.1 sh 0 rs))) rfl rfl rfl (by first | (rw [cW]; rfl) | simp [cW]) rfl rfl ?_
            refine rw_off (c := !(coversP ps (idsFrom p.2.2.1 p.2.2.2.1 sh 0 rs))) rfl rfl rfl (by first | (rw [cW]; rfl) | simp [cW]) rfl rfl ?_
            refine rw_off (c := !(coversP ps (idsFrom p.2.2.1 p.2.2.2.1 sh 0 rs))) rfl rfl rfl (by first | (rw [cW]; rfl) | simp [cW]) rfl rfl ?_
            refine rw_off (c := !(coversP ps (idsFrom p.2.2.1 p.2.2.2.1 sh 0 rs))) rfl rfl rfl (by first | (rw [cW]; rfl) | simp [cW]) rfl rfl ?_
            refine rw_off (c := !(coversP ps (idsFrom p.2.2.1 p.2.2.2.1 sh 0 rs))) rfl rfl rfl (by first | (rw [cW]; rfl) | simp [cW]) rfl rfl ?_
            refine rw_off (c := !(coversP ps (idsFrom p.2.2.1 p.2.2.2.1 sh 0 rs))) rfl rfl rfl (by first | (rw [cW]; rfl) | simp [cW]) rfl rfl ?_
            refine rw_off (c := !(coversP ps (idsFrom p.2.2.1 p.2.2.2.1 sh 0 rs))) rfl rfl rfl (by first | (rw [cW]; rfl) | simp [cW]) rfl rfl ?_
            refine rw_val (v := .bool true) (w' := w112) rfl rfl rfl rfl (by first | (simp [go_sem, sEv, sLook, nbeq, i64_w, cW]; done) | (rw [cW]; simp [go_sem, sEv, sLook, nbeq, i64_w]; done) | (simp [go_sem, sEv, sLook, nbeq, i64_w] <;> omega) | (simp [go_sem, sEv, sLook, nbeq, i64_w]; intro h_; exact absurd (by omega) h_)) ?_
            refine rw_val (v := .bool true) (w' := w112) rfl rfl rfl rfl rfl ?_
            refine rw_on (c := true) rfl rfl rfl rfl ?_
            refine rw_val (v := .pointer (some ⟨g1, 0, none⟩)) (w' := w112) rfl rfl rfl rfl (by simp [go_sem, sEv, sLook, nbeq, i64_w, Try.underlying47]) ?_
            refine rw_on (c := true) rfl rfl rfl rfl ?_
            refine rw_val (v := .agg #[.int .i64 p.1, .int .i64 p.2.1, .int .i64 p.2.2.1, .int .i64 p.2.2.2.1, .int .i64 p.2.2.2.2]) (w' := w112) rfl rfl rfl rfl (by have eb_ := (hf39.on hb113); have e0_ := eb_.cellv (i := 0) (v := (.int .i64 p.1 : Value)) rfl; have e1_ := eb_.cellv (i := 1) (v := (.int .i64 p.2.1 : Value)) rfl; have e2_ := eb_.cellv (i := 2) (v := (.int .i64 p.2.2.1 : Value)) rfl; have e3_ := eb_.cellv (i := 3) (v := (.int .i64 p.2.2.2.1 : Value)) rfl; have e4_ := eb_.cellv (i := 4) (v := (.int .i64 p.2.2.2.2 : Value)) rfl; simp [go_sem, sEv, sLook, nbeq, i64_w, e0_, e1_, e2_, e3_, e4_, Try.underlying23]) ?_
            refine rw_on (c := true) rfl rfl rfl rfl ?_
            refine rw_val (v := .pointer (some ⟨g1, 5, none⟩)) (w' := w112) rfl rfl rfl rfl (by simp [go_sem, sEv, sLook, nbeq, i64_w, Try.underlying47]) ?_
            refine rw_on (c := true) rfl rfl rfl rfl ?_
            refine rw_val (v := .slice A1 rs.length c1) (w' := w112) rfl rfl rfl rfl (by have eb_ := (hf39.on hb113); have e0_ := eb_.cellv (i := 5) (v := (.slice A1 rs.length c1 : Value)) rfl; simp [go_sem, sEv, sLook, nbeq, i64_w, e0_, Try.underlying27]) ?_
            refine rw_on (c := true) rfl rfl rfl rfl ?_
            refine rw_val (v := .pointer (some ⟨g1, 6, none⟩)) (w' := w112) rfl rfl rfl rfl (by simp [go_sem, sEv, sLook, nbeq, i64_w, Try.underlying47]) ?_
            refine rw_on (c := true) rfl rfl rfl rfl ?_
            refine rw_val (v := .int .i64 sh) (w' := w112) rfl rfl rfl rfl (by have eb_ := (hf39.on hb113); have e0_ := eb_.cellv (i := 6) (v := (.int .i64 sh : Value)) rfl; simp [go_sem, sEv, sLook, nbeq, i64_w, e0_]) ?_
            refine rw_on (c := true) rfl rfl rfl rfl ?_
            refine rw_val (v := .slice A6_ ps.length c6_) (w' := w112) rfl rfl rfl rfl rfl ?_
            refine rw_on (c := true) rfl rfl rfl rfl ?_
            refine rw_call rfl rfl rfl rfl (f := 26) (args := #[.agg #[.int .i64 p.1, .int .i64 p.2.1, .int .i64 p.2.2.1, .int .i64 p.2.2.2.1, .int .i64 p.2.2.2.2], .slice A1 rs.length c1, .int .i64 sh, .slice A6_ ps.length c6_]) (by simp [go_sem, sEv, sLook, nbeq, i64_w]) (covered_n w112 p.1 p.2.1 p.2.2.1 p.2.2.2.1 p.2.2.2.2 sh ht hk hsh A1 A6_ c1 c6_ rs.length ps.length rs ls rfl (by have q_ := hf37.1; omega) (Kd.C_below hR (chain hB_L34 hb113)) hcr (Kd.C_below (OwnK.C (d := k29) hO6_) hb113) (OwnK.cap (d := k29) hO6_) (by first | (simp; done) | omega)) ?_
            rintro e_ w125 ⟨rfl, hb126⟩
            refine ⟨_, rfl, ?_⟩
            have hs_w125 := hb126.size
            refine rw_on (c := true) rfl rfl rfl rfl ?_
            refine rw_val (v := .bool (!(coversP ls (idsFrom p.2.2.1 p.2.2.2.1 sh 0 rs)))) (w' := w125) rfl rfl rfl rfl (by simp [go_sem, sEv, sLook, nbeq, i64_w]) ?_
            refine rw_val (v := .bool (!(coversP ls (idsFrom p.2.2.1 p.2.2.2.1 sh 0 rs)))) (w' := w125) rfl rfl rfl rfl (by simp [go_sem, sEv, sLook, nbeq, i64_w]) ?_
            refine rw_val (v := .bool (!(coversP ls (idsFrom p.2.2.1 p.2.2.2.1 sh 0 rs)))) (w' := w125) rfl rfl rfl rfl rfl ?_
            have hq127 : (coversP ls (idsFrom p.2.2.1 p.2.2.2.1 sh 0 rs)) = false := by exact covers_least (by have h_ := hf37; rw [show j = ps.length by omega] at h_; exact h_) _ _ _ ht hk.1 _
            have hq128 : (!(coversP ls (idsFrom p.2.2.1 p.2.2.2.1 sh 0 rs))) = true := by simp [hq127]
            refine rw_on (c := !(coversP ls (idsFrom p.2.2.1 p.2.2.2.1 sh 0 rs))) rfl rfl rfl (by first | (rw [hq128]; rfl) | simp [hq128]) ?_
            refine rw_val (v := .pointer (some ⟨g1, 0, none⟩)) (w' := w125) rfl rfl rfl rfl (by simp [go_sem, sEv, sLook, nbeq, i64_w, Try.underlying47]) ?_
            refine rw_on (c := !(coversP ls (idsFrom p.2.2.1 p.2.2.2.1 sh 0 rs))) rfl rfl rfl (by first | (rw [hq128]; rfl) | simp [hq128]) ?_
            refine rw_val (v := .agg #[.int .i64 p.1, .int .i64 p.2.1, .int .i64 p.2.2.1, .int .i64 p.2.2.2.1, .int .i64 p.2.2.2.2]) (w' := w125) rfl rfl rfl rfl (by have eb_ := ((hf39.on hb113).on hb126); have e0_ := eb_.cellv (i := 0) (v := (.int .i64 p.1 : Value)) rfl; have e1_ := eb_.cellv (i := 1) (v := (.int .i64 p.2.1 : Value)) rfl; have e2_ := eb_.cellv (i := 2) (v := (.int .i64 p.2.2.1 : Value)) rfl; have e3_ := eb_.cellv (i := 3) (v := (.int .i64 p.2.2.2.1 : Value)) rfl; have e4_ := eb_.cellv (i := 4) (v := (.int .i64 p.2.2.2.2 : Value)) rfl; simp [go_sem, sEv, sLook, nbeq, i64_w, e0_, e1_, e2_, e3_, e4_, Try.underlying23]) ?_
            refine rw_on (c := !(coversP ls (idsFrom p.2.2.1 p.2.2.2.1 sh 0 rs))) rfl rfl rfl (by first | (rw [hq128]; rfl) | simp [hq128]) ?_
            refine rw_val (v := .pointer (some ⟨g1, 6, none⟩)) (w' := w125) rfl rfl rfl rfl (by simp [go_sem, sEv, sLook, nbeq, i64_w, Try.underlying47]) ?_
            refine rw_on (c := !(coversP ls (idsFrom p.2.2.1 p.2.2.2.1 sh 0 rs))) rfl rfl rfl (by first | (rw [hq128]; rfl) | simp [hq128]) ?_
            refine rw_val (v := .int .i64 sh) (w' := w125) rfl rfl rfl rfl (by have eb_ := ((hf39.on hb113).on hb126); have e0_ := eb_.cellv (i := 6) (v := (.int .i64 sh : Value)) rfl; simp [go_sem, sEv, sLook, nbeq, i64_w, e0_]) ?_
            refine rw_on (c := !(coversP ls (idsFrom p.2.2.1 p.2.2.2.1 sh 0 rs))) rfl rfl rfl (by first | (rw [hq128]; rfl) | simp [hq128]) ?_
            refine rw_val (v := .slice A5_ ps.length c5_) (w' := w125) rfl rfl rfl rfl rfl ?_
            refine rw_on (c := !(coversP ls (idsFrom p.2.2.1 p.2.2.2.1 sh 0 rs))) rfl rfl rfl (by first | (rw [hq128]; rfl) | simp [hq128]) ?_
            refine rw_call rfl rfl rfl rfl (f := 26) (args := #[.agg #[.int .i64 p.1, .int .i64 p.2.1, .int .i64 p.2.2.1, .int .i64 p.2.2.2.1, .int .i64 p.2.2.2.2], .slice none 0 0, .int .i64 sh, .slice A5_ ps.length c5_]) (by simp [go_sem, sEv, sLook, nbeq, i64_w]) (covered_n w125 p.1 p.2.1 p.2.2.1 p.2.2.2.1 p.2.2.2.2 sh ht hk hsh none A5_ 0 c5_ 0 ps.length [] hs rfl (by have q_ := hf36.1; omega) (C_nilK _ _ _) (Nat.le_refl 0) (Kd.C_below (OwnK.C (d := k29) hO5_) (chain hb113 hb126)) (OwnK.cap (d := k29) hO5_) (by first | (simp; done) | omega)) ?_
            rintro e_ w129 ⟨rfl, hb130⟩
            refine ⟨_, rfl, ?_⟩
            have hs_w129 := hb130.size
            refine rw_on (c := !(coversP ls (idsFrom p.2.2.1 p.2.2.2.1 sh 0 rs))) rfl rfl rfl (by first | (rw [hq128]; rfl) | simp [hq128]) ?_
            refine rw_val (v := .bool (!(coversP hs (idsFrom p.2.2.1 p.2.2.2.1 sh 0 [])))) (w' := w129) rfl rfl rfl rfl (by simp [go_sem, sEv, sLook, nbeq, i64_w]) ?_
            refine rw_val (v := .bool (!(coversP hs (idsFrom p.2.2.1 p.2.2.2.1 sh 0 [])))) (w' := w129) rfl rfl rfl rfl (by first | (simp [go_sem, sEv, sLook, nbeq, i64_w, hq128]; done) | (rw [hq128]; simp [go_sem, sEv, sLook, nbeq, i64_w]; done) | (simp [go_sem, sEv, sLook, nbeq, i64_w] <;> omega) | (simp [go_sem, sEv, sLook, nbeq, i64_w]; intro h_; exact absurd (by omega) h_)) ?_
            refine rw_val (v := .bool (!(coversP hs (idsFrom p.2.2.1 p.2.2.2.1 sh 0 [])))) (w' := w129) rfl rfl rfl rfl rfl ?_
            refine rw_end ?_
            refine w_weaken (G' := [(4, .bool (!(coversP hs (idsFrom p.2.2.1 p.2.2.2.1 sh 0 []))))]) ⟨rfl, trivial⟩ ?_
            have hq131 : (coversP hs (idsFrom p.2.2.1 p.2.2.2.1 sh 0 [])) = false := by rfl
            have hq132 : (!(coversP hs (idsFrom p.2.2.1 p.2.2.2.1 sh 0 []))) = true := by simp [hq131]
            refine w_ret (post_ret1 rfl rfl ?_)
            exact ⟨by simp only [hq132], (chain (chain (chain hB_L34 hb113) hb126) hb130)⟩
    · have l133 : (500 < ((ps.length : Nat) : Int)) := of_decide_eq_true cM
      refine rw_off (c := decide (500 < ((ps.length : Nat) : Int))) rfl rfl rfl (by first | (rw [cM]; rfl) | simp [cM]) rfl rfl ?_
      refine rw_off (c := decide (500 < ((ps.length : Nat) : Int))) rfl rfl rfl (by first | (rw [cM]; rfl) | simp [cM]) rfl rfl ?_
      refine rw_off (c := decide (500 < ((ps.length : Nat) : Int))) rfl rfl rfl (by first | (rw [cM]; rfl) | simp [cM]) rfl rfl ?_
      refine rw_val (v := .bool true) (w' := w7) rfl rfl rfl rfl (by first | (simp [go_sem, sEv, sLook, nbeq, i64_w, cM]; done) | (rw [cM]; simp [go_sem, sEv, sLook, nbeq, i64_w]; done) | (simp [go_sem, sEv, sLook, nbeq, i64_w] <;> omega) | (simp [go_sem, sEv, sLook, nbeq, i64_w]; intro h_; exact absurd (by omega) h_)) ?_
      refine rw_end ?_
      refine w_weaken (G' := [(1, .slice A2 us.length c2), (2, .pointer (some ⟨g1, 0, none⟩)), (4, .bool false), (26, .bool true)]) ⟨rfl, rfl, rfl, rfl, trivial⟩ ?_
      refine w_cond_t rfl rfl rfl ?_
      refine w_seq ?_
      refine w_region ?_
      refine rw_val (v := .bool true) (w' := w7) rfl rfl rfl rfl rfl ?_
      refine rw_end ?_
      refine w_ret (post_ret1 rfl rfl ?_)
      exact ⟨rfl, (chain hb3 hb8)⟩
  · have l134 : (100 < ((rs.length : Nat) : Int)) := of_decide_eq_true cN
    refine rw_off (c := decide (100 < ((rs.length : Nat) : Int))) rfl rfl rfl (by first | (rw [cN]; rfl) | simp [cN]) rfl rfl ?_
    refine rw_off (c := decide (100 < ((rs.length : Nat) : Int))) rfl rfl rfl (by first | (rw [cN]; rfl) | simp [cN]) rfl rfl ?_
    refine rw_off (c := decide (100 < ((rs.length : Nat) : Int))) rfl rfl rfl (by first | (rw [cN]; rfl) | simp [cN]) rfl rfl ?_
    refine rw_off (c := decide (100 < ((rs.length : Nat) : Int))) rfl rfl rfl (by first | (rw [cN]; rfl) | simp [cN]) rfl rfl ?_
    refine rw_val (v := .bool true) (w' := w7) rfl rfl rfl rfl (by first | (simp [go_sem, sEv, sLook, nbeq, i64_w, cN]; done) | (rw [cN]; simp [go_sem, sEv, sLook, nbeq, i64_w]; done) | (simp [go_sem, sEv, sLook, nbeq, i64_w] <;> omega) | (simp [go_sem, sEv, sLook, nbeq, i64_w]; intro h_; exact absurd (by omega) h_)) ?_
    refine rw_val (v := .bool true) (w' := w7) rfl rfl rfl rfl rfl ?_
    refine rw_off (c := true) rfl rfl rfl rfl rfl rfl ?_
    refine rw_off (c := true) rfl rfl rfl rfl rfl rfl ?_
    refine rw_off (c := true) rfl rfl rfl rfl rfl rfl ?_
    refine rw_val (v := .bool true) (w' := w7) rfl rfl rfl rfl (by simp [go_sem, sEv, sLook, nbeq, i64_w]) ?_
    refine rw_end ?_
    refine w_weaken (G' := [(1, .slice A2 us.length c2), (2, .pointer (some ⟨g1, 0, none⟩)), (4, .bool false), (26, .bool true)]) ⟨rfl, rfl, rfl, rfl, trivial⟩ ?_
    refine w_cond_t rfl rfl rfl ?_
    refine w_seq ?_
    refine w_region ?_
    refine rw_val (v := .bool true) (w' := w7) rfl rfl rfl rfl rfl ?_
    refine rw_end ?_
    refine w_ret (post_ret1 rfl rfl ?_)
    exact ⟨rfl, (chain hb3 hb8)⟩
end Go.Proofs.Ytgedckgkddpkkaa.PPlaceCells
