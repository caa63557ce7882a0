/- Parsing: the walk. -/
import Derived.Test.YthhepaikogcddaaFlParse2
import Derived.Test.YthhepaikogcddaaFlowE
namespace Go.Proofs.Ythhepaikogcddaa.PFloorGroup
open Go.RowKit Go.Proofs.YthhepaikogcddaaW.PrintWords Go.Proofs.YthhepaikogcddaaW.PrintLast Go.Proofs.YthhepaikogcddaaW.PrintMore
open Go.Proofs.Ythhepaikogcddaa.Flow
set_option linter.unusedVariables false
set_option linter.unusedSimpArgs false


theorem add_W (n m : Int) (w : World) : Calls Try.prog 15 #[.agg #[.int .i64 (Wh n), .int .u64 (Wl n)], .agg #[.int .i64 (Wh m), .int .u64 (Wl m)]] w fun e w' => e = .returned (.agg #[.int .i64 (Wh (n + m)), .int .u64 (Wl (n + m))]) ∧ Below w.heap.size w w' := by
  have h := wadd_calls (Wh n) (Wl n) (Wh m) (Wl m) (Wl_range n) (Wl_range m) w
  rw [wh_W, wl_W] at h
  exact h
theorem neg_W (n : Int) (w : World) : Calls Try.prog 16 #[.agg #[.int .i64 (Wh n), .int .u64 (Wl n)]] w fun e w' => e = .returned (.agg #[.int .i64 (Wh (-n)), .int .u64 (Wl (-n))]) ∧ Below w.heap.size w w' := by
  have h := wneg_calls (Wh n) (Wl n) (Wh_range n) (Wl_range n) w
  rw [nh_W, nl_W] at h
  exact h
theorem of_W (d : Int) (hd : 0 ≤ d ∧ d ≤ 9) (w : World) : Calls Try.prog 14 #[.int .i64 d] w fun e w' => e = .returned (.agg #[.int .i64 (Wh d), .int .u64 (Wl d)]) ∧ Below w.heap.size w w' := by
  have h := of_calls d w
  have e1 : d / 9223372036854775808 = Wh d := by unfold Wh wrap64; omega
  have e2 : IntKind.u64.wrap d = Wl d := by rw [u64_wrap]; unfold Wl; omega
  rw [e1, e2] at h
  exact h
def fit (n : Int) (s : ByteArray) : Int × Bool := if wtext (Wh n) (Wl n) = s then (n, true) else (0, false)
theorem fit_yes {n : Int} {s : ByteArray} (h : wtext (Wh n) (Wl n) = s) : fit n s = (n, true) := if_pos h
theorem fit_no {n : Int} {s : ByteArray} (h : ¬ wtext (Wh n) (Wl n) = s) : fit n s = (0, false) := if_neg h
theorem parsed_fit (s : ByteArray) (h1 : s.size - minus s ≤ 39) (h2 : AllDig s (minus s) (s.size - minus s)) : parsed s = fit (sgn s (pv s (minus s) (s.size - minus s))) s := by
  unfold parsed fit
  by_cases h : wtext (Wh (sgn s (pv s (minus s) (s.size - minus s)))) (Wl (sgn s (pv s (minus s) (s.size - minus s)))) = s
  · rw [if_pos ⟨h1, h2, h⟩, if_pos h]
  · rw [if_neg (fun h3 => h h3.2.2), if_neg h]
theorem parsed_no (s : ByteArray) (h : ¬ (s.size - minus s ≤ 39 ∧ AllDig s (minus s) (s.size - minus s))) : parsed s = (0, false) := by
  unfold parsed
  rw [if_neg (fun h2 => h ⟨h2.1, h2.2.1⟩)]
theorem minus_no (s : ByteArray) (h : s.size = 0 ∨ ¬ bt s 0 = 45) : minus s = 0 := by
  unfold minus
  rw [if_neg]
  rintro ⟨h1, h2⟩
  rcases h with h | h
  · omega
  · exact h h2
theorem minus_yes (s : ByteArray) (h0 : 0 < s.size) (h : bt s 0 = 45) : minus s = 1 := by unfold minus; rw [if_pos ⟨h0, h⟩]
theorem AllDig.nil (s : ByteArray) (o : Nat) : AllDig s o 0 := fun i h => by omega
def dgt (s : ByteArray) (o i : Nat) : Int := bt s ((o + i : Nat) : Int)
theorem dgt_range (s : ByteArray) (o i : Nat) : 0 ≤ dgt s o i ∧ dgt s o i ≤ 255 := bt_range s _
theorem pv_dgt (s : ByteArray) (o i : Nat) : pv s o (i + 1) = 10 * pv s o i + (dgt s o i - 48) := rfl
theorem AllDig.step {s : ByteArray} {o i : Nat} (h : AllDig s o i) (h1 : 48 ≤ dgt s o i) (h2 : dgt s o i ≤ 57) : AllDig s o (i + 1) := fun j hj => by
  by_cases hji : j = i
  · subst hji
    exact ⟨h1, h2⟩
  · exact h j (by omega)
theorem not_dig {s : ByteArray} {o n i : Nat} (hi : i < n) (h : ¬ (48 ≤ dgt s o i ∧ dgt s o i ≤ 57)) : ¬ AllDig s o n := fun ha => h (ha i hi)
set_option maxHeartbeats 4000000 in
theorem fits_calls (n : Int) (s : ByteArray) (w : World) :
    Calls Try.prog 39 #[.agg #[.int .i64 (Wh n), .int .u64 (Wl n)], .string s] w fun e w' => e = .returned (.tuple #[.agg #[.int .i64 (Wh (fit n s).1), .int .u64 (Wl (fit n s).1)], .bool (fit n s).2]) ∧ Below w.heap.size w w' := by
  refine calls_flow Try.func39 rfl 12 rfl (Nat.le_of_ble_eq_true rfl) [(0, .agg #[.int .i64 (Wh n), .int .u64 (Wl n)]), (1, .string s)] ?_ ?_
  · intro t v h; exact args_look rfl t v h
  refine w_seq ?_
  refine w_region ?_
  refine rw_new (cs := #[.int .i64 (Wh n), .int .u64 (Wl n)]) (t := 24) (fun g => .pointer (some ⟨g, 0, none⟩)) rfl rfl rfl rfl (by simp [go_sem, sEv, sLook, nbeq, i64_w]) ?_
  intro g1 w2 hg6 hz5 hb3 hk4
  have hs_w2 := hb3.size
  refine rw_new (cs := #[.int .i64 0, .int .u64 0]) (t := 24) (fun g => .pointer (some ⟨g, 0, none⟩)) rfl rfl rfl rfl (by kernel_rfl) ?_
  intro g7 w8 hg12 hz11 hb9 hk10
  have hs_w8 := hb9.size
  refine rw_val (v := .bool false) (w' := w8) rfl rfl rfl rfl rfl ?_
  refine rw_end ?_
  refine w_seq ?_
  refine w_seq ?_
  refine w_region ?_
  refine rw_val (v := .agg #[.int .i64 (Wh n), .int .u64 (Wl n)]) (w' := w8) rfl rfl rfl rfl (by have eb_ := (hk4.on hb9); have e0_ := eb_.cellv (i := 0) (v := (.int .i64 (Wh n) : Value)) rfl; have e1_ := eb_.cellv (i := 1) (v := (.int .u64 (Wl n) : Value)) rfl; simp [go_sem, sEv, sLook, nbeq, i64_w, e0_, e1_, Try.underlying24]) ?_
  refine rw_call rfl rfl rfl rfl (f := 31) (args := #[.agg #[.int .i64 (Wh n), .int .u64 (Wl n)]]) (by simp [go_sem, sEv, sLook, nbeq, i64_w]) (text_calls (Wh n) (Wl n) (Wh_range _) (Wl_range _) w8) ?_
  rintro e_ w13 ⟨rfl, hb14⟩
  refine ⟨_, rfl, ?_⟩
  have hs_w13 := hb14.size
  refine rw_val (v := .string s) (w' := w13) rfl rfl rfl rfl rfl ?_
  refine rw_val (v := .bool (!decide (wtext (Wh n) (Wl n) = s))) (w' := w13) rfl rfl rfl rfl (run_as (run_str_neq 9 _ _ _)) ?_
  refine rw_end ?_
  refine w_weaken (G' := [(2, .pointer (some ⟨g1, 0, none⟩)), (4, .pointer (some ⟨g7, 0, none⟩)), (5, .bool false), (9, .bool (!decide (wtext (Wh n) (Wl n) = s)))]) ⟨rfl, rfl, rfl, rfl, trivial⟩ ?_
  refine w_cond rfl rfl (fun cF => ?_) (fun cF => ?_)
  · refine w_seq ?_
    refine w_region ?_
    refine rw_val (v := .agg #[.int .i64 0, .int .u64 0]) (w' := w13) rfl rfl rfl rfl (by kernel_rfl) ?_
    have hb18 := (hk10.on hb14)
    refine rw_store (g := g7) (i := 0) (l := [.int .i64 0, .int .u64 0]) (cs' := #[.int .i64 0, .int .u64 0]) rfl rfl rfl hb18 rfl (by have e0_ := hb18.cellv (i := 0) (v := (.int .i64 0 : Value)) rfl; have f0_ := hb18.frozen 0; have e1_ := hb18.cellv (i := 1) (v := (.int .u64 0 : Value)) rfl; have f1_ := hb18.frozen 1; simp [go_sem, sEv, sLook, nbeq, i64_w, putCells, e0_, f0_, e1_, f1_, Try.underlying24]) ?_
    intro w15 hk16 hk17
    have hs_w15 := hk16.size
    refine rw_val (v := .bool false) (w' := w15) rfl rfl rfl rfl rfl ?_
    refine rw_end ?_
    refine w_ret (post_retct (v := .agg #[.int .i64 0, .int .u64 0]) rfl rfl rfl (by have eb_ := hk17; have e0_ := eb_.cellv (i := 0) (v := (.int .i64 0 : Value)) rfl; have e1_ := eb_.cellv (i := 1) (v := (.int .u64 0 : Value)) rfl; simp [go_sem, e0_, e1_, Try.underlying24]) ?_)
    refine ⟨?_, (hk16.below (by omega) (chain (chain hb3 hb9) hb14))⟩
    rw [fit_no (by simpa using cF), Wh0, Wl0]
  · refine w_skip ?_
    refine w_seq ?_
    refine w_region ?_
    refine rw_val (v := .agg #[.int .i64 (Wh n), .int .u64 (Wl n)]) (w' := w13) rfl rfl rfl rfl (by have eb_ := ((hk4.on hb9).on hb14); have e0_ := eb_.cellv (i := 0) (v := (.int .i64 (Wh n) : Value)) rfl; have e1_ := eb_.cellv (i := 1) (v := (.int .u64 (Wl n) : Value)) rfl; simp [go_sem, sEv, sLook, nbeq, i64_w, e0_, e1_, Try.underlying24]) ?_
    have hb22 := (hk10.on hb14)
    refine rw_store (g := g7) (i := 0) (l := [.int .i64 (Wh n), .int .u64 (Wl n)]) (cs' := #[.int .i64 (Wh n), .int .u64 (Wl n)]) rfl rfl rfl hb22 rfl (by have e0_ := hb22.cellv (i := 0) (v := (.int .i64 0 : Value)) rfl; have f0_ := hb22.frozen 0; have e1_ := hb22.cellv (i := 1) (v := (.int .u64 0 : Value)) rfl; have f1_ := hb22.frozen 1; simp [go_sem, sEv, sLook, nbeq, i64_w, putCells, e0_, f0_, e1_, f1_, Try.underlying24]) ?_
    intro w19 hk20 hk21
    have hs_w19 := hk20.size
    refine rw_val (v := .bool true) (w' := w19) rfl rfl rfl rfl rfl ?_
    refine rw_end ?_
    refine w_ret (post_retct (v := .agg #[.int .i64 (Wh n), .int .u64 (Wl n)]) rfl rfl rfl (by have eb_ := hk21; have e0_ := eb_.cellv (i := 0) (v := (.int .i64 (Wh n) : Value)) rfl; have e1_ := eb_.cellv (i := 1) (v := (.int .u64 (Wl n) : Value)) rfl; simp [go_sem, e0_, e1_, Try.underlying24]) ?_)
    refine ⟨?_, (hk20.below (by omega) (chain (chain hb3 hb9) hb14))⟩
    rw [fit_yes (by simpa using cF)]
set_option maxHeartbeats 4000000 in
theorem parse_A (s : ByteArray) (n : Nat) (hnn : s.size = n) (hE : s.size = 0) (w : World) :
    Calls Try.prog 30 #[.string s] w fun e w' => e = .returned (.tuple #[.agg #[.int .i64 (Wh (parsed s).1), .int .u64 (Wl (parsed s).1)], .bool (parsed s).2]) ∧ Below w.heap.size w w' := by
  refine calls_flow Try.func30 rfl 66 rfl (Nat.le_of_ble_eq_true rfl) [(0, .string s)] ?_ ?_
  · intro t v h; exact args_look rfl t v h
  refine w_seq ?_
  refine w_region ?_
  refine rw_new (cs := #[.int .i64 0, .int .u64 0]) (t := 24) (fun g => .pointer (some ⟨g, 0, none⟩)) rfl rfl rfl rfl (by kernel_rfl) ?_
  intro g1 w2 hg6 hz5 hb3 hk4
  have hs_w2 := hb3.size
  refine rw_val (v := .bool false) (w' := w2) rfl rfl rfl rfl rfl ?_
  refine rw_end ?_
  refine w_seq ?_
  refine w_region ?_
  refine rw_val (v := .string s) (w' := w2) rfl rfl rfl rfl rfl ?_
  refine rw_val (v := .string s) (w' := w2) rfl rfl rfl rfl rfl ?_
  refine rw_val (v := .bool false) (w' := w2) rfl rfl rfl rfl rfl ?_
  refine rw_end ?_
  refine w_seq ?_
  refine w_seq ?_
  refine w_region ?_
  refine rw_val (v := .string s) (w' := w2) rfl rfl rfl rfl rfl ?_
  refine rw_val (v := .bool false) (w' := w2) rfl rfl rfl rfl (run_bool (run_as (run_str_neq 9 _ _ _)) (ne_false (by omega))) ?_
  refine rw_val (v := .bool false) (w' := w2) rfl rfl rfl rfl rfl ?_
  refine rw_off (c := false) rfl rfl rfl rfl rfl rfl ?_
  refine rw_off (c := false) rfl rfl rfl rfl rfl rfl ?_
  refine rw_off (c := false) rfl rfl rfl rfl rfl rfl ?_
  refine rw_val (v := .bool false) (w' := w2) rfl rfl rfl rfl (by simp [go_sem, sEv, sLook, nbeq, i64_w]) ?_
  refine rw_end ?_
  refine w_weaken (G' := [(0, .string s), (2, .pointer (some ⟨g1, 0, none⟩)), (3, .bool false), (4, .string s), (5, .bool false), (18, .bool false)]) ⟨rfl, rfl, rfl, rfl, rfl, rfl, trivial⟩ ?_
  refine w_cond_f rfl rfl rfl ?_
  refine w_skip ?_
  refine w_seq ?_
  refine w_seq ?_
  refine w_region ?_
  refine rw_val (v := .string s) (w' := w2) rfl rfl rfl rfl rfl ?_
  refine rw_val (v := .int .i64 (n : Int)) (w' := w2) rfl rfl rfl rfl (by simp [go_sem, sEv, sLook, nbeq, i64_w]; omega) ?_
  refine rw_val (v := .bool (decide (39 < (n : Int)))) (w' := w2) rfl rfl rfl rfl (by simp [go_sem, sEv, sLook, nbeq, i64_w]) ?_
  refine rw_end ?_
  refine w_cond rfl rfl (fun c39 => ?_) (fun c39 => ?_)
  · refine w_seq ?_
    refine w_region ?_
    refine rw_val (v := .agg #[.int .i64 0, .int .u64 0]) (w' := w2) rfl rfl rfl rfl (by kernel_rfl) ?_
    have hb10 := hk4
    refine rw_store (g := g1) (i := 0) (l := [.int .i64 0, .int .u64 0]) (cs' := #[.int .i64 0, .int .u64 0]) rfl rfl rfl hb10 rfl (by have e0_ := hb10.cellv (i := 0) (v := (.int .i64 0 : Value)) rfl; have f0_ := hb10.frozen 0; have e1_ := hb10.cellv (i := 1) (v := (.int .u64 0 : Value)) rfl; have f1_ := hb10.frozen 1; simp [go_sem, sEv, sLook, nbeq, i64_w, putCells, e0_, f0_, e1_, f1_, Try.underlying24]) ?_
    intro w7 hk8 hk9
    have hs_w7 := hk8.size
    refine rw_val (v := .bool false) (w' := w7) rfl rfl rfl rfl rfl ?_
    refine rw_end ?_
    refine w_ret (post_retct (v := .agg #[.int .i64 0, .int .u64 0]) rfl rfl rfl (by have eb_ := hk9; have e0_ := eb_.cellv (i := 0) (v := (.int .i64 0 : Value)) rfl; have e1_ := eb_.cellv (i := 1) (v := (.int .u64 0 : Value)) rfl; simp [go_sem, e0_, e1_, Try.underlying24]) ?_)
    refine ⟨?_, (hk8.below (by omega) hb3)⟩
    have hm_ := minus_no s (Or.inl (by omega))
    rw [parsed_no s ?_, Wh0, Wl0]
    rw [hm_, (show s.size - 0 = n by omega)]
    rintro ⟨p1, p2⟩
    have := of_decide_eq_true c39
    omega
  · refine w_skip ?_
    refine w_seq ?_
    refine w_region ?_
    refine rw_new (cs := #[.int .i64 0, .int .u64 0]) (t := 24) (fun g => .pointer (some ⟨g, 0, none⟩)) rfl rfl rfl rfl (by kernel_rfl) ?_
    intro g11 w12 hg16 hz15 hb13 hk14
    have hs_w12 := hb13.size
    refine rw_end ?_
    refine w_seq ?_
    refine w_seq ?_
    refine w_region ?_
    refine rw_val (v := .string s) (w' := w12) rfl rfl rfl rfl rfl ?_
    obtain ⟨gc, cap, w17, hrun_, hb18, hgc, hzc, hcell⟩ := conv_bytes (P := Try.prog) 9 52 5 (by kernel_rfl) (by kernel_rfl) (by kernel_rfl) w12 s
    rw [show (s).size = n by omega] at hrun_ hcell
    refine rw_val (v := .slice (some ⟨gc, 0, none⟩) n cap) (w' := w17) rfl rfl rfl rfl (run_as hrun_) ?_
    have hs_w17 := hb18.size
    have hcl : ∀ i, i < n → w17.cell? ⟨gc, i, none⟩ = some (.int .u8 (dgt s 0 i)) := fun i hi => by
      rw [hcell i hi]
      unfold dgt; rw [Nat.zero_add]
    refine rw_val (v := .int .i64 (n : Int)) (w' := w17) rfl rfl rfl rfl (by simp [go_sem, sEv, sLook, nbeq, i64_w]) ?_
    refine rw_val (v := .int .i64 0) (w' := w17) rfl rfl rfl rfl rfl ?_
    refine rw_end ?_
    refine w_weaken (G' := [(0, .string s), (2, .pointer (some ⟨g1, 0, none⟩)), (3, .bool false), (5, .bool false), (6, .pointer (some ⟨g11, 0, none⟩)), (26, .slice (some ⟨gc, 0, none⟩) n cap), (27, .int .i64 (n : Int)), (28, .int .i64 0)]) ⟨rfl, rfl, rfl, rfl, rfl, rfl, rfl, rfl, trivial⟩ ?_
    refine w_block ?_
    have h6_ : Blk w17 g11 24 #[.int .i64 (Wh (pv s 0 0)), .int .u64 (Wl (pv s 0 0))] := by
      have h_ := (hk14.on hb18)
      simp only [pv, Wh0, Wl0]
      exact h_
    have hcl0_ : ∀ j, j < n → w17.cell? ⟨gc, j, none⟩ = some (.int .u8 (dgt s 0 j)) := fun j hj => cellOn (hcl j hj) (Below.refl _ _)
    refine w_loop (fun m G W_ => ∃ i : Nat, i + m = n ∧ AllDig s 0 i ∧ G = [(0, .string s), (2, .pointer (some ⟨g1, 0, none⟩)), (3, .bool false), (5, .bool false), (6, .pointer (some ⟨g11, 0, none⟩)), (26, .slice (some ⟨gc, 0, none⟩) n cap), (27, .int .i64 (n : Int)), (28, .int .i64 (i : Int))] ∧ Below w.heap.size w W_ ∧ Blk W_ g1 24 #[.int .i64 0, .int .u64 0] ∧ Blk W_ g11 24 #[.int .i64 (Wh (pv s 0 i)), .int .u64 (Wl (pv s 0 i))] ∧ (gc < W_.heap.size) ∧ ∀ j, j < n → W_.cell? ⟨gc, j, none⟩ = some (.int .u8 (dgt s 0 j))) n [(0, .string s), (2, .pointer (some ⟨g1, 0, none⟩)), (3, .bool false), (5, .bool false), (6, .pointer (some ⟨g11, 0, none⟩)), (26, .slice (some ⟨gc, 0, none⟩) n cap), (27, .int .i64 (n : Int)), (28, .int .i64 0)] ⟨0, by omega, AllDig.nil _ _, rfl, (chain (chain hb3 hb13) hb18), ((hk4.on hb13).on hb18), h6_, by omega, hcl0_⟩ ⟨rfl, rfl, rfl, rfl, rfl, rfl, rfl, rfl, trivial⟩ ?_
    rintro m G w_ ⟨i, him, hall, rfl, hB, hb2_, hb6_, hgc_, hcl_⟩
    have hs_w_ := hB.size
    refine w_seq ?_
    refine w_region ?_
    refine rw_val (v := .bool (decide ((i : Int) < (n : Int)))) (w' := w_) rfl rfl rfl rfl (by simp [go_sem, sEv, sLook, nbeq, i64_w]) ?_
    refine rw_end ?_
    refine w_seq ?_
    refine w_cond rfl rfl (fun cL => ?_) (fun cL => ?_)
    · refine w_skip ?_
      refine w_seq ?_
      refine w_block ?_
      refine w_seq ?_
      refine w_region ?_
      have l_ := of_decide_eq_true cL
      refine rw_val (v := .pointer (some ⟨gc, i, none⟩)) (w' := w_) rfl rfl rfl rfl (by simp [go_sem, sEv, sLook, nbeq, i64_w, Try.underlying52, add_plain]; omega) ?_
      have hc_ := hcl_ i (by omega)
      refine rw_val (v := .int .u8 (dgt s 0 i)) (w' := w_) rfl rfl rfl rfl (by simp [go_sem, sEv, sLook, nbeq, i64_w, hc_]) ?_
      refine rw_val (v := .int .u8 (dgt s 0 i)) (w' := w_) rfl rfl rfl rfl rfl ?_
      refine rw_end ?_
      refine w_seq ?_
      refine w_seq ?_
      refine w_region ?_
      refine rw_val (v := .int .u8 (dgt s 0 i)) (w' := w_) rfl rfl rfl rfl rfl ?_
      refine rw_val (v := .bool (decide ((dgt s 0 i) < 48))) (w' := w_) rfl rfl rfl rfl (by simp [go_sem, sEv, sLook, nbeq, i64_w]) ?_
      refine rw_val (v := .bool (decide ((dgt s 0 i) < 48))) (w' := w_) rfl rfl rfl rfl rfl ?_
      rcases bcase (decide ((dgt s 0 i) < 48)) with c33 | c33
      · refine rw_gval (c := decide ((dgt s 0 i) < 48)) (v := .int .u8 (dgt s 0 i)) (w' := w_) rfl rfl rfl (by simp [c33]) rfl rfl rfl (by rfl) ?_
        refine rw_gval (c := decide ((dgt s 0 i) < 48)) (v := .bool (decide (57 < (dgt s 0 i)))) (w' := w_) rfl rfl rfl (by simp [c33]) rfl rfl rfl (by simp [go_sem, sEv, sLook, nbeq, i64_w]) ?_
        refine rw_val (v := .bool (decide (57 < (dgt s 0 i)))) (w' := w_) rfl rfl rfl rfl (by simp [go_sem, sEv, sLook, nbeq, i64_w, c33]) ?_
        refine rw_end ?_
        refine w_weaken (G' := [(0, .string s), (2, .pointer (some ⟨g1, 0, none⟩)), (3, .bool false), (5, .bool false), (6, .pointer (some ⟨g11, 0, none⟩)), (8, .int .u8 (dgt s 0 i)), (26, .slice (some ⟨gc, 0, none⟩) n cap), (27, .int .i64 (n : Int)), (28, .int .i64 (i : Int)), (37, .bool (decide (57 < (dgt s 0 i))))]) ⟨rfl, rfl, rfl, rfl, rfl, rfl, rfl, rfl, rfl, rfl, trivial⟩ ?_
        refine w_cond rfl rfl (fun c36 => ?_) (fun c36 => ?_)
        · refine w_seq ?_
          refine w_region ?_
          refine rw_val (v := .agg #[.int .i64 0, .int .u64 0]) (w' := w_) rfl rfl rfl rfl (by kernel_rfl) ?_
          have hb22 := hb2_
          refine rw_store (g := g1) (i := 0) (l := [.int .i64 0, .int .u64 0]) (cs' := #[.int .i64 0, .int .u64 0]) rfl rfl rfl hb22 rfl (by have e0_ := hb22.cellv (i := 0) (v := (.int .i64 0 : Value)) rfl; have f0_ := hb22.frozen 0; have e1_ := hb22.cellv (i := 1) (v := (.int .u64 0 : Value)) rfl; have f1_ := hb22.frozen 1; simp [go_sem, sEv, sLook, nbeq, i64_w, putCells, e0_, f0_, e1_, f1_, Try.underlying24]) ?_
          intro w19 hk20 hk21
          have hs_w19 := hk20.size
          refine rw_val (v := .bool false) (w' := w19) rfl rfl rfl rfl rfl ?_
          refine rw_end ?_
          refine w_ret (post_retct (v := .agg #[.int .i64 0, .int .u64 0]) rfl rfl rfl (by have eb_ := hk21; have e0_ := eb_.cellv (i := 0) (v := (.int .i64 0 : Value)) rfl; have e1_ := eb_.cellv (i := 1) (v := (.int .u64 0 : Value)) rfl; simp [go_sem, e0_, e1_, Try.underlying24]) ?_)
          refine ⟨?_, (hk20.below (by omega) hB)⟩
          have hm_ := minus_no s (Or.inl (by omega))
          rw [parsed_no s ?_, Wh0, Wl0]
          rw [hm_, (show s.size - 0 = n by omega)]
          rintro ⟨p1, p2⟩
          have := of_decide_eq_true c36
          have l_ := of_decide_eq_true cL
          exact not_dig (show i < n by omega) (by omega) p2
        · refine w_skip ?_
          refine w_seq ?_
          refine w_region ?_
          refine rw_val (v := .agg #[.int .i64 (Wh (pv s 0 i)), .int .u64 (Wl (pv s 0 i))]) (w' := w_) rfl rfl rfl rfl (by have eb_ := hb6_; have e0_ := eb_.cellv (i := 0) (v := (.int .i64 (Wh (pv s 0 i)) : Value)) rfl; have e1_ := eb_.cellv (i := 1) (v := (.int .u64 (Wl (pv s 0 i)) : Value)) rfl; simp [go_sem, sEv, sLook, nbeq, i64_w, e0_, e1_, Try.underlying24]) ?_
          refine rw_val (v := .agg #[.int .i64 (Wh (pv s 0 i)), .int .u64 (Wl (pv s 0 i))]) (w' := w_) rfl rfl rfl rfl (by have eb_ := hb6_; have e0_ := eb_.cellv (i := 0) (v := (.int .i64 (Wh (pv s 0 i)) : Value)) rfl; have e1_ := eb_.cellv (i := 1) (v := (.int .u64 (Wl (pv s 0 i)) : Value)) rfl; simp [go_sem, sEv, sLook, nbeq, i64_w, e0_, e1_, Try.underlying24]) ?_
          refine rw_call rfl rfl rfl rfl (f := 15) (args := #[.agg #[.int .i64 (Wh (pv s 0 i)), .int .u64 (Wl (pv s 0 i))], .agg #[.int .i64 (Wh (pv s 0 i)), .int .u64 (Wl (pv s 0 i))]]) (by simp [go_sem, sEv, sLook, nbeq, i64_w]) (add_W (pv s 0 i) (pv s 0 i) w_) ?_
          rintro e_ w23 ⟨rfl, hb24⟩
          refine ⟨_, rfl, ?_⟩
          have hs_w23 := hb24.size
          refine rw_new (cs := #[.int .i64 0, .int .u64 0]) (t := 24) (fun g => .pointer (some ⟨g, 0, none⟩)) rfl rfl rfl rfl (by kernel_rfl) ?_
          intro g25 w26 hg30 hz29 hb27 hk28
          have hs_w26 := hb27.size
          have hb34 := hk28
          refine rw_store (g := g25) (i := 0) (l := [.int .i64 (Wh ((pv s 0 i) + (pv s 0 i))), .int .u64 (Wl ((pv s 0 i) + (pv s 0 i)))]) (cs' := #[.int .i64 (Wh ((pv s 0 i) + (pv s 0 i))), .int .u64 (Wl ((pv s 0 i) + (pv s 0 i)))]) rfl rfl rfl hb34 rfl (by have e0_ := hb34.cellv (i := 0) (v := (.int .i64 0 : Value)) rfl; have f0_ := hb34.frozen 0; have e1_ := hb34.cellv (i := 1) (v := (.int .u64 0 : Value)) rfl; have f1_ := hb34.frozen 1; simp [go_sem, sEv, sLook, nbeq, i64_w, putCells, e0_, f0_, e1_, f1_, Try.underlying24]) ?_
          intro w31 hk32 hk33
          have hs_w31 := hk32.size
          refine rw_end ?_
          refine w_weaken (G' := [(0, .string s), (2, .pointer (some ⟨g1, 0, none⟩)), (3, .bool false), (5, .bool false), (6, .pointer (some ⟨g11, 0, none⟩)), (8, .int .u8 (dgt s 0 i)), (9, .pointer (some ⟨g25, 0, none⟩)), (26, .slice (some ⟨gc, 0, none⟩) n cap), (27, .int .i64 (n : Int)), (28, .int .i64 (i : Int))]) ⟨rfl, rfl, rfl, rfl, rfl, rfl, rfl, rfl, rfl, rfl, trivial⟩ ?_
          refine w_seq ?_
          refine w_drawk (M := [0, 0, 3, 0, 0, 31, 63, 0, 255]) (ss := [Is (.agg #[.int .i64 (Wh ((pv s 0 i) + (pv s 0 i))), .int .u64 (Wl ((pv s 0 i) + (pv s 0 i)))]), Is (.agg #[.int .i64 (Wh ((pv s 0 i) + (pv s 0 i))), .int .u64 (Wl ((pv s 0 i) + (pv s 0 i)))]), (Is (.agg #[.int .i64 (Wh (((pv s 0 i) + (pv s 0 i)) + ((pv s 0 i) + (pv s 0 i)))), .int .u64 (Wl (((pv s 0 i) + (pv s 0 i)) + ((pv s 0 i) + (pv s 0 i))))])), Is (.agg #[.int .i64 (Wh ((pv s 0 i) + (pv s 0 i))), .int .u64 (Wl ((pv s 0 i) + (pv s 0 i)))]), Is (.agg #[.int .i64 (Wh ((pv s 0 i) + (pv s 0 i))), .int .u64 (Wl ((pv s 0 i) + (pv s 0 i)))]), (Is (.agg #[.int .i64 (Wh (((pv s 0 i) + (pv s 0 i)) + ((pv s 0 i) + (pv s 0 i)))), .int .u64 (Wl (((pv s 0 i) + (pv s 0 i)) + ((pv s 0 i) + (pv s 0 i))))])), (Is (.agg #[.int .i64 (Wh ((((pv s 0 i) + (pv s 0 i)) + ((pv s 0 i) + (pv s 0 i))) + (((pv s 0 i) + (pv s 0 i)) + ((pv s 0 i) + (pv s 0 i))))), .int .u64 (Wl ((((pv s 0 i) + (pv s 0 i)) + ((pv s 0 i) + (pv s 0 i))) + (((pv s 0 i) + (pv s 0 i)) + ((pv s 0 i) + (pv s 0 i)))))])), BlkSpec w31.heap.size 24 #[.int .i64 0, .int .u64 0]]) 8 rfl (by decide +kernel) ?_
          refine t_is (.agg #[.int .i64 (Wh ((pv s 0 i) + (pv s 0 i))), .int .u64 (Wl ((pv s 0 i) + (pv s 0 i)))]) rfl rfl rfl rfl (fun W_ hW_ F_ => by have eb_ := (hk33.on (below_of_drew hW_)); have e0_ := eb_.cellv (i := 0) (v := (.int .i64 (Wh ((pv s 0 i) + (pv s 0 i))) : Value)) rfl; have e1_ := eb_.cellv (i := 1) (v := (.int .u64 (Wl ((pv s 0 i) + (pv s 0 i))) : Value)) rfl; simp [go_sem, sEv, sLook, nbeq, i64_w, e0_, e1_, Try.underlying24]) ?_
          refine t_is (.agg #[.int .i64 (Wh ((pv s 0 i) + (pv s 0 i))), .int .u64 (Wl ((pv s 0 i) + (pv s 0 i)))]) rfl rfl rfl rfl (fun W_ hW_ F_ => by have eb_ := (hk33.on (below_of_drew hW_)); have e0_ := eb_.cellv (i := 0) (v := (.int .i64 (Wh ((pv s 0 i) + (pv s 0 i))) : Value)) rfl; have e1_ := eb_.cellv (i := 1) (v := (.int .u64 (Wl ((pv s 0 i) + (pv s 0 i))) : Value)) rfl; simp [go_sem, sEv, sLook, nbeq, i64_w, e0_, e1_, Try.underlying24]) ?_
          refine t_call (f := 15) (args := #[.agg #[.int .i64 (Wh ((pv s 0 i) + (pv s 0 i))), .int .u64 (Wl ((pv s 0 i) + (pv s 0 i)))], .agg #[.int .i64 (Wh ((pv s 0 i) + (pv s 0 i))), .int .u64 (Wl ((pv s 0 i) + (pv s 0 i)))]]) (Is (.agg #[.int .i64 (Wh (((pv s 0 i) + (pv s 0 i)) + ((pv s 0 i) + (pv s 0 i)))), .int .u64 (Wl (((pv s 0 i) + (pv s 0 i)) + ((pv s 0 i) + (pv s 0 i))))])) rfl rfl rfl rfl (fun W_ => by simp [go_sem, sEv, sLook, nbeq, i64_w]) (fun W_ hW_ F_ => ?_) ?_
          · refine (add_W ((pv s 0 i) + (pv s 0 i)) ((pv s 0 i) + (pv s 0 i)) W_).mono ?_
            rintro e_ w_ ⟨rfl, hd_⟩
            exact ⟨_, rfl, rfl, hd_⟩
          rintro _ rfl
          refine t_is (.agg #[.int .i64 (Wh ((pv s 0 i) + (pv s 0 i))), .int .u64 (Wl ((pv s 0 i) + (pv s 0 i)))]) rfl rfl rfl rfl (fun W_ hW_ F_ => by have eb_ := (hk33.on (below_of_drew hW_)); have e0_ := eb_.cellv (i := 0) (v := (.int .i64 (Wh ((pv s 0 i) + (pv s 0 i))) : Value)) rfl; have e1_ := eb_.cellv (i := 1) (v := (.int .u64 (Wl ((pv s 0 i) + (pv s 0 i))) : Value)) rfl; simp [go_sem, sEv, sLook, nbeq, i64_w, e0_, e1_, Try.underlying24]) ?_
          refine t_is (.agg #[.int .i64 (Wh ((pv s 0 i) + (pv s 0 i))), .int .u64 (Wl ((pv s 0 i) + (pv s 0 i)))]) rfl rfl rfl rfl (fun W_ hW_ F_ => by have eb_ := (hk33.on (below_of_drew hW_)); have e0_ := eb_.cellv (i := 0) (v := (.int .i64 (Wh ((pv s 0 i) + (pv s 0 i))) : Value)) rfl; have e1_ := eb_.cellv (i := 1) (v := (.int .u64 (Wl ((pv s 0 i) + (pv s 0 i))) : Value)) rfl; simp [go_sem, sEv, sLook, nbeq, i64_w, e0_, e1_, Try.underlying24]) ?_
          refine t_call (f := 15) (args := #[.agg #[.int .i64 (Wh ((pv s 0 i) + (pv s 0 i))), .int .u64 (Wl ((pv s 0 i) + (pv s 0 i)))], .agg #[.int .i64 (Wh ((pv s 0 i) + (pv s 0 i))), .int .u64 (Wl ((pv s 0 i) + (pv s 0 i)))]]) (Is (.agg #[.int .i64 (Wh (((pv s 0 i) + (pv s 0 i)) + ((pv s 0 i) + (pv s 0 i)))), .int .u64 (Wl (((pv s 0 i) + (pv s 0 i)) + ((pv s 0 i) + (pv s 0 i))))])) rfl rfl rfl rfl (fun W_ => by simp [go_sem, sEv, sLook, nbeq, i64_w]) (fun W_ hW_ F_ => ?_) ?_
          · refine (add_W ((pv s 0 i) + (pv s 0 i)) ((pv s 0 i) + (pv s 0 i)) W_).mono ?_
            rintro e_ w_ ⟨rfl, hd_⟩
            exact ⟨_, rfl, rfl, hd_⟩
          rintro _ rfl
          refine t_call (f := 15) (args := #[.agg #[.int .i64 (Wh (((pv s 0 i) + (pv s 0 i)) + ((pv s 0 i) + (pv s 0 i)))), .int .u64 (Wl (((pv s 0 i) + (pv s 0 i)) + ((pv s 0 i) + (pv s 0 i))))], .agg #[.int .i64 (Wh (((pv s 0 i) + (pv s 0 i)) + ((pv s 0 i) + (pv s 0 i)))), .int .u64 (Wl (((pv s 0 i) + (pv s 0 i)) + ((pv s 0 i) + (pv s 0 i))))]]) (Is (.agg #[.int .i64 (Wh ((((pv s 0 i) + (pv s 0 i)) + ((pv s 0 i) + (pv s 0 i))) + (((pv s 0 i) + (pv s 0 i)) + ((pv s 0 i) + (pv s 0 i))))), .int .u64 (Wl ((((pv s 0 i) + (pv s 0 i)) + ((pv s 0 i) + (pv s 0 i))) + (((pv s 0 i) + (pv s 0 i)) + ((pv s 0 i) + (pv s 0 i)))))])) rfl rfl rfl rfl (fun W_ => by simp [go_sem, sEv, sLook, nbeq, i64_w]) (fun W_ hW_ F_ => ?_) ?_
          · refine (add_W (((pv s 0 i) + (pv s 0 i)) + ((pv s 0 i) + (pv s 0 i))) (((pv s 0 i) + (pv s 0 i)) + ((pv s 0 i) + (pv s 0 i))) W_).mono ?_
            rintro e_ w_ ⟨rfl, hd_⟩
            exact ⟨_, rfl, rfl, hd_⟩
          rintro _ rfl
          refine t_val (BlkSpec w31.heap.size 24 #[.int .i64 0, .int .u64 0]) rfl rfl rfl rfl (fun W_ hW_ F_ => blk_gives _ _ _ (below_of_drew hW_).size (by kernel_rfl)) ?_
          rintro _ ⟨g35, rfl⟩
          refine t_tail ?_
          intro w38 hb39_ F40
          have hb39 := below_of_drew hb39_
          have hs_w38 := hb39.size
          obtain ⟨hge37, hk36⟩ := blk_fact (F40 7 _ _ rfl)
          have hlt_g35 := hk36.lt
          have hb44 := hk36
          refine rw_store (g := g35) (i := 0) (l := [.int .i64 (Wh ((((pv s 0 i) + (pv s 0 i)) + ((pv s 0 i) + (pv s 0 i))) + (((pv s 0 i) + (pv s 0 i)) + ((pv s 0 i) + (pv s 0 i))))), .int .u64 (Wl ((((pv s 0 i) + (pv s 0 i)) + ((pv s 0 i) + (pv s 0 i))) + (((pv s 0 i) + (pv s 0 i)) + ((pv s 0 i) + (pv s 0 i)))))]) (cs' := #[.int .i64 (Wh ((((pv s 0 i) + (pv s 0 i)) + ((pv s 0 i) + (pv s 0 i))) + (((pv s 0 i) + (pv s 0 i)) + ((pv s 0 i) + (pv s 0 i))))), .int .u64 (Wl ((((pv s 0 i) + (pv s 0 i)) + ((pv s 0 i) + (pv s 0 i))) + (((pv s 0 i) + (pv s 0 i)) + ((pv s 0 i) + (pv s 0 i)))))]) rfl rfl rfl hb44 rfl (by have e0_ := hb44.cellv (i := 0) (v := (.int .i64 0 : Value)) rfl; have f0_ := hb44.frozen 0; have e1_ := hb44.cellv (i := 1) (v := (.int .u64 0 : Value)) rfl; have f1_ := hb44.frozen 1; simp [go_sem, sEv, sLook, nbeq, i64_w, putCells, e0_, f0_, e1_, f1_, Try.underlying24]) ?_
          intro w41 hk42 hk43
          have hs_w41 := hk42.size
          refine rw_end ?_
          refine w_weaken (G' := [(0, .string s), (2, .pointer (some ⟨g1, 0, none⟩)), (3, .bool false), (5, .bool false), (6, .pointer (some ⟨g11, 0, none⟩)), (8, .int .u8 (dgt s 0 i)), (9, .pointer (some ⟨g25, 0, none⟩)), (10, .pointer (some ⟨g35, 0, none⟩)), (26, .slice (some ⟨gc, 0, none⟩) n cap), (27, .int .i64 (n : Int)), (28, .int .i64 (i : Int))]) ⟨rfl, rfl, rfl, rfl, rfl, rfl, rfl, rfl, rfl, rfl, rfl, trivial⟩ ?_
          refine w_region ?_
          refine rw_val (v := .agg #[.int .i64 (Wh ((((pv s 0 i) + (pv s 0 i)) + ((pv s 0 i) + (pv s 0 i))) + (((pv s 0 i) + (pv s 0 i)) + ((pv s 0 i) + (pv s 0 i))))), .int .u64 (Wl ((((pv s 0 i) + (pv s 0 i)) + ((pv s 0 i) + (pv s 0 i))) + (((pv s 0 i) + (pv s 0 i)) + ((pv s 0 i) + (pv s 0 i)))))]) (w' := w41) rfl rfl rfl rfl (by have eb_ := hk43; have e0_ := eb_.cellv (i := 0) (v := (.int .i64 (Wh ((((pv s 0 i) + (pv s 0 i)) + ((pv s 0 i) + (pv s 0 i))) + (((pv s 0 i) + (pv s 0 i)) + ((pv s 0 i) + (pv s 0 i))))) : Value)) rfl; have e1_ := eb_.cellv (i := 1) (v := (.int .u64 (Wl ((((pv s 0 i) + (pv s 0 i)) + ((pv s 0 i) + (pv s 0 i))) + (((pv s 0 i) + (pv s 0 i)) + ((pv s 0 i) + (pv s 0 i))))) : Value)) rfl; simp [go_sem, sEv, sLook, nbeq, i64_w, e0_, e1_, Try.underlying24]) ?_
          refine rw_val (v := .agg #[.int .i64 (Wh ((pv s 0 i) + (pv s 0 i))), .int .u64 (Wl ((pv s 0 i) + (pv s 0 i)))]) (w' := w41) rfl rfl rfl rfl (by have eb_ := ((hk33.on hb39).keep hk42 (by omega)); have e0_ := eb_.cellv (i := 0) (v := (.int .i64 (Wh ((pv s 0 i) + (pv s 0 i))) : Value)) rfl; have e1_ := eb_.cellv (i := 1) (v := (.int .u64 (Wl ((pv s 0 i) + (pv s 0 i))) : Value)) rfl; simp [go_sem, sEv, sLook, nbeq, i64_w, e0_, e1_, Try.underlying24]) ?_
          refine rw_call rfl rfl rfl rfl (f := 15) (args := #[.agg #[.int .i64 (Wh ((((pv s 0 i) + (pv s 0 i)) + ((pv s 0 i) + (pv s 0 i))) + (((pv s 0 i) + (pv s 0 i)) + ((pv s 0 i) + (pv s 0 i))))), .int .u64 (Wl ((((pv s 0 i) + (pv s 0 i)) + ((pv s 0 i) + (pv s 0 i))) + (((pv s 0 i) + (pv s 0 i)) + ((pv s 0 i) + (pv s 0 i)))))], .agg #[.int .i64 (Wh ((pv s 0 i) + (pv s 0 i))), .int .u64 (Wl ((pv s 0 i) + (pv s 0 i)))]]) (by simp [go_sem, sEv, sLook, nbeq, i64_w]) (add_W ((((pv s 0 i) + (pv s 0 i)) + ((pv s 0 i) + (pv s 0 i))) + (((pv s 0 i) + (pv s 0 i)) + ((pv s 0 i) + (pv s 0 i)))) ((pv s 0 i) + (pv s 0 i)) w41) ?_
          rintro e_ w45 ⟨rfl, hb46⟩
          refine ⟨_, rfl, ?_⟩
          have hs_w45 := hb46.size
          refine rw_val (v := .int .u8 (dgt s 0 i)) (w' := w45) rfl rfl rfl rfl rfl ?_
          refine rw_val (v := .int .u8 (dgt s 0 i - 48)) (w' := w45) rfl rfl rfl rfl (by simp [go_sem, sEv, sLook, nbeq, i64_w]; have a_ := of_decide_eq_false c33; have b_ := of_decide_eq_false c36; exact u8_wrap _ (by omega) (by omega)) ?_
          refine rw_val (v := .int .i64 (dgt s 0 i - 48)) (w' := w45) rfl rfl rfl rfl (by simp [go_sem, sEv, sLook, nbeq, i64_w]; have a_ := of_decide_eq_false c33; have b_ := of_decide_eq_false c36; exact wrap_id (by omega) (by omega)) ?_
          refine rw_call rfl rfl rfl rfl (f := 14) (args := #[.int .i64 (dgt s 0 i - 48)]) (by simp [go_sem, sEv, sLook, nbeq, i64_w]) (of_W (dgt s 0 i - 48) (by have a_ := of_decide_eq_false c33; have b_ := of_decide_eq_false c36; omega) w45) ?_
          rintro e_ w47 ⟨rfl, hb48⟩
          refine ⟨_, rfl, ?_⟩
          have hs_w47 := hb48.size
          refine rw_call rfl rfl rfl rfl (f := 15) (args := #[.agg #[.int .i64 (Wh (((((pv s 0 i) + (pv s 0 i)) + ((pv s 0 i) + (pv s 0 i))) + (((pv s 0 i) + (pv s 0 i)) + ((pv s 0 i) + (pv s 0 i)))) + ((pv s 0 i) + (pv s 0 i)))), .int .u64 (Wl (((((pv s 0 i) + (pv s 0 i)) + ((pv s 0 i) + (pv s 0 i))) + (((pv s 0 i) + (pv s 0 i)) + ((pv s 0 i) + (pv s 0 i)))) + ((pv s 0 i) + (pv s 0 i))))], .agg #[.int .i64 (Wh (dgt s 0 i - 48)), .int .u64 (Wl (dgt s 0 i - 48))]]) (by simp [go_sem, sEv, sLook, nbeq, i64_w]) (add_W (((((pv s 0 i) + (pv s 0 i)) + ((pv s 0 i) + (pv s 0 i))) + (((pv s 0 i) + (pv s 0 i)) + ((pv s 0 i) + (pv s 0 i)))) + ((pv s 0 i) + (pv s 0 i))) (dgt s 0 i - 48) w47) ?_
          rintro e_ w49 ⟨rfl, hb50⟩
          refine ⟨_, rfl, ?_⟩
          have hs_w49 := hb50.size
          have hb54 := ((((((((hb6_.on hb24).on hb27).keep hk32 (by omega)).on hb39).keep hk42 (by omega)).on hb46).on hb48).on hb50)
          refine rw_store (g := g11) (i := 0) (l := [.int .i64 (Wh ((((((pv s 0 i) + (pv s 0 i)) + ((pv s 0 i) + (pv s 0 i))) + (((pv s 0 i) + (pv s 0 i)) + ((pv s 0 i) + (pv s 0 i)))) + ((pv s 0 i) + (pv s 0 i))) + (dgt s 0 i - 48))), .int .u64 (Wl ((((((pv s 0 i) + (pv s 0 i)) + ((pv s 0 i) + (pv s 0 i))) + (((pv s 0 i) + (pv s 0 i)) + ((pv s 0 i) + (pv s 0 i)))) + ((pv s 0 i) + (pv s 0 i))) + (dgt s 0 i - 48)))]) (cs' := #[.int .i64 (Wh ((((((pv s 0 i) + (pv s 0 i)) + ((pv s 0 i) + (pv s 0 i))) + (((pv s 0 i) + (pv s 0 i)) + ((pv s 0 i) + (pv s 0 i)))) + ((pv s 0 i) + (pv s 0 i))) + (dgt s 0 i - 48))), .int .u64 (Wl ((((((pv s 0 i) + (pv s 0 i)) + ((pv s 0 i) + (pv s 0 i))) + (((pv s 0 i) + (pv s 0 i)) + ((pv s 0 i) + (pv s 0 i)))) + ((pv s 0 i) + (pv s 0 i))) + (dgt s 0 i - 48)))]) rfl rfl rfl hb54 rfl (by have e0_ := hb54.cellv (i := 0) (v := (.int .i64 (Wh (pv s 0 i)) : Value)) rfl; have f0_ := hb54.frozen 0; have e1_ := hb54.cellv (i := 1) (v := (.int .u64 (Wl (pv s 0 i)) : Value)) rfl; have f1_ := hb54.frozen 1; simp [go_sem, sEv, sLook, nbeq, i64_w, putCells, e0_, f0_, e1_, f1_, Try.underlying24]) ?_
          intro w51 hk52 hk53
          have hs_w51 := hk52.size
          refine rw_end ?_
          refine w_weaken (G' := [(0, .string s), (2, .pointer (some ⟨g1, 0, none⟩)), (3, .bool false), (5, .bool false), (6, .pointer (some ⟨g11, 0, none⟩)), (26, .slice (some ⟨gc, 0, none⟩) n cap), (27, .int .i64 (n : Int)), (28, .int .i64 (i : Int))]) ⟨rfl, rfl, rfl, rfl, rfl, rfl, rfl, rfl, trivial⟩ ?_
          refine w_blk ?_
          refine w_region ?_
          refine rw_val (v := .int .i64 ((i + 1 : Nat) : Int)) (w' := w51) rfl rfl rfl rfl (by simp [go_sem, sEv, sLook, nbeq, i64_w]; have l_ := of_decide_eq_true cL; have f_ := of_decide_eq_false c39; exact wrap_id (by omega) (by omega)) ?_
          refine rw_val (v := .int .i64 ((i + 1 : Nat) : Int)) (w' := w51) rfl rfl rfl rfl rfl ?_
          refine rw_end ?_
          have hv_ : (((((pv s 0 i) + (pv s 0 i)) + ((pv s 0 i) + (pv s 0 i))) + (((pv s 0 i) + (pv s 0 i)) + ((pv s 0 i) + (pv s 0 i)))) + ((pv s 0 i) + (pv s 0 i))) + (dgt s 0 i - 48) = pv s 0 (i + 1) := by
            rw [pv_dgt]
            omega
          rw [hv_] at hk53
          have a_ := of_decide_eq_false c33
          have b_ := of_decide_eq_false c36
          have l_ := of_decide_eq_true cL
          have hcl2_ : ∀ j, j < n → w51.cell? ⟨gc, j, none⟩ = some (.int .u8 (dgt s 0 j)) := fun j hj => ((hk52.cell (by show gc ≠ _; omega)).trans ((cellOn ((cellOn ((cellOn (((hk42.cell (by show gc ≠ _; omega)).trans ((cellOn (((hk32.cell (by show gc ≠ _; omega)).trans ((cellOn ((cellOn (hcl_ j hj) hb24)) hb27)))) hb39)))) hb46)) hb48)) hb50)))
          exact w_back (m - 1) [(0, .string s), (2, .pointer (some ⟨g1, 0, none⟩)), (3, .bool false), (5, .bool false), (6, .pointer (some ⟨g11, 0, none⟩)), (26, .slice (some ⟨gc, 0, none⟩) n cap), (27, .int .i64 (n : Int)), (28, .int .i64 ((i + 1 : Nat) : Int))] (by omega) ⟨rfl, rfl, rfl, rfl, rfl, rfl, rfl, rfl, trivial⟩ ⟨i + 1, by omega, hall.step (by omega) (by omega), rfl, (hk52.below (by omega) (chain (chain (chain (hk42.below (by omega) (chain (hk32.below (by omega) (chain (chain hB hb24) hb27)) hb39)) hb46) hb48) hb50)), (((((((((hb2_.on hb24).on hb27).keep hk32 (by omega)).on hb39).keep hk42 (by omega)).on hb46).on hb48).on hb50).keep hk52 (by omega)), hk53, by omega, hcl2_⟩
      · refine rw_off (c := decide ((dgt s 0 i) < 48)) rfl rfl rfl (by simp [c33]) rfl rfl ?_
        refine rw_off (c := decide ((dgt s 0 i) < 48)) rfl rfl rfl (by simp [c33]) rfl rfl ?_
        refine rw_val (v := .bool true) (w' := w_) rfl rfl rfl rfl (by simp [go_sem, sEv, sLook, nbeq, i64_w, c33]) ?_
        refine rw_end ?_
        refine w_weaken (G' := [(0, .string s), (2, .pointer (some ⟨g1, 0, none⟩)), (3, .bool false), (5, .bool false), (6, .pointer (some ⟨g11, 0, none⟩)), (8, .int .u8 (dgt s 0 i)), (26, .slice (some ⟨gc, 0, none⟩) n cap), (27, .int .i64 (n : Int)), (28, .int .i64 (i : Int)), (37, .bool true)]) ⟨rfl, rfl, rfl, rfl, rfl, rfl, rfl, rfl, rfl, rfl, trivial⟩ ?_
        refine w_cond_t rfl rfl rfl ?_
        refine w_seq ?_
        refine w_region ?_
        refine rw_val (v := .agg #[.int .i64 0, .int .u64 0]) (w' := w_) rfl rfl rfl rfl (by kernel_rfl) ?_
        have hb58 := hb2_
        refine rw_store (g := g1) (i := 0) (l := [.int .i64 0, .int .u64 0]) (cs' := #[.int .i64 0, .int .u64 0]) rfl rfl rfl hb58 rfl (by have e0_ := hb58.cellv (i := 0) (v := (.int .i64 0 : Value)) rfl; have f0_ := hb58.frozen 0; have e1_ := hb58.cellv (i := 1) (v := (.int .u64 0 : Value)) rfl; have f1_ := hb58.frozen 1; simp [go_sem, sEv, sLook, nbeq, i64_w, putCells, e0_, f0_, e1_, f1_, Try.underlying24]) ?_
        intro w55 hk56 hk57
        have hs_w55 := hk56.size
        refine rw_val (v := .bool false) (w' := w55) rfl rfl rfl rfl rfl ?_
        refine rw_end ?_
        refine w_ret (post_retct (v := .agg #[.int .i64 0, .int .u64 0]) rfl rfl rfl (by have eb_ := hk57; have e0_ := eb_.cellv (i := 0) (v := (.int .i64 0 : Value)) rfl; have e1_ := eb_.cellv (i := 1) (v := (.int .u64 0 : Value)) rfl; simp [go_sem, e0_, e1_, Try.underlying24]) ?_)
        refine ⟨?_, (hk56.below (by omega) hB)⟩
        have hm_ := minus_no s (Or.inl (by omega))
        rw [parsed_no s ?_, Wh0, Wl0]
        rw [hm_, (show s.size - 0 = n by omega)]
        rintro ⟨p1, p2⟩
        have := of_decide_eq_true c33
        have l_ := of_decide_eq_true cL
        exact not_dig (show i < n by omega) (by omega) p2
    · refine w_exit rfl ?_
      refine w_seq ?_
      refine w_seq ?_
      refine w_region ?_
      refine rw_val (v := .bool false) (w' := w_) rfl rfl rfl rfl rfl ?_
      refine rw_end ?_
      refine w_cond_f rfl rfl rfl ?_
      refine w_skip ?_
      refine w_seq ?_
      refine w_region ?_
      refine rw_val (v := .agg #[.int .i64 (Wh (pv s 0 i)), .int .u64 (Wl (pv s 0 i))]) (w' := w_) rfl rfl rfl rfl (by have eb_ := hb6_; have e0_ := eb_.cellv (i := 0) (v := (.int .i64 (Wh (pv s 0 i)) : Value)) rfl; have e1_ := eb_.cellv (i := 1) (v := (.int .u64 (Wl (pv s 0 i)) : Value)) rfl; simp [go_sem, sEv, sLook, nbeq, i64_w, e0_, e1_, Try.underlying24]) ?_
      refine rw_val (v := .string s) (w' := w_) rfl rfl rfl rfl rfl ?_
      refine rw_call rfl rfl rfl rfl (f := 39) (args := #[.agg #[.int .i64 (Wh (pv s 0 i)), .int .u64 (Wl (pv s 0 i))], .string s]) (by simp [go_sem, sEv, sLook, nbeq, i64_w]) (fits_calls (pv s 0 i) s w_) ?_
      rintro e_ w59 ⟨rfl, hb60⟩
      refine ⟨_, rfl, ?_⟩
      have hs_w59 := hb60.size
      refine rw_val (v := .agg #[.int .i64 (Wh (fit (pv s 0 i) s).1), .int .u64 (Wl (fit (pv s 0 i) s).1)]) (w' := w59) rfl rfl rfl rfl (by simp [go_sem, sEv, sLook, nbeq, i64_w]) ?_
      refine rw_val (v := .bool ((fit (pv s 0 i) s).2)) (w' := w59) rfl rfl rfl rfl (by simp [go_sem, sEv, sLook, nbeq, i64_w]) ?_
      have hb64 := (hb2_.on hb60)
      refine rw_store (g := g1) (i := 0) (l := [.int .i64 (Wh (fit (pv s 0 i) s).1), .int .u64 (Wl (fit (pv s 0 i) s).1)]) (cs' := #[.int .i64 (Wh (fit (pv s 0 i) s).1), .int .u64 (Wl (fit (pv s 0 i) s).1)]) rfl rfl rfl hb64 rfl (by have e0_ := hb64.cellv (i := 0) (v := (.int .i64 0 : Value)) rfl; have f0_ := hb64.frozen 0; have e1_ := hb64.cellv (i := 1) (v := (.int .u64 0 : Value)) rfl; have f1_ := hb64.frozen 1; simp [go_sem, sEv, sLook, nbeq, i64_w, putCells, e0_, f0_, e1_, f1_, Try.underlying24]) ?_
      intro w61 hk62 hk63
      have hs_w61 := hk62.size
      refine rw_val (v := .bool ((fit (pv s 0 i) s).2)) (w' := w61) rfl rfl rfl rfl rfl ?_
      refine rw_end ?_
      refine w_weaken (G' := [(2, .pointer (some ⟨g1, 0, none⟩)), (3, .bool ((fit (pv s 0 i) s).2))]) ⟨rfl, rfl, trivial⟩ ?_
      refine w_ret (post_retct (v := .agg #[.int .i64 (Wh (fit (pv s 0 i) s).1), .int .u64 (Wl (fit (pv s 0 i) s).1)]) rfl rfl rfl (by have eb_ := hk63; have e0_ := eb_.cellv (i := 0) (v := (.int .i64 (Wh (fit (pv s 0 i) s).1) : Value)) rfl; have e1_ := eb_.cellv (i := 1) (v := (.int .u64 (Wl (fit (pv s 0 i) s).1) : Value)) rfl; simp [go_sem, e0_, e1_, Try.underlying24]) ?_)
      refine ⟨?_, (hk62.below (by omega) (chain hB hb60))⟩
      have hm_ := minus_no s (Or.inl (by omega))
      have l_ := of_decide_eq_false cL
      obtain rfl : i = n := by omega
      have f_ := of_decide_eq_false c39
      have hp_ := parsed_fit s (by rw [hm_]; omega) (by rw [hm_, show s.size - 0 = i by omega]; exact hall)
      rw [hm_, show s.size - 0 = i by omega] at hp_
      unfold sgn at hp_
      rw [hm_, if_neg (by decide)] at hp_
      rw [hp_]
set_option maxHeartbeats 4000000 in
theorem parse_B (s : ByteArray) (n : Nat) (hnn : s.size = n) (hE : 0 < s.size) (hM : ¬ bt s 0 = 45) (w : World) :
    Calls Try.prog 30 #[.string s] w fun e w' => e = .returned (.tuple #[.agg #[.int .i64 (Wh (parsed s).1), .int .u64 (Wl (parsed s).1)], .bool (parsed s).2]) ∧ Below w.heap.size w w' := by
  refine calls_flow Try.func30 rfl 66 rfl (Nat.le_of_ble_eq_true rfl) [(0, .string s)] ?_ ?_
  · intro t v h; exact args_look rfl t v h
  refine w_seq ?_
  refine w_region ?_
  refine rw_new (cs := #[.int .i64 0, .int .u64 0]) (t := 24) (fun g => .pointer (some ⟨g, 0, none⟩)) rfl rfl rfl rfl (by kernel_rfl) ?_
  intro g1 w2 hg6 hz5 hb3 hk4
  have hs_w2 := hb3.size
  refine rw_val (v := .bool false) (w' := w2) rfl rfl rfl rfl rfl ?_
  refine rw_end ?_
  refine w_seq ?_
  refine w_region ?_
  refine rw_val (v := .string s) (w' := w2) rfl rfl rfl rfl rfl ?_
  refine rw_val (v := .string s) (w' := w2) rfl rfl rfl rfl rfl ?_
  refine rw_val (v := .bool false) (w' := w2) rfl rfl rfl rfl rfl ?_
  refine rw_end ?_
  refine w_seq ?_
  refine w_seq ?_
  refine w_region ?_
  refine rw_val (v := .string s) (w' := w2) rfl rfl rfl rfl rfl ?_
  refine rw_val (v := .bool true) (w' := w2) rfl rfl rfl rfl (run_bool (run_as (run_str_neq 9 _ _ _)) (ne_true (by omega))) ?_
  refine rw_val (v := .bool true) (w' := w2) rfl rfl rfl rfl rfl ?_
  refine rw_gval (c := true) (v := .string s) (w' := w2) rfl rfl rfl rfl rfl rfl rfl (by rfl) ?_
  refine rw_gval (c := true) (v := .int .u8 (bt s 0)) (w' := w2) rfl rfl rfl rfl rfl rfl rfl (by exact run_as (str_at (by kernel_rfl) 0 (by omega) (by omega) _)) ?_
  refine rw_gval (c := true) (v := .bool false) (w' := w2) rfl rfl rfl rfl rfl rfl rfl (by simp [go_sem, sEv, sLook, nbeq, i64_w]; exact hM) ?_
  refine rw_val (v := .bool false) (w' := w2) rfl rfl rfl rfl (by simp [go_sem, sEv, sLook, nbeq, i64_w]) ?_
  refine rw_end ?_
  refine w_weaken (G' := [(0, .string s), (2, .pointer (some ⟨g1, 0, none⟩)), (3, .bool false), (4, .string s), (5, .bool false), (18, .bool false)]) ⟨rfl, rfl, rfl, rfl, rfl, rfl, trivial⟩ ?_
  refine w_cond_f rfl rfl rfl ?_
  refine w_skip ?_
  refine w_seq ?_
  refine w_seq ?_
  refine w_region ?_
  refine rw_val (v := .string s) (w' := w2) rfl rfl rfl rfl rfl ?_
  refine rw_val (v := .int .i64 (n : Int)) (w' := w2) rfl rfl rfl rfl (by simp [go_sem, sEv, sLook, nbeq, i64_w]; omega) ?_
  refine rw_val (v := .bool (decide (39 < (n : Int)))) (w' := w2) rfl rfl rfl rfl (by simp [go_sem, sEv, sLook, nbeq, i64_w]) ?_
  refine rw_end ?_
  refine w_cond rfl rfl (fun c39 => ?_) (fun c39 => ?_)
  · refine w_seq ?_
    refine w_region ?_
    refine rw_val (v := .agg #[.int .i64 0, .int .u64 0]) (w' := w2) rfl rfl rfl rfl (by kernel_rfl) ?_
    have hb10 := hk4
    refine rw_store (g := g1) (i := 0) (l := [.int .i64 0, .int .u64 0]) (cs' := #[.int .i64 0, .int .u64 0]) rfl rfl rfl hb10 rfl (by have e0_ := hb10.cellv (i := 0) (v := (.int .i64 0 : Value)) rfl; have f0_ := hb10.frozen 0; have e1_ := hb10.cellv (i := 1) (v := (.int .u64 0 : Value)) rfl; have f1_ := hb10.frozen 1; simp [go_sem, sEv, sLook, nbeq, i64_w, putCells, e0_, f0_, e1_, f1_, Try.underlying24]) ?_
    intro w7 hk8 hk9
    have hs_w7 := hk8.size
    refine rw_val (v := .bool false) (w' := w7) rfl rfl rfl rfl rfl ?_
    refine rw_end ?_
    refine w_ret (post_retct (v := .agg #[.int .i64 0, .int .u64 0]) rfl rfl rfl (by have eb_ := hk9; have e0_ := eb_.cellv (i := 0) (v := (.int .i64 0 : Value)) rfl; have e1_ := eb_.cellv (i := 1) (v := (.int .u64 0 : Value)) rfl; simp [go_sem, e0_, e1_, Try.underlying24]) ?_)
    refine ⟨?_, (hk8.below (by omega) hb3)⟩
    have hm_ := minus_no s (Or.inr hM)
    rw [parsed_no s ?_, Wh0, Wl0]
    rw [hm_, (show s.size - 0 = n by omega)]
    rintro ⟨p1, p2⟩
    have := of_decide_eq_true c39
    omega
  · refine w_skip ?_
    refine w_seq ?_
    refine w_region ?_
    refine rw_new (cs := #[.int .i64 0, .int .u64 0]) (t := 24) (fun g => .pointer (some ⟨g, 0, none⟩)) rfl rfl rfl rfl (by kernel_rfl) ?_
    intro g11 w12 hg16 hz15 hb13 hk14
    have hs_w12 := hb13.size
    refine rw_end ?_
    refine w_seq ?_
    refine w_seq ?_
    refine w_region ?_
    refine rw_val (v := .string s) (w' := w12) rfl rfl rfl rfl rfl ?_
    obtain ⟨gc, cap, w17, hrun_, hb18, hgc, hzc, hcell⟩ := conv_bytes (P := Try.prog) 9 52 5 (by kernel_rfl) (by kernel_rfl) (by kernel_rfl) w12 s
    rw [show (s).size = n by omega] at hrun_ hcell
    refine rw_val (v := .slice (some ⟨gc, 0, none⟩) n cap) (w' := w17) rfl rfl rfl rfl (run_as hrun_) ?_
    have hs_w17 := hb18.size
    have hcl : ∀ i, i < n → w17.cell? ⟨gc, i, none⟩ = some (.int .u8 (dgt s 0 i)) := fun i hi => by
      rw [hcell i hi]
      unfold dgt; rw [Nat.zero_add]
    refine rw_val (v := .int .i64 (n : Int)) (w' := w17) rfl rfl rfl rfl (by simp [go_sem, sEv, sLook, nbeq, i64_w]) ?_
    refine rw_val (v := .int .i64 0) (w' := w17) rfl rfl rfl rfl rfl ?_
    refine rw_end ?_
    refine w_weaken (G' := [(0, .string s), (2, .pointer (some ⟨g1, 0, none⟩)), (3, .bool false), (5, .bool false), (6, .pointer (some ⟨g11, 0, none⟩)), (26, .slice (some ⟨gc, 0, none⟩) n cap), (27, .int .i64 (n : Int)), (28, .int .i64 0)]) ⟨rfl, rfl, rfl, rfl, rfl, rfl, rfl, rfl, trivial⟩ ?_
    refine w_block ?_
    have h6_ : Blk w17 g11 24 #[.int .i64 (Wh (pv s 0 0)), .int .u64 (Wl (pv s 0 0))] := by
      have h_ := (hk14.on hb18)
      simp only [pv, Wh0, Wl0]
      exact h_
    have hcl0_ : ∀ j, j < n → w17.cell? ⟨gc, j, none⟩ = some (.int .u8 (dgt s 0 j)) := fun j hj => cellOn (hcl j hj) (Below.refl _ _)
    refine w_loop (fun m G W_ => ∃ i : Nat, i + m = n ∧ AllDig s 0 i ∧ G = [(0, .string s), (2, .pointer (some ⟨g1, 0, none⟩)), (3, .bool false), (5, .bool false), (6, .pointer (some ⟨g11, 0, none⟩)), (26, .slice (some ⟨gc, 0, none⟩) n cap), (27, .int .i64 (n : Int)), (28, .int .i64 (i : Int))] ∧ Below w.heap.size w W_ ∧ Blk W_ g1 24 #[.int .i64 0, .int .u64 0] ∧ Blk W_ g11 24 #[.int .i64 (Wh (pv s 0 i)), .int .u64 (Wl (pv s 0 i))] ∧ (gc < W_.heap.size) ∧ ∀ j, j < n → W_.cell? ⟨gc, j, none⟩ = some (.int .u8 (dgt s 0 j))) n [(0, .string s), (2, .pointer (some ⟨g1, 0, none⟩)), (3, .bool false), (5, .bool false), (6, .pointer (some ⟨g11, 0, none⟩)), (26, .slice (some ⟨gc, 0, none⟩) n cap), (27, .int .i64 (n : Int)), (28, .int .i64 0)] ⟨0, by omega, AllDig.nil _ _, rfl, (chain (chain hb3 hb13) hb18), ((hk4.on hb13).on hb18), h6_, by omega, hcl0_⟩ ⟨rfl, rfl, rfl, rfl, rfl, rfl, rfl, rfl, trivial⟩ ?_
    rintro m G w_ ⟨i, him, hall, rfl, hB, hb2_, hb6_, hgc_, hcl_⟩
    have hs_w_ := hB.size
    refine w_seq ?_
    refine w_region ?_
    refine rw_val (v := .bool (decide ((i : Int) < (n : Int)))) (w' := w_) rfl rfl rfl rfl (by simp [go_sem, sEv, sLook, nbeq, i64_w]) ?_
    refine rw_end ?_
    refine w_seq ?_
    refine w_cond rfl rfl (fun cL => ?_) (fun cL => ?_)
    · refine w_skip ?_
      refine w_seq ?_
      refine w_block ?_
      refine w_seq ?_
      refine w_region ?_
      have l_ := of_decide_eq_true cL
      refine rw_val (v := .pointer (some ⟨gc, i, none⟩)) (w' := w_) rfl rfl rfl rfl (by simp [go_sem, sEv, sLook, nbeq, i64_w, Try.underlying52, add_plain]; omega) ?_
      have hc_ := hcl_ i (by omega)
      refine rw_val (v := .int .u8 (dgt s 0 i)) (w' := w_) rfl rfl rfl rfl (by simp [go_sem, sEv, sLook, nbeq, i64_w, hc_]) ?_
      refine rw_val (v := .int .u8 (dgt s 0 i)) (w' := w_) rfl rfl rfl rfl rfl ?_
      refine rw_end ?_
      refine w_seq ?_
      refine w_seq ?_
      refine w_region ?_
      refine rw_val (v := .int .u8 (dgt s 0 i)) (w' := w_) rfl rfl rfl rfl rfl ?_
      refine rw_val (v := .bool (decide ((dgt s 0 i) < 48))) (w' := w_) rfl rfl rfl rfl (by simp [go_sem, sEv, sLook, nbeq, i64_w]) ?_
      refine rw_val (v := .bool (decide ((dgt s 0 i) < 48))) (w' := w_) rfl rfl rfl rfl rfl ?_
      rcases bcase (decide ((dgt s 0 i) < 48)) with c33 | c33
      · refine rw_gval (c := decide ((dgt s 0 i) < 48)) (v := .int .u8 (dgt s 0 i)) (w' := w_) rfl rfl rfl (by simp [c33]) rfl rfl rfl (by rfl) ?_
        refine rw_gval (c := decide ((dgt s 0 i) < 48)) (v := .bool (decide (57 < (dgt s 0 i)))) (w' := w_) rfl rfl rfl (by simp [c33]) rfl rfl rfl (by simp [go_sem, sEv, sLook, nbeq, i64_w]) ?_
        refine rw_val (v := .bool (decide (57 < (dgt s 0 i)))) (w' := w_) rfl rfl rfl rfl (by simp [go_sem, sEv, sLook, nbeq, i64_w, c33]) ?_
        refine rw_end ?_
        refine w_weaken (G' := [(0, .string s), (2, .pointer (some ⟨g1, 0, none⟩)), (3, .bool false), (5, .bool false), (6, .pointer (some ⟨g11, 0, none⟩)), (8, .int .u8 (dgt s 0 i)), (26, .slice (some ⟨gc, 0, none⟩) n cap), (27, .int .i64 (n : Int)), (28, .int .i64 (i : Int)), (37, .bool (decide (57 < (dgt s 0 i))))]) ⟨rfl, rfl, rfl, rfl, rfl, rfl, rfl, rfl, rfl, rfl, trivial⟩ ?_
        refine w_cond rfl rfl (fun c36 => ?_) (fun c36 => ?_)
        · refine w_seq ?_
          refine w_region ?_
          refine rw_val (v := .agg #[.int .i64 0, .int .u64 0]) (w' := w_) rfl rfl rfl rfl (by kernel_rfl) ?_
          have hb22 := hb2_
          refine rw_store (g := g1) (i := 0) (l := [.int .i64 0, .int .u64 0]) (cs' := #[.int .i64 0, .int .u64 0]) rfl rfl rfl hb22 rfl (by have e0_ := hb22.cellv (i := 0) (v := (.int .i64 0 : Value)) rfl; have f0_ := hb22.frozen 0; have e1_ := hb22.cellv (i := 1) (v := (.int .u64 0 : Value)) rfl; have f1_ := hb22.frozen 1; simp [go_sem, sEv, sLook, nbeq, i64_w, putCells, e0_, f0_, e1_, f1_, Try.underlying24]) ?_
          intro w19 hk20 hk21
          have hs_w19 := hk20.size
          refine rw_val (v := .bool false) (w' := w19) rfl rfl rfl rfl rfl ?_
          refine rw_end ?_
          refine w_ret (post_retct (v := .agg #[.int .i64 0, .int .u64 0]) rfl rfl rfl (by have eb_ := hk21; have e0_ := eb_.cellv (i := 0) (v := (.int .i64 0 : Value)) rfl; have e1_ := eb_.cellv (i := 1) (v := (.int .u64 0 : Value)) rfl; simp [go_sem, e0_, e1_, Try.underlying24]) ?_)
          refine ⟨?_, (hk20.below (by omega) hB)⟩
          have hm_ := minus_no s (Or.inr hM)
          rw [parsed_no s ?_, Wh0, Wl0]
          rw [hm_, (show s.size - 0 = n by omega)]
          rintro ⟨p1, p2⟩
          have := of_decide_eq_true c36
          have l_ := of_decide_eq_true cL
          exact not_dig (show i < n by omega) (by omega) p2
        · refine w_skip ?_
          refine w_seq ?_
          refine w_region ?_
          refine rw_val (v := .agg #[.int .i64 (Wh (pv s 0 i)), .int .u64 (Wl (pv s 0 i))]) (w' := w_) rfl rfl rfl rfl (by have eb_ := hb6_; have e0_ := eb_.cellv (i := 0) (v := (.int .i64 (Wh (pv s 0 i)) : Value)) rfl; have e1_ := eb_.cellv (i := 1) (v := (.int .u64 (Wl (pv s 0 i)) : Value)) rfl; simp [go_sem, sEv, sLook, nbeq, i64_w, e0_, e1_, Try.underlying24]) ?_
          refine rw_val (v := .agg #[.int .i64 (Wh (pv s 0 i)), .int .u64 (Wl (pv s 0 i))]) (w' := w_) rfl rfl rfl rfl (by have eb_ := hb6_; have e0_ := eb_.cellv (i := 0) (v := (.int .i64 (Wh (pv s 0 i)) : Value)) rfl; have e1_ := eb_.cellv (i := 1) (v := (.int .u64 (Wl (pv s 0 i)) : Value)) rfl; simp [go_sem, sEv, sLook, nbeq, i64_w, e0_, e1_, Try.underlying24]) ?_
          refine rw_call rfl rfl rfl rfl (f := 15) (args := #[.agg #[.int .i64 (Wh (pv s 0 i)), .int .u64 (Wl (pv s 0 i))], .agg #[.int .i64 (Wh (pv s 0 i)), .int .u64 (Wl (pv s 0 i))]]) (by simp [go_sem, sEv, sLook, nbeq, i64_w]) (add_W (pv s 0 i) (pv s 0 i) w_) ?_
          rintro e_ w23 ⟨rfl, hb24⟩
          refine ⟨_, rfl, ?_⟩
          have hs_w23 := hb24.size
          refine rw_new (cs := #[.int .i64 0, .int .u64 0]) (t := 24) (fun g => .pointer (some ⟨g, 0, none⟩)) rfl rfl rfl rfl (by kernel_rfl) ?_
          intro g25 w26 hg30 hz29 hb27 hk28
          have hs_w26 := hb27.size
          have hb34 := hk28
          refine rw_store (g := g25) (i := 0) (l := [.int .i64 (Wh ((pv s 0 i) + (pv s 0 i))), .int .u64 (Wl ((pv s 0 i) + (pv s 0 i)))]) (cs' := #[.int .i64 (Wh ((pv s 0 i) + (pv s 0 i))), .int .u64 (Wl ((pv s 0 i) + (pv s 0 i)))]) rfl rfl rfl hb34 rfl (by have e0_ := hb34.cellv (i := 0) (v := (.int .i64 0 : Value)) rfl; have f0_ := hb34.frozen 0; have e1_ := hb34.cellv (i := 1) (v := (.int .u64 0 : Value)) rfl; have f1_ := hb34.frozen 1; simp [go_sem, sEv, sLook, nbeq, i64_w, putCells, e0_, f0_, e1_, f1_, Try.underlying24]) ?_
          intro w31 hk32 hk33
          have hs_w31 := hk32.size
          refine rw_end ?_
          refine w_weaken (G' := [(0, .string s), (2, .pointer (some ⟨g1, 0, none⟩)), (3, .bool false), (5, .bool false), (6, .pointer (some ⟨g11, 0, none⟩)), (8, .int .u8 (dgt s 0 i)), (9, .pointer (some ⟨g25, 0, none⟩)), (26, .slice (some ⟨gc, 0, none⟩) n cap), (27, .int .i64 (n : Int)), (28, .int .i64 (i : Int))]) ⟨rfl, rfl, rfl, rfl, rfl, rfl, rfl, rfl, rfl, rfl, trivial⟩ ?_
          refine w_seq ?_
          refine w_drawk (M := [0, 0, 3, 0, 0, 31, 63, 0, 255]) (ss := [Is (.agg #[.int .i64 (Wh ((pv s 0 i) + (pv s 0 i))), .int .u64 (Wl ((pv s 0 i) + (pv s 0 i)))]), Is (.agg #[.int .i64 (Wh ((pv s 0 i) + (pv s 0 i))), .int .u64 (Wl ((pv s 0 i) + (pv s 0 i)))]), (Is (.agg #[.int .i64 (Wh (((pv s 0 i) + (pv s 0 i)) + ((pv s 0 i) + (pv s 0 i)))), .int .u64 (Wl (((pv s 0 i) + (pv s 0 i)) + ((pv s 0 i) + (pv s 0 i))))])), Is (.agg #[.int .i64 (Wh ((pv s 0 i) + (pv s 0 i))), .int .u64 (Wl ((pv s 0 i) + (pv s 0 i)))]), Is (.agg #[.int .i64 (Wh ((pv s 0 i) + (pv s 0 i))), .int .u64 (Wl ((pv s 0 i) + (pv s 0 i)))]), (Is (.agg #[.int .i64 (Wh (((pv s 0 i) + (pv s 0 i)) + ((pv s 0 i) + (pv s 0 i)))), .int .u64 (Wl (((pv s 0 i) + (pv s 0 i)) + ((pv s 0 i) + (pv s 0 i))))])), (Is (.agg #[.int .i64 (Wh ((((pv s 0 i) + (pv s 0 i)) + ((pv s 0 i) + (pv s 0 i))) + (((pv s 0 i) + (pv s 0 i)) + ((pv s 0 i) + (pv s 0 i))))), .int .u64 (Wl ((((pv s 0 i) + (pv s 0 i)) + ((pv s 0 i) + (pv s 0 i))) + (((pv s 0 i) + (pv s 0 i)) + ((pv s 0 i) + (pv s 0 i)))))])), BlkSpec w31.heap.size 24 #[.int .i64 0, .int .u64 0]]) 8 rfl (by decide +kernel) ?_
          refine t_is (.agg #[.int .i64 (Wh ((pv s 0 i) + (pv s 0 i))), .int .u64 (Wl ((pv s 0 i) + (pv s 0 i)))]) rfl rfl rfl rfl (fun W_ hW_ F_ => by have eb_ := (hk33.on (below_of_drew hW_)); have e0_ := eb_.cellv (i := 0) (v := (.int .i64 (Wh ((pv s 0 i) + (pv s 0 i))) : Value)) rfl; have e1_ := eb_.cellv (i := 1) (v := (.int .u64 (Wl ((pv s 0 i) + (pv s 0 i))) : Value)) rfl; simp [go_sem, sEv, sLook, nbeq, i64_w, e0_, e1_, Try.underlying24]) ?_
          refine t_is (.agg #[.int .i64 (Wh ((pv s 0 i) + (pv s 0 i))), .int .u64 (Wl ((pv s 0 i) + (pv s 0 i)))]) rfl rfl rfl rfl (fun W_ hW_ F_ => by have eb_ := (hk33.on (below_of_drew hW_)); have e0_ := eb_.cellv (i := 0) (v := (.int .i64 (Wh ((pv s 0 i) + (pv s 0 i))) : Value)) rfl; have e1_ := eb_.cellv (i := 1) (v := (.int .u64 (Wl ((pv s 0 i) + (pv s 0 i))) : Value)) rfl; simp [go_sem, sEv, sLook, nbeq, i64_w, e0_, e1_, Try.underlying24]) ?_
          refine t_call (f := 15) (args := #[.agg #[.int .i64 (Wh ((pv s 0 i) + (pv s 0 i))), .int .u64 (Wl ((pv s 0 i) + (pv s 0 i)))], .agg #[.int .i64 (Wh ((pv s 0 i) + (pv s 0 i))), .int .u64 (Wl ((pv s 0 i) + (pv s 0 i)))]]) (Is (.agg #[.int .i64 (Wh (((pv s 0 i) + (pv s 0 i)) + ((pv s 0 i) + (pv s 0 i)))), .int .u64 (Wl (((pv s 0 i) + (pv s 0 i)) + ((pv s 0 i) + (pv s 0 i))))])) rfl rfl rfl rfl (fun W_ => by simp [go_sem, sEv, sLook, nbeq, i64_w]) (fun W_ hW_ F_ => ?_) ?_
          · refine (add_W ((pv s 0 i) + (pv s 0 i)) ((pv s 0 i) + (pv s 0 i)) W_).mono ?_
            rintro e_ w_ ⟨rfl, hd_⟩
            exact ⟨_, rfl, rfl, hd_⟩
          rintro _ rfl
          refine t_is (.agg #[.int .i64 (Wh ((pv s 0 i) + (pv s 0 i))), .int .u64 (Wl ((pv s 0 i) + (pv s 0 i)))]) rfl rfl rfl rfl (fun W_ hW_ F_ => by have eb_ := (hk33.on (below_of_drew hW_)); have e0_ := eb_.cellv (i := 0) (v := (.int .i64 (Wh ((pv s 0 i) + (pv s 0 i))) : Value)) rfl; have e1_ := eb_.cellv (i := 1) (v := (.int .u64 (Wl ((pv s 0 i) + (pv s 0 i))) : Value)) rfl; simp [go_sem, sEv, sLook, nbeq, i64_w, e0_, e1_, Try.underlying24]) ?_
          refine t_is (.agg #[.int .i64 (Wh ((pv s 0 i) + (pv s 0 i))), .int .u64 (Wl ((pv s 0 i) + (pv s 0 i)))]) rfl rfl rfl rfl (fun W_ hW_ F_ => by have eb_ := (hk33.on (below_of_drew hW_)); have e0_ := eb_.cellv (i := 0) (v := (.int .i64 (Wh ((pv s 0 i) + (pv s 0 i))) : Value)) rfl; have e1_ := eb_.cellv (i := 1) (v := (.int .u64 (Wl ((pv s 0 i) + (pv s 0 i))) : Value)) rfl; simp [go_sem, sEv, sLook, nbeq, i64_w, e0_, e1_, Try.underlying24]) ?_
          refine t_call (f := 15) (args := #[.agg #[.int .i64 (Wh ((pv s 0 i) + (pv s 0 i))), .int .u64 (Wl ((pv s 0 i) + (pv s 0 i)))], .agg #[.int .i64 (Wh ((pv s 0 i) + (pv s 0 i))), .int .u64 (Wl ((pv s 0 i) + (pv s 0 i)))]]) (Is (.agg #[.int .i64 (Wh (((pv s 0 i) + (pv s 0 i)) + ((pv s 0 i) + (pv s 0 i)))), .int .u64 (Wl (((pv s 0 i) + (pv s 0 i)) + ((pv s 0 i) + (pv s 0 i))))])) rfl rfl rfl rfl (fun W_ => by simp [go_sem, sEv, sLook, nbeq, i64_w]) (fun W_ hW_ F_ => ?_) ?_
          · refine (add_W ((pv s 0 i) + (pv s 0 i)) ((pv s 0 i) + (pv s 0 i)) W_).mono ?_
            rintro e_ w_ ⟨rfl, hd_⟩
            exact ⟨_, rfl, rfl, hd_⟩
          rintro _ rfl
          refine t_call (f := 15) (args := #[.agg #[.int .i64 (Wh (((pv s 0 i) + (pv s 0 i)) + ((pv s 0 i) + (pv s 0 i)))), .int .u64 (Wl (((pv s 0 i) + (pv s 0 i)) + ((pv s 0 i) + (pv s 0 i))))], .agg #[.int .i64 (Wh (((pv s 0 i) + (pv s 0 i)) + ((pv s 0 i) + (pv s 0 i)))), .int .u64 (Wl (((pv s 0 i) + (pv s 0 i)) + ((pv s 0 i) + (pv s 0 i))))]]) (Is (.agg #[.int .i64 (Wh ((((pv s 0 i) + (pv s 0 i)) + ((pv s 0 i) + (pv s 0 i))) + (((pv s 0 i) + (pv s 0 i)) + ((pv s 0 i) + (pv s 0 i))))), .int .u64 (Wl ((((pv s 0 i) + (pv s 0 i)) + ((pv s 0 i) + (pv s 0 i))) + (((pv s 0 i) + (pv s 0 i)) + ((pv s 0 i) + (pv s 0 i)))))])) rfl rfl rfl rfl (fun W_ => by simp [go_sem, sEv, sLook, nbeq, i64_w]) (fun W_ hW_ F_ => ?_) ?_
          · refine (add_W (((pv s 0 i) + (pv s 0 i)) + ((pv s 0 i) + (pv s 0 i))) (((pv s 0 i) + (pv s 0 i)) + ((pv s 0 i) + (pv s 0 i))) W_).mono ?_
            rintro e_ w_ ⟨rfl, hd_⟩
            exact ⟨_, rfl, rfl, hd_⟩
          rintro _ rfl
          refine t_val (BlkSpec w31.heap.size 24 #[.int .i64 0, .int .u64 0]) rfl rfl rfl rfl (fun W_ hW_ F_ => blk_gives _ _ _ (below_of_drew hW_).size (by kernel_rfl)) ?_
          rintro _ ⟨g35, rfl⟩
          refine t_tail ?_
          intro w38 hb39_ F40
          have hb39 := below_of_drew hb39_
          have hs_w38 := hb39.size
          obtain ⟨hge37, hk36⟩ := blk_fact (F40 7 _ _ rfl)
          have hlt_g35 := hk36.lt
          have hb44 := hk36
          refine rw_store (g := g35) (i := 0) (l := [.int .i64 (Wh ((((pv s 0 i) + (pv s 0 i)) + ((pv s 0 i) + (pv s 0 i))) + (((pv s 0 i) + (pv s 0 i)) + ((pv s 0 i) + (pv s 0 i))))), .int .u64 (Wl ((((pv s 0 i) + (pv s 0 i)) + ((pv s 0 i) + (pv s 0 i))) + (((pv s 0 i) + (pv s 0 i)) + ((pv s 0 i) + (pv s 0 i)))))]) (cs' := #[.int .i64 (Wh ((((pv s 0 i) + (pv s 0 i)) + ((pv s 0 i) + (pv s 0 i))) + (((pv s 0 i) + (pv s 0 i)) + ((pv s 0 i) + (pv s 0 i))))), .int .u64 (Wl ((((pv s 0 i) + (pv s 0 i)) + ((pv s 0 i) + (pv s 0 i))) + (((pv s 0 i) + (pv s 0 i)) + ((pv s 0 i) + (pv s 0 i)))))]) rfl rfl rfl hb44 rfl (by have e0_ := hb44.cellv (i := 0) (v := (.int .i64 0 : Value)) rfl; have f0_ := hb44.frozen 0; have e1_ := hb44.cellv (i := 1) (v := (.int .u64 0 : Value)) rfl; have f1_ := hb44.frozen 1; simp [go_sem, sEv, sLook, nbeq, i64_w, putCells, e0_, f0_, e1_, f1_, Try.underlying24]) ?_
          intro w41 hk42 hk43
          have hs_w41 := hk42.size
          refine rw_end ?_
          refine w_weaken (G' := [(0, .string s), (2, .pointer (some ⟨g1, 0, none⟩)), (3, .bool false), (5, .bool false), (6, .pointer (some ⟨g11, 0, none⟩)), (8, .int .u8 (dgt s 0 i)), (9, .pointer (some ⟨g25, 0, none⟩)), (10, .pointer (some ⟨g35, 0, none⟩)), (26, .slice (some ⟨gc, 0, none⟩) n cap), (27, .int .i64 (n : Int)), (28, .int .i64 (i : Int))]) ⟨rfl, rfl, rfl, rfl, rfl, rfl, rfl, rfl, rfl, rfl, rfl, trivial⟩ ?_
          refine w_region ?_
          refine rw_val (v := .agg #[.int .i64 (Wh ((((pv s 0 i) + (pv s 0 i)) + ((pv s 0 i) + (pv s 0 i))) + (((pv s 0 i) + (pv s 0 i)) + ((pv s 0 i) + (pv s 0 i))))), .int .u64 (Wl ((((pv s 0 i) + (pv s 0 i)) + ((pv s 0 i) + (pv s 0 i))) + (((pv s 0 i) + (pv s 0 i)) + ((pv s 0 i) + (pv s 0 i)))))]) (w' := w41) rfl rfl rfl rfl (by have eb_ := hk43; have e0_ := eb_.cellv (i := 0) (v := (.int .i64 (Wh ((((pv s 0 i) + (pv s 0 i)) + ((pv s 0 i) + (pv s 0 i))) + (((pv s 0 i) + (pv s 0 i)) + ((pv s 0 i) + (pv s 0 i))))) : Value)) rfl; have e1_ := eb_.cellv (i := 1) (v := (.int .u64 (Wl ((((pv s 0 i) + (pv s 0 i)) + ((pv s 0 i) + (pv s 0 i))) + (((pv s 0 i) + (pv s 0 i)) + ((pv s 0 i) + (pv s 0 i))))) : Value)) rfl; simp [go_sem, sEv, sLook, nbeq, i64_w, e0_, e1_, Try.underlying24]) ?_
          refine rw_val (v := .agg #[.int .i64 (Wh ((pv s 0 i) + (pv s 0 i))), .int .u64 (Wl ((pv s 0 i) + (pv s 0 i)))]) (w' := w41) rfl rfl rfl rfl (by have eb_ := ((hk33.on hb39).keep hk42 (by omega)); have e0_ := eb_.cellv (i := 0) (v := (.int .i64 (Wh ((pv s 0 i) + (pv s 0 i))) : Value)) rfl; have e1_ := eb_.cellv (i := 1) (v := (.int .u64 (Wl ((pv s 0 i) + (pv s 0 i))) : Value)) rfl; simp [go_sem, sEv, sLook, nbeq, i64_w, e0_, e1_, Try.underlying24]) ?_
          refine rw_call rfl rfl rfl rfl (f := 15) (args := #[.agg #[.int .i64 (Wh ((((pv s 0 i) + (pv s 0 i)) + ((pv s 0 i) + (pv s 0 i))) + (((pv s 0 i) + (pv s 0 i)) + ((pv s 0 i) + (pv s 0 i))))), .int .u64 (Wl ((((pv s 0 i) + (pv s 0 i)) + ((pv s 0 i) + (pv s 0 i))) + (((pv s 0 i) + (pv s 0 i)) + ((pv s 0 i) + (pv s 0 i)))))], .agg #[.int .i64 (Wh ((pv s 0 i) + (pv s 0 i))), .int .u64 (Wl ((pv s 0 i) + (pv s 0 i)))]]) (by simp [go_sem, sEv, sLook, nbeq, i64_w]) (add_W ((((pv s 0 i) + (pv s 0 i)) + ((pv s 0 i) + (pv s 0 i))) + (((pv s 0 i) + (pv s 0 i)) + ((pv s 0 i) + (pv s 0 i)))) ((pv s 0 i) + (pv s 0 i)) w41) ?_
          rintro e_ w45 ⟨rfl, hb46⟩
          refine ⟨_, rfl, ?_⟩
          have hs_w45 := hb46.size
          refine rw_val (v := .int .u8 (dgt s 0 i)) (w' := w45) rfl rfl rfl rfl rfl ?_
          refine rw_val (v := .int .u8 (dgt s 0 i - 48)) (w' := w45) rfl rfl rfl rfl (by simp [go_sem, sEv, sLook, nbeq, i64_w]; have a_ := of_decide_eq_false c33; have b_ := of_decide_eq_false c36; exact u8_wrap _ (by omega) (by omega)) ?_
          refine rw_val (v := .int .i64 (dgt s 0 i - 48)) (w' := w45) rfl rfl rfl rfl (by simp [go_sem, sEv, sLook, nbeq, i64_w]; have a_ := of_decide_eq_false c33; have b_ := of_decide_eq_false c36; exact wrap_id (by omega) (by omega)) ?_
          refine rw_call rfl rfl rfl rfl (f := 14) (args := #[.int .i64 (dgt s 0 i - 48)]) (by simp [go_sem, sEv, sLook, nbeq, i64_w]) (of_W (dgt s 0 i - 48) (by have a_ := of_decide_eq_false c33; have b_ := of_decide_eq_false c36; omega) w45) ?_
          rintro e_ w47 ⟨rfl, hb48⟩
          refine ⟨_, rfl, ?_⟩
          have hs_w47 := hb48.size
          refine rw_call rfl rfl rfl rfl (f := 15) (args := #[.agg #[.int .i64 (Wh (((((pv s 0 i) + (pv s 0 i)) + ((pv s 0 i) + (pv s 0 i))) + (((pv s 0 i) + (pv s 0 i)) + ((pv s 0 i) + (pv s 0 i)))) + ((pv s 0 i) + (pv s 0 i)))), .int .u64 (Wl (((((pv s 0 i) + (pv s 0 i)) + ((pv s 0 i) + (pv s 0 i))) + (((pv s 0 i) + (pv s 0 i)) + ((pv s 0 i) + (pv s 0 i)))) + ((pv s 0 i) + (pv s 0 i))))], .agg #[.int .i64 (Wh (dgt s 0 i - 48)), .int .u64 (Wl (dgt s 0 i - 48))]]) (by simp [go_sem, sEv, sLook, nbeq, i64_w]) (add_W (((((pv s 0 i) + (pv s 0 i)) + ((pv s 0 i) + (pv s 0 i))) + (((pv s 0 i) + (pv s 0 i)) + ((pv s 0 i) + (pv s 0 i)))) + ((pv s 0 i) + (pv s 0 i))) (dgt s 0 i - 48) w47) ?_
          rintro e_ w49 ⟨rfl, hb50⟩
          refine ⟨_, rfl, ?_⟩
          have hs_w49 := hb50.size
          have hb54 := ((((((((hb6_.on hb24).on hb27).keep hk32 (by omega)).on hb39).keep hk42 (by omega)).on hb46).on hb48).on hb50)
          refine rw_store (g := g11) (i := 0) (l := [.int .i64 (Wh ((((((pv s 0 i) + (pv s 0 i)) + ((pv s 0 i) + (pv s 0 i))) + (((pv s 0 i) + (pv s 0 i)) + ((pv s 0 i) + (pv s 0 i)))) + ((pv s 0 i) + (pv s 0 i))) + (dgt s 0 i - 48))), .int .u64 (Wl ((((((pv s 0 i) + (pv s 0 i)) + ((pv s 0 i) + (pv s 0 i))) + (((pv s 0 i) + (pv s 0 i)) + ((pv s 0 i) + (pv s 0 i)))) + ((pv s 0 i) + (pv s 0 i))) + (dgt s 0 i - 48)))]) (cs' := #[.int .i64 (Wh ((((((pv s 0 i) + (pv s 0 i)) + ((pv s 0 i) + (pv s 0 i))) + (((pv s 0 i) + (pv s 0 i)) + ((pv s 0 i) + (pv s 0 i)))) + ((pv s 0 i) + (pv s 0 i))) + (dgt s 0 i - 48))), .int .u64 (Wl ((((((pv s 0 i) + (pv s 0 i)) + ((pv s 0 i) + (pv s 0 i))) + (((pv s 0 i) + (pv s 0 i)) + ((pv s 0 i) + (pv s 0 i)))) + ((pv s 0 i) + (pv s 0 i))) + (dgt s 0 i - 48)))]) rfl rfl rfl hb54 rfl (by have e0_ := hb54.cellv (i := 0) (v := (.int .i64 (Wh (pv s 0 i)) : Value)) rfl; have f0_ := hb54.frozen 0; have e1_ := hb54.cellv (i := 1) (v := (.int .u64 (Wl (pv s 0 i)) : Value)) rfl; have f1_ := hb54.frozen 1; simp [go_sem, sEv, sLook, nbeq, i64_w, putCells, e0_, f0_, e1_, f1_, Try.underlying24]) ?_
          intro w51 hk52 hk53
          have hs_w51 := hk52.size
          refine rw_end ?_
          refine w_weaken (G' := [(0, .string s), (2, .pointer (some ⟨g1, 0, none⟩)), (3, .bool false), (5, .bool false), (6, .pointer (some ⟨g11, 0, none⟩)), (26, .slice (some ⟨gc, 0, none⟩) n cap), (27, .int .i64 (n : Int)), (28, .int .i64 (i : Int))]) ⟨rfl, rfl, rfl, rfl, rfl, rfl, rfl, rfl, trivial⟩ ?_
          refine w_blk ?_
          refine w_region ?_
          refine rw_val (v := .int .i64 ((i + 1 : Nat) : Int)) (w' := w51) rfl rfl rfl rfl (by simp [go_sem, sEv, sLook, nbeq, i64_w]; have l_ := of_decide_eq_true cL; have f_ := of_decide_eq_false c39; exact wrap_id (by omega) (by omega)) ?_
          refine rw_val (v := .int .i64 ((i + 1 : Nat) : Int)) (w' := w51) rfl rfl rfl rfl rfl ?_
          refine rw_end ?_
          have hv_ : (((((pv s 0 i) + (pv s 0 i)) + ((pv s 0 i) + (pv s 0 i))) + (((pv s 0 i) + (pv s 0 i)) + ((pv s 0 i) + (pv s 0 i)))) + ((pv s 0 i) + (pv s 0 i))) + (dgt s 0 i - 48) = pv s 0 (i + 1) := by
            rw [pv_dgt]
            omega
          rw [hv_] at hk53
          have a_ := of_decide_eq_false c33
          have b_ := of_decide_eq_false c36
          have l_ := of_decide_eq_true cL
          have hcl2_ : ∀ j, j < n → w51.cell? ⟨gc, j, none⟩ = some (.int .u8 (dgt s 0 j)) := fun j hj => ((hk52.cell (by show gc ≠ _; omega)).trans ((cellOn ((cellOn ((cellOn (((hk42.cell (by show gc ≠ _; omega)).trans ((cellOn (((hk32.cell (by show gc ≠ _; omega)).trans ((cellOn ((cellOn (hcl_ j hj) hb24)) hb27)))) hb39)))) hb46)) hb48)) hb50)))
          exact w_back (m - 1) [(0, .string s), (2, .pointer (some ⟨g1, 0, none⟩)), (3, .bool false), (5, .bool false), (6, .pointer (some ⟨g11, 0, none⟩)), (26, .slice (some ⟨gc, 0, none⟩) n cap), (27, .int .i64 (n : Int)), (28, .int .i64 ((i + 1 : Nat) : Int))] (by omega) ⟨rfl, rfl, rfl, rfl, rfl, rfl, rfl, rfl, trivial⟩ ⟨i + 1, by omega, hall.step (by omega) (by omega), rfl, (hk52.below (by omega) (chain (chain (chain (hk42.below (by omega) (chain (hk32.below (by omega) (chain (chain hB hb24) hb27)) hb39)) hb46) hb48) hb50)), (((((((((hb2_.on hb24).on hb27).keep hk32 (by omega)).on hb39).keep hk42 (by omega)).on hb46).on hb48).on hb50).keep hk52 (by omega)), hk53, by omega, hcl2_⟩
      · refine rw_off (c := decide ((dgt s 0 i) < 48)) rfl rfl rfl (by simp [c33]) rfl rfl ?_
        refine rw_off (c := decide ((dgt s 0 i) < 48)) rfl rfl rfl (by simp [c33]) rfl rfl ?_
        refine rw_val (v := .bool true) (w' := w_) rfl rfl rfl rfl (by simp [go_sem, sEv, sLook, nbeq, i64_w, c33]) ?_
        refine rw_end ?_
        refine w_weaken (G' := [(0, .string s), (2, .pointer (some ⟨g1, 0, none⟩)), (3, .bool false), (5, .bool false), (6, .pointer (some ⟨g11, 0, none⟩)), (8, .int .u8 (dgt s 0 i)), (26, .slice (some ⟨gc, 0, none⟩) n cap), (27, .int .i64 (n : Int)), (28, .int .i64 (i : Int)), (37, .bool true)]) ⟨rfl, rfl, rfl, rfl, rfl, rfl, rfl, rfl, rfl, rfl, trivial⟩ ?_
        refine w_cond_t rfl rfl rfl ?_
        refine w_seq ?_
        refine w_region ?_
        refine rw_val (v := .agg #[.int .i64 0, .int .u64 0]) (w' := w_) rfl rfl rfl rfl (by kernel_rfl) ?_
        have hb58 := hb2_
        refine rw_store (g := g1) (i := 0) (l := [.int .i64 0, .int .u64 0]) (cs' := #[.int .i64 0, .int .u64 0]) rfl rfl rfl hb58 rfl (by have e0_ := hb58.cellv (i := 0) (v := (.int .i64 0 : Value)) rfl; have f0_ := hb58.frozen 0; have e1_ := hb58.cellv (i := 1) (v := (.int .u64 0 : Value)) rfl; have f1_ := hb58.frozen 1; simp [go_sem, sEv, sLook, nbeq, i64_w, putCells, e0_, f0_, e1_, f1_, Try.underlying24]) ?_
        intro w55 hk56 hk57
        have hs_w55 := hk56.size
        refine rw_val (v := .bool false) (w' := w55) rfl rfl rfl rfl rfl ?_
        refine rw_end ?_
        refine w_ret (post_retct (v := .agg #[.int .i64 0, .int .u64 0]) rfl rfl rfl (by have eb_ := hk57; have e0_ := eb_.cellv (i := 0) (v := (.int .i64 0 : Value)) rfl; have e1_ := eb_.cellv (i := 1) (v := (.int .u64 0 : Value)) rfl; simp [go_sem, e0_, e1_, Try.underlying24]) ?_)
        refine ⟨?_, (hk56.below (by omega) hB)⟩
        have hm_ := minus_no s (Or.inr hM)
        rw [parsed_no s ?_, Wh0, Wl0]
        rw [hm_, (show s.size - 0 = n by omega)]
        rintro ⟨p1, p2⟩
        have := of_decide_eq_true c33
        have l_ := of_decide_eq_true cL
        exact not_dig (show i < n by omega) (by omega) p2
    · refine w_exit rfl ?_
      refine w_seq ?_
      refine w_seq ?_
      refine w_region ?_
      refine rw_val (v := .bool false) (w' := w_) rfl rfl rfl rfl rfl ?_
      refine rw_end ?_
      refine w_cond_f rfl rfl rfl ?_
      refine w_skip ?_
      refine w_seq ?_
      refine w_region ?_
      refine rw_val (v := .agg #[.int .i64 (Wh (pv s 0 i)), .int .u64 (Wl (pv s 0 i))]) (w' := w_) rfl rfl rfl rfl (by have eb_ := hb6_; have e0_ := eb_.cellv (i := 0) (v := (.int .i64 (Wh (pv s 0 i)) : Value)) rfl; have e1_ := eb_.cellv (i := 1) (v := (.int .u64 (Wl (pv s 0 i)) : Value)) rfl; simp [go_sem, sEv, sLook, nbeq, i64_w, e0_, e1_, Try.underlying24]) ?_
      refine rw_val (v := .string s) (w' := w_) rfl rfl rfl rfl rfl ?_
      refine rw_call rfl rfl rfl rfl (f := 39) (args := #[.agg #[.int .i64 (Wh (pv s 0 i)), .int .u64 (Wl (pv s 0 i))], .string s]) (by simp [go_sem, sEv, sLook, nbeq, i64_w]) (fits_calls (pv s 0 i) s w_) ?_
      rintro e_ w59 ⟨rfl, hb60⟩
      refine ⟨_, rfl, ?_⟩
      have hs_w59 := hb60.size
      refine rw_val (v := .agg #[.int .i64 (Wh (fit (pv s 0 i) s).1), .int .u64 (Wl (fit (pv s 0 i) s).1)]) (w' := w59) rfl rfl rfl rfl (by simp [go_sem, sEv, sLook, nbeq, i64_w]) ?_
      refine rw_val (v := .bool ((fit (pv s 0 i) s).2)) (w' := w59) rfl rfl rfl rfl (by simp [go_sem, sEv, sLook, nbeq, i64_w]) ?_
      have hb64 := (hb2_.on hb60)
      refine rw_store (g := g1) (i := 0) (l := [.int .i64 (Wh (fit (pv s 0 i) s).1), .int .u64 (Wl (fit (pv s 0 i) s).1)]) (cs' := #[.int .i64 (Wh (fit (pv s 0 i) s).1), .int .u64 (Wl (fit (pv s 0 i) s).1)]) rfl rfl rfl hb64 rfl (by have e0_ := hb64.cellv (i := 0) (v := (.int .i64 0 : Value)) rfl; have f0_ := hb64.frozen 0; have e1_ := hb64.cellv (i := 1) (v := (.int .u64 0 : Value)) rfl; have f1_ := hb64.frozen 1; simp [go_sem, sEv, sLook, nbeq, i64_w, putCells, e0_, f0_, e1_, f1_, Try.underlying24]) ?_
      intro w61 hk62 hk63
      have hs_w61 := hk62.size
      refine rw_val (v := .bool ((fit (pv s 0 i) s).2)) (w' := w61) rfl rfl rfl rfl rfl ?_
      refine rw_end ?_
      refine w_weaken (G' := [(2, .pointer (some ⟨g1, 0, none⟩)), (3, .bool ((fit (pv s 0 i) s).2))]) ⟨rfl, rfl, trivial⟩ ?_
      refine w_ret (post_retct (v := .agg #[.int .i64 (Wh (fit (pv s 0 i) s).1), .int .u64 (Wl (fit (pv s 0 i) s).1)]) rfl rfl rfl (by have eb_ := hk63; have e0_ := eb_.cellv (i := 0) (v := (.int .i64 (Wh (fit (pv s 0 i) s).1) : Value)) rfl; have e1_ := eb_.cellv (i := 1) (v := (.int .u64 (Wl (fit (pv s 0 i) s).1) : Value)) rfl; simp [go_sem, e0_, e1_, Try.underlying24]) ?_)
      refine ⟨?_, (hk62.below (by omega) (chain hB hb60))⟩
      have hm_ := minus_no s (Or.inr hM)
      have l_ := of_decide_eq_false cL
      obtain rfl : i = n := by omega
      have f_ := of_decide_eq_false c39
      have hp_ := parsed_fit s (by rw [hm_]; omega) (by rw [hm_, show s.size - 0 = i by omega]; exact hall)
      rw [hm_, show s.size - 0 = i by omega] at hp_
      unfold sgn at hp_
      rw [hm_, if_neg (by decide)] at hp_
      rw [hp_]
set_option maxHeartbeats 4000000 in
theorem parse_C (s : ByteArray) (n : Nat) (hnn : s.size = n + 1) (hM : bt s 0 = 45) (w : World) :
    Calls Try.prog 30 #[.string s] w fun e w' => e = .returned (.tuple #[.agg #[.int .i64 (Wh (parsed s).1), .int .u64 (Wl (parsed s).1)], .bool (parsed s).2]) ∧ Below w.heap.size w w' := by
  refine calls_flow Try.func30 rfl 66 rfl (Nat.le_of_ble_eq_true rfl) [(0, .string s)] ?_ ?_
  · intro t v h; exact args_look rfl t v h
  refine w_seq ?_
  refine w_region ?_
  refine rw_new (cs := #[.int .i64 0, .int .u64 0]) (t := 24) (fun g => .pointer (some ⟨g, 0, none⟩)) rfl rfl rfl rfl (by kernel_rfl) ?_
  intro g1 w2 hg6 hz5 hb3 hk4
  have hs_w2 := hb3.size
  refine rw_val (v := .bool false) (w' := w2) rfl rfl rfl rfl rfl ?_
  refine rw_end ?_
  refine w_seq ?_
  refine w_region ?_
  refine rw_val (v := .string s) (w' := w2) rfl rfl rfl rfl rfl ?_
  refine rw_val (v := .string s) (w' := w2) rfl rfl rfl rfl rfl ?_
  refine rw_val (v := .bool false) (w' := w2) rfl rfl rfl rfl rfl ?_
  refine rw_end ?_
  refine w_seq ?_
  refine w_seq ?_
  refine w_region ?_
  refine rw_val (v := .string s) (w' := w2) rfl rfl rfl rfl rfl ?_
  refine rw_val (v := .bool true) (w' := w2) rfl rfl rfl rfl (run_bool (run_as (run_str_neq 9 _ _ _)) (ne_true (by omega))) ?_
  refine rw_val (v := .bool true) (w' := w2) rfl rfl rfl rfl rfl ?_
  refine rw_gval (c := true) (v := .string s) (w' := w2) rfl rfl rfl rfl rfl rfl rfl (by rfl) ?_
  refine rw_gval (c := true) (v := .int .u8 (bt s 0)) (w' := w2) rfl rfl rfl rfl rfl rfl rfl (by exact run_as (str_at (by kernel_rfl) 0 (by omega) (by omega) _)) ?_
  refine rw_gval (c := true) (v := .bool true) (w' := w2) rfl rfl rfl rfl rfl rfl rfl (by simp [go_sem, sEv, sLook, nbeq, i64_w]; exact hM) ?_
  refine rw_val (v := .bool true) (w' := w2) rfl rfl rfl rfl (by simp [go_sem, sEv, sLook, nbeq, i64_w]) ?_
  refine rw_end ?_
  refine w_weaken (G' := [(0, .string s), (2, .pointer (some ⟨g1, 0, none⟩)), (3, .bool false), (4, .string s), (5, .bool false), (18, .bool true)]) ⟨rfl, rfl, rfl, rfl, rfl, rfl, trivial⟩ ?_
  refine w_cond_t rfl rfl rfl ?_
  refine w_region ?_
  refine rw_val (v := .string s) (w' := w2) rfl rfl rfl rfl rfl ?_
  refine rw_val (v := .string (s.extract 1 s.size)) (w' := w2) rfl rfl rfl rfl (by simp [go_sem, sEv, sLook, nbeq, i64_w]; omega) ?_
  refine rw_val (v := .string (s.extract 1 s.size)) (w' := w2) rfl rfl rfl rfl rfl ?_
  refine rw_val (v := .bool true) (w' := w2) rfl rfl rfl rfl rfl ?_
  refine rw_end ?_
  refine w_weaken (G' := [(0, .string s), (2, .pointer (some ⟨g1, 0, none⟩)), (3, .bool false), (4, .string (s.extract 1 s.size)), (5, .bool true)]) ⟨rfl, rfl, rfl, rfl, rfl, trivial⟩ ?_
  refine w_seq ?_
  refine w_seq ?_
  refine w_region ?_
  refine rw_val (v := .string (s.extract 1 s.size)) (w' := w2) rfl rfl rfl rfl rfl ?_
  refine rw_val (v := .int .i64 (n : Int)) (w' := w2) rfl rfl rfl rfl (by simp [go_sem, sEv, sLook, nbeq, i64_w]; omega) ?_
  refine rw_val (v := .bool (decide (39 < (n : Int)))) (w' := w2) rfl rfl rfl rfl (by simp [go_sem, sEv, sLook, nbeq, i64_w]) ?_
  refine rw_end ?_
  refine w_cond rfl rfl (fun c39 => ?_) (fun c39 => ?_)
  · refine w_seq ?_
    refine w_region ?_
    refine rw_val (v := .agg #[.int .i64 0, .int .u64 0]) (w' := w2) rfl rfl rfl rfl (by kernel_rfl) ?_
    have hb10 := hk4
    refine rw_store (g := g1) (i := 0) (l := [.int .i64 0, .int .u64 0]) (cs' := #[.int .i64 0, .int .u64 0]) rfl rfl rfl hb10 rfl (by have e0_ := hb10.cellv (i := 0) (v := (.int .i64 0 : Value)) rfl; have f0_ := hb10.frozen 0; have e1_ := hb10.cellv (i := 1) (v := (.int .u64 0 : Value)) rfl; have f1_ := hb10.frozen 1; simp [go_sem, sEv, sLook, nbeq, i64_w, putCells, e0_, f0_, e1_, f1_, Try.underlying24]) ?_
    intro w7 hk8 hk9
    have hs_w7 := hk8.size
    refine rw_val (v := .bool false) (w' := w7) rfl rfl rfl rfl rfl ?_
    refine rw_end ?_
    refine w_ret (post_retct (v := .agg #[.int .i64 0, .int .u64 0]) rfl rfl rfl (by have eb_ := hk9; have e0_ := eb_.cellv (i := 0) (v := (.int .i64 0 : Value)) rfl; have e1_ := eb_.cellv (i := 1) (v := (.int .u64 0 : Value)) rfl; simp [go_sem, e0_, e1_, Try.underlying24]) ?_)
    refine ⟨?_, (hk8.below (by omega) hb3)⟩
    have hm_ := minus_yes s (by omega) hM
    rw [parsed_no s ?_, Wh0, Wl0]
    rw [hm_, (show s.size - 1 = n by omega)]
    rintro ⟨p1, p2⟩
    have := of_decide_eq_true c39
    omega
  · refine w_skip ?_
    refine w_seq ?_
    refine w_region ?_
    refine rw_new (cs := #[.int .i64 0, .int .u64 0]) (t := 24) (fun g => .pointer (some ⟨g, 0, none⟩)) rfl rfl rfl rfl (by kernel_rfl) ?_
    intro g11 w12 hg16 hz15 hb13 hk14
    have hs_w12 := hb13.size
    refine rw_end ?_
    refine w_seq ?_
    refine w_seq ?_
    refine w_region ?_
    refine rw_val (v := .string (s.extract 1 s.size)) (w' := w12) rfl rfl rfl rfl rfl ?_
    obtain ⟨gc, cap, w17, hrun_, hb18, hgc, hzc, hcell⟩ := conv_bytes (P := Try.prog) 9 52 5 (by kernel_rfl) (by kernel_rfl) (by kernel_rfl) w12 (s.extract 1 s.size)
    rw [show (s.extract 1 s.size).size = n by rw [ByteArray.size_extract]; omega] at hrun_ hcell
    refine rw_val (v := .slice (some ⟨gc, 0, none⟩) n cap) (w' := w17) rfl rfl rfl rfl (run_as hrun_) ?_
    have hs_w17 := hb18.size
    have hcl : ∀ i, i < n → w17.cell? ⟨gc, i, none⟩ = some (.int .u8 (dgt s 1 i)) := fun i hi => by
      rw [hcell i hi]
      rw [bt_tail s i (by omega)]; rfl
    refine rw_val (v := .int .i64 (n : Int)) (w' := w17) rfl rfl rfl rfl (by simp [go_sem, sEv, sLook, nbeq, i64_w]) ?_
    refine rw_val (v := .int .i64 0) (w' := w17) rfl rfl rfl rfl rfl ?_
    refine rw_end ?_
    refine w_weaken (G' := [(0, .string s), (2, .pointer (some ⟨g1, 0, none⟩)), (3, .bool false), (5, .bool true), (6, .pointer (some ⟨g11, 0, none⟩)), (26, .slice (some ⟨gc, 0, none⟩) n cap), (27, .int .i64 (n : Int)), (28, .int .i64 0)]) ⟨rfl, rfl, rfl, rfl, rfl, rfl, rfl, rfl, trivial⟩ ?_
    refine w_block ?_
    have h6_ : Blk w17 g11 24 #[.int .i64 (Wh (pv s 1 0)), .int .u64 (Wl (pv s 1 0))] := by
      have h_ := (hk14.on hb18)
      simp only [pv, Wh0, Wl0]
      exact h_
    have hcl0_ : ∀ j, j < n → w17.cell? ⟨gc, j, none⟩ = some (.int .u8 (dgt s 1 j)) := fun j hj => cellOn (hcl j hj) (Below.refl _ _)
    refine w_loop (fun m G W_ => ∃ i : Nat, i + m = n ∧ AllDig s 1 i ∧ G = [(0, .string s), (2, .pointer (some ⟨g1, 0, none⟩)), (3, .bool false), (5, .bool true), (6, .pointer (some ⟨g11, 0, none⟩)), (26, .slice (some ⟨gc, 0, none⟩) n cap), (27, .int .i64 (n : Int)), (28, .int .i64 (i : Int))] ∧ Below w.heap.size w W_ ∧ Blk W_ g1 24 #[.int .i64 0, .int .u64 0] ∧ Blk W_ g11 24 #[.int .i64 (Wh (pv s 1 i)), .int .u64 (Wl (pv s 1 i))] ∧ (gc < W_.heap.size) ∧ ∀ j, j < n → W_.cell? ⟨gc, j, none⟩ = some (.int .u8 (dgt s 1 j))) n [(0, .string s), (2, .pointer (some ⟨g1, 0, none⟩)), (3, .bool false), (5, .bool true), (6, .pointer (some ⟨g11, 0, none⟩)), (26, .slice (some ⟨gc, 0, none⟩) n cap), (27, .int .i64 (n : Int)), (28, .int .i64 0)] ⟨0, by omega, AllDig.nil _ _, rfl, (chain (chain hb3 hb13) hb18), ((hk4.on hb13).on hb18), h6_, by omega, hcl0_⟩ ⟨rfl, rfl, rfl, rfl, rfl, rfl, rfl, rfl, trivial⟩ ?_
    rintro m G w_ ⟨i, him, hall, rfl, hB, hb2_, hb6_, hgc_, hcl_⟩
    have hs_w_ := hB.size
    refine w_seq ?_
    refine w_region ?_
    refine rw_val (v := .bool (decide ((i : Int) < (n : Int)))) (w' := w_) rfl rfl rfl rfl (by simp [go_sem, sEv, sLook, nbeq, i64_w]) ?_
    refine rw_end ?_
    refine w_seq ?_
    refine w_cond rfl rfl (fun cL => ?_) (fun cL => ?_)
    · refine w_skip ?_
      refine w_seq ?_
      refine w_block ?_
      refine w_seq ?_
      refine w_region ?_
      have l_ := of_decide_eq_true cL
      refine rw_val (v := .pointer (some ⟨gc, i, none⟩)) (w' := w_) rfl rfl rfl rfl (by simp [go_sem, sEv, sLook, nbeq, i64_w, Try.underlying52, add_plain]; omega) ?_
      have hc_ := hcl_ i (by omega)
      refine rw_val (v := .int .u8 (dgt s 1 i)) (w' := w_) rfl rfl rfl rfl (by simp [go_sem, sEv, sLook, nbeq, i64_w, hc_]) ?_
      refine rw_val (v := .int .u8 (dgt s 1 i)) (w' := w_) rfl rfl rfl rfl rfl ?_
      refine rw_end ?_
      refine w_seq ?_
      refine w_seq ?_
      refine w_region ?_
      refine rw_val (v := .int .u8 (dgt s 1 i)) (w' := w_) rfl rfl rfl rfl rfl ?_
      refine rw_val (v := .bool (decide ((dgt s 1 i) < 48))) (w' := w_) rfl rfl rfl rfl (by simp [go_sem, sEv, sLook, nbeq, i64_w]) ?_
      refine rw_val (v := .bool (decide ((dgt s 1 i) < 48))) (w' := w_) rfl rfl rfl rfl rfl ?_
      rcases bcase (decide ((dgt s 1 i) < 48)) with c33 | c33
      · refine rw_gval (c := decide ((dgt s 1 i) < 48)) (v := .int .u8 (dgt s 1 i)) (w' := w_) rfl rfl rfl (by simp [c33]) rfl rfl rfl (by rfl) ?_
        refine rw_gval (c := decide ((dgt s 1 i) < 48)) (v := .bool (decide (57 < (dgt s 1 i)))) (w' := w_) rfl rfl rfl (by simp [c33]) rfl rfl rfl (by simp [go_sem, sEv, sLook, nbeq, i64_w]) ?_
        refine rw_val (v := .bool (decide (57 < (dgt s 1 i)))) (w' := w_) rfl rfl rfl rfl (by simp [go_sem, sEv, sLook, nbeq, i64_w, c33]) ?_
        refine rw_end ?_
        refine w_weaken (G' := [(0, .string s), (2, .pointer (some ⟨g1, 0, none⟩)), (3, .bool false), (5, .bool true), (6, .pointer (some ⟨g11, 0, none⟩)), (8, .int .u8 (dgt s 1 i)), (26, .slice (some ⟨gc, 0, none⟩) n cap), (27, .int .i64 (n : Int)), (28, .int .i64 (i : Int)), (37, .bool (decide (57 < (dgt s 1 i))))]) ⟨rfl, rfl, rfl, rfl, rfl, rfl, rfl, rfl, rfl, rfl, trivial⟩ ?_
        refine w_cond rfl rfl (fun c36 => ?_) (fun c36 => ?_)
        · refine w_seq ?_
          refine w_region ?_
          refine rw_val (v := .agg #[.int .i64 0, .int .u64 0]) (w' := w_) rfl rfl rfl rfl (by kernel_rfl) ?_
          have hb22 := hb2_
          refine rw_store (g := g1) (i := 0) (l := [.int .i64 0, .int .u64 0]) (cs' := #[.int .i64 0, .int .u64 0]) rfl rfl rfl hb22 rfl (by have e0_ := hb22.cellv (i := 0) (v := (.int .i64 0 : Value)) rfl; have f0_ := hb22.frozen 0; have e1_ := hb22.cellv (i := 1) (v := (.int .u64 0 : Value)) rfl; have f1_ := hb22.frozen 1; simp [go_sem, sEv, sLook, nbeq, i64_w, putCells, e0_, f0_, e1_, f1_, Try.underlying24]) ?_
          intro w19 hk20 hk21
          have hs_w19 := hk20.size
          refine rw_val (v := .bool false) (w' := w19) rfl rfl rfl rfl rfl ?_
          refine rw_end ?_
          refine w_ret (post_retct (v := .agg #[.int .i64 0, .int .u64 0]) rfl rfl rfl (by have eb_ := hk21; have e0_ := eb_.cellv (i := 0) (v := (.int .i64 0 : Value)) rfl; have e1_ := eb_.cellv (i := 1) (v := (.int .u64 0 : Value)) rfl; simp [go_sem, e0_, e1_, Try.underlying24]) ?_)
          refine ⟨?_, (hk20.below (by omega) hB)⟩
          have hm_ := minus_yes s (by omega) hM
          rw [parsed_no s ?_, Wh0, Wl0]
          rw [hm_, (show s.size - 1 = n by omega)]
          rintro ⟨p1, p2⟩
          have := of_decide_eq_true c36
          have l_ := of_decide_eq_true cL
          exact not_dig (show i < n by omega) (by omega) p2
        · refine w_skip ?_
          refine w_seq ?_
          refine w_region ?_
          refine rw_val (v := .agg #[.int .i64 (Wh (pv s 1 i)), .int .u64 (Wl (pv s 1 i))]) (w' := w_) rfl rfl rfl rfl (by have eb_ := hb6_; have e0_ := eb_.cellv (i := 0) (v := (.int .i64 (Wh (pv s 1 i)) : Value)) rfl; have e1_ := eb_.cellv (i := 1) (v := (.int .u64 (Wl (pv s 1 i)) : Value)) rfl; simp [go_sem, sEv, sLook, nbeq, i64_w, e0_, e1_, Try.underlying24]) ?_
          refine rw_val (v := .agg #[.int .i64 (Wh (pv s 1 i)), .int .u64 (Wl (pv s 1 i))]) (w' := w_) rfl rfl rfl rfl (by have eb_ := hb6_; have e0_ := eb_.cellv (i := 0) (v := (.int .i64 (Wh (pv s 1 i)) : Value)) rfl; have e1_ := eb_.cellv (i := 1) (v := (.int .u64 (Wl (pv s 1 i)) : Value)) rfl; simp [go_sem, sEv, sLook, nbeq, i64_w, e0_, e1_, Try.underlying24]) ?_
          refine rw_call rfl rfl rfl rfl (f := 15) (args := #[.agg #[.int .i64 (Wh (pv s 1 i)), .int .u64 (Wl (pv s 1 i))], .agg #[.int .i64 (Wh (pv s 1 i)), .int .u64 (Wl (pv s 1 i))]]) (by simp [go_sem, sEv, sLook, nbeq, i64_w]) (add_W (pv s 1 i) (pv s 1 i) w_) ?_
          rintro e_ w23 ⟨rfl, hb24⟩
          refine ⟨_, rfl, ?_⟩
          have hs_w23 := hb24.size
          refine rw_new (cs := #[.int .i64 0, .int .u64 0]) (t := 24) (fun g => .pointer (some ⟨g, 0, none⟩)) rfl rfl rfl rfl (by kernel_rfl) ?_
          intro g25 w26 hg30 hz29 hb27 hk28
          have hs_w26 := hb27.size
          have hb34 := hk28
          refine rw_store (g := g25) (i := 0) (l := [.int .i64 (Wh ((pv s 1 i) + (pv s 1 i))), .int .u64 (Wl ((pv s 1 i) + (pv s 1 i)))]) (cs' := #[.int .i64 (Wh ((pv s 1 i) + (pv s 1 i))), .int .u64 (Wl ((pv s 1 i) + (pv s 1 i)))]) rfl rfl rfl hb34 rfl (by have e0_ := hb34.cellv (i := 0) (v := (.int .i64 0 : Value)) rfl; have f0_ := hb34.frozen 0; have e1_ := hb34.cellv (i := 1) (v := (.int .u64 0 : Value)) rfl; have f1_ := hb34.frozen 1; simp [go_sem, sEv, sLook, nbeq, i64_w, putCells, e0_, f0_, e1_, f1_, Try.underlying24]) ?_
          intro w31 hk32 hk33
          have hs_w31 := hk32.size
          refine rw_end ?_
          refine w_weaken (G' := [(0, .string s), (2, .pointer (some ⟨g1, 0, none⟩)), (3, .bool false), (5, .bool true), (6, .pointer (some ⟨g11, 0, none⟩)), (8, .int .u8 (dgt s 1 i)), (9, .pointer (some ⟨g25, 0, none⟩)), (26, .slice (some ⟨gc, 0, none⟩) n cap), (27, .int .i64 (n : Int)), (28, .int .i64 (i : Int))]) ⟨rfl, rfl, rfl, rfl, rfl, rfl, rfl, rfl, rfl, rfl, trivial⟩ ?_
          refine w_seq ?_
          refine w_drawk (M := [0, 0, 3, 0, 0, 31, 63, 0, 255]) (ss := [Is (.agg #[.int .i64 (Wh ((pv s 1 i) + (pv s 1 i))), .int .u64 (Wl ((pv s 1 i) + (pv s 1 i)))]), Is (.agg #[.int .i64 (Wh ((pv s 1 i) + (pv s 1 i))), .int .u64 (Wl ((pv s 1 i) + (pv s 1 i)))]), (Is (.agg #[.int .i64 (Wh (((pv s 1 i) + (pv s 1 i)) + ((pv s 1 i) + (pv s 1 i)))), .int .u64 (Wl (((pv s 1 i) + (pv s 1 i)) + ((pv s 1 i) + (pv s 1 i))))])), Is (.agg #[.int .i64 (Wh ((pv s 1 i) + (pv s 1 i))), .int .u64 (Wl ((pv s 1 i) + (pv s 1 i)))]), Is (.agg #[.int .i64 (Wh ((pv s 1 i) + (pv s 1 i))), .int .u64 (Wl ((pv s 1 i) + (pv s 1 i)))]), (Is (.agg #[.int .i64 (Wh (((pv s 1 i) + (pv s 1 i)) + ((pv s 1 i) + (pv s 1 i)))), .int .u64 (Wl (((pv s 1 i) + (pv s 1 i)) + ((pv s 1 i) + (pv s 1 i))))])), (Is (.agg #[.int .i64 (Wh ((((pv s 1 i) + (pv s 1 i)) + ((pv s 1 i) + (pv s 1 i))) + (((pv s 1 i) + (pv s 1 i)) + ((pv s 1 i) + (pv s 1 i))))), .int .u64 (Wl ((((pv s 1 i) + (pv s 1 i)) + ((pv s 1 i) + (pv s 1 i))) + (((pv s 1 i) + (pv s 1 i)) + ((pv s 1 i) + (pv s 1 i)))))])), BlkSpec w31.heap.size 24 #[.int .i64 0, .int .u64 0]]) 8 rfl (by decide +kernel) ?_
          refine t_is (.agg #[.int .i64 (Wh ((pv s 1 i) + (pv s 1 i))), .int .u64 (Wl ((pv s 1 i) + (pv s 1 i)))]) rfl rfl rfl rfl (fun W_ hW_ F_ => by have eb_ := (hk33.on (below_of_drew hW_)); have e0_ := eb_.cellv (i := 0) (v := (.int .i64 (Wh ((pv s 1 i) + (pv s 1 i))) : Value)) rfl; have e1_ := eb_.cellv (i := 1) (v := (.int .u64 (Wl ((pv s 1 i) + (pv s 1 i))) : Value)) rfl; simp [go_sem, sEv, sLook, nbeq, i64_w, e0_, e1_, Try.underlying24]) ?_
          refine t_is (.agg #[.int .i64 (Wh ((pv s 1 i) + (pv s 1 i))), .int .u64 (Wl ((pv s 1 i) + (pv s 1 i)))]) rfl rfl rfl rfl (fun W_ hW_ F_ => by have eb_ := (hk33.on (below_of_drew hW_)); have e0_ := eb_.cellv (i := 0) (v := (.int .i64 (Wh ((pv s 1 i) + (pv s 1 i))) : Value)) rfl; have e1_ := eb_.cellv (i := 1) (v := (.int .u64 (Wl ((pv s 1 i) + (pv s 1 i))) : Value)) rfl; simp [go_sem, sEv, sLook, nbeq, i64_w, e0_, e1_, Try.underlying24]) ?_
          refine t_call (f := 15) (args := #[.agg #[.int .i64 (Wh ((pv s 1 i) + (pv s 1 i))), .int .u64 (Wl ((pv s 1 i) + (pv s 1 i)))], .agg #[.int .i64 (Wh ((pv s 1 i) + (pv s 1 i))), .int .u64 (Wl ((pv s 1 i) + (pv s 1 i)))]]) (Is (.agg #[.int .i64 (Wh (((pv s 1 i) + (pv s 1 i)) + ((pv s 1 i) + (pv s 1 i)))), .int .u64 (Wl (((pv s 1 i) + (pv s 1 i)) + ((pv s 1 i) + (pv s 1 i))))])) rfl rfl rfl rfl (fun W_ => by simp [go_sem, sEv, sLook, nbeq, i64_w]) (fun W_ hW_ F_ => ?_) ?_
          · refine (add_W ((pv s 1 i) + (pv s 1 i)) ((pv s 1 i) + (pv s 1 i)) W_).mono ?_
            rintro e_ w_ ⟨rfl, hd_⟩
            exact ⟨_, rfl, rfl, hd_⟩
          rintro _ rfl
          refine t_is (.agg #[.int .i64 (Wh ((pv s 1 i) + (pv s 1 i))), .int .u64 (Wl ((pv s 1 i) + (pv s 1 i)))]) rfl rfl rfl rfl (fun W_ hW_ F_ => by have eb_ := (hk33.on (below_of_drew hW_)); have e0_ := eb_.cellv (i := 0) (v := (.int .i64 (Wh ((pv s 1 i) + (pv s 1 i))) : Value)) rfl; have e1_ := eb_.cellv (i := 1) (v := (.int .u64 (Wl ((pv s 1 i) + (pv s 1 i))) : Value)) rfl; simp [go_sem, sEv, sLook, nbeq, i64_w, e0_, e1_, Try.underlying24]) ?_
          refine t_is (.agg #[.int .i64 (Wh ((pv s 1 i) + (pv s 1 i))), .int .u64 (Wl ((pv s 1 i) + (pv s 1 i)))]) rfl rfl rfl rfl (fun W_ hW_ F_ => by have eb_ := (hk33.on (below_of_drew hW_)); have e0_ := eb_.cellv (i := 0) (v := (.int .i64 (Wh ((pv s 1 i) + (pv s 1 i))) : Value)) rfl; have e1_ := eb_.cellv (i := 1) (v := (.int .u64 (Wl ((pv s 1 i) + (pv s 1 i))) : Value)) rfl; simp [go_sem, sEv, sLook, nbeq, i64_w, e0_, e1_, Try.underlying24]) ?_
          refine t_call (f := 15) (args := #[.agg #[.int .i64 (Wh ((pv s 1 i) + (pv s 1 i))), .int .u64 (Wl ((pv s 1 i) + (pv s 1 i)))], .agg #[.int .i64 (Wh ((pv s 1 i) + (pv s 1 i))), .int .u64 (Wl ((pv s 1 i) + (pv s 1 i)))]]) (Is (.agg #[.int .i64 (Wh (((pv s 1 i) + (pv s 1 i)) + ((pv s 1 i) + (pv s 1 i)))), .int .u64 (Wl (((pv s 1 i) + (pv s 1 i)) + ((pv s 1 i) + (pv s 1 i))))])) rfl rfl rfl rfl (fun W_ => by simp [go_sem, sEv, sLook, nbeq, i64_w]) (fun W_ hW_ F_ => ?_) ?_
          · refine (add_W ((pv s 1 i) + (pv s 1 i)) ((pv s 1 i) + (pv s 1 i)) W_).mono ?_
            rintro e_ w_ ⟨rfl, hd_⟩
            exact ⟨_, rfl, rfl, hd_⟩
          rintro _ rfl
          refine t_call (f := 15) (args := #[.agg #[.int .i64 (Wh (((pv s 1 i) + (pv s 1 i)) + ((pv s 1 i) + (pv s 1 i)))), .int .u64 (Wl (((pv s 1 i) + (pv s 1 i)) + ((pv s 1 i) + (pv s 1 i))))], .agg #[.int .i64 (Wh (((pv s 1 i) + (pv s 1 i)) + ((pv s 1 i) + (pv s 1 i)))), .int .u64 (Wl (((pv s 1 i) + (pv s 1 i)) + ((pv s 1 i) + (pv s 1 i))))]]) (Is (.agg #[.int .i64 (Wh ((((pv s 1 i) + (pv s 1 i)) + ((pv s 1 i) + (pv s 1 i))) + (((pv s 1 i) + (pv s 1 i)) + ((pv s 1 i) + (pv s 1 i))))), .int .u64 (Wl ((((pv s 1 i) + (pv s 1 i)) + ((pv s 1 i) + (pv s 1 i))) + (((pv s 1 i) + (pv s 1 i)) + ((pv s 1 i) + (pv s 1 i)))))])) rfl rfl rfl rfl (fun W_ => by simp [go_sem, sEv, sLook, nbeq, i64_w]) (fun W_ hW_ F_ => ?_) ?_
          · refine (add_W (((pv s 1 i) + (pv s 1 i)) + ((pv s 1 i) + (pv s 1 i))) (((pv s 1 i) + (pv s 1 i)) + ((pv s 1 i) + (pv s 1 i))) W_).mono ?_
            rintro e_ w_ ⟨rfl, hd_⟩
            exact ⟨_, rfl, rfl, hd_⟩
          rintro _ rfl
          refine t_val (BlkSpec w31.heap.size 24 #[.int .i64 0, .int .u64 0]) rfl rfl rfl rfl (fun W_ hW_ F_ => blk_gives _ _ _ (below_of_drew hW_).size (by kernel_rfl)) ?_
          rintro _ ⟨g35, rfl⟩
          refine t_tail ?_
          intro w38 hb39_ F40
          have hb39 := below_of_drew hb39_
          have hs_w38 := hb39.size
          obtain ⟨hge37, hk36⟩ := blk_fact (F40 7 _ _ rfl)
          have hlt_g35 := hk36.lt
          have hb44 := hk36
          refine rw_store (g := g35) (i := 0) (l := [.int .i64 (Wh ((((pv s 1 i) + (pv s 1 i)) + ((pv s 1 i) + (pv s 1 i))) + (((pv s 1 i) + (pv s 1 i)) + ((pv s 1 i) + (pv s 1 i))))), .int .u64 (Wl ((((pv s 1 i) + (pv s 1 i)) + ((pv s 1 i) + (pv s 1 i))) + (((pv s 1 i) + (pv s 1 i)) + ((pv s 1 i) + (pv s 1 i)))))]) (cs' := #[.int .i64 (Wh ((((pv s 1 i) + (pv s 1 i)) + ((pv s 1 i) + (pv s 1 i))) + (((pv s 1 i) + (pv s 1 i)) + ((pv s 1 i) + (pv s 1 i))))), .int .u64 (Wl ((((pv s 1 i) + (pv s 1 i)) + ((pv s 1 i) + (pv s 1 i))) + (((pv s 1 i) + (pv s 1 i)) + ((pv s 1 i) + (pv s 1 i)))))]) rfl rfl rfl hb44 rfl (by have e0_ := hb44.cellv (i := 0) (v := (.int .i64 0 : Value)) rfl; have f0_ := hb44.frozen 0; have e1_ := hb44.cellv (i := 1) (v := (.int .u64 0 : Value)) rfl; have f1_ := hb44.frozen 1; simp [go_sem, sEv, sLook, nbeq, i64_w, putCells, e0_, f0_, e1_, f1_, Try.underlying24]) ?_
          intro w41 hk42 hk43
          have hs_w41 := hk42.size
          refine rw_end ?_
          refine w_weaken (G' := [(0, .string s), (2, .pointer (some ⟨g1, 0, none⟩)), (3, .bool false), (5, .bool true), (6, .pointer (some ⟨g11, 0, none⟩)), (8, .int .u8 (dgt s 1 i)), (9, .pointer (some ⟨g25, 0, none⟩)), (10, .pointer (some ⟨g35, 0, none⟩)), (26, .slice (some ⟨gc, 0, none⟩) n cap), (27, .int .i64 (n : Int)), (28, .int .i64 (i : Int))]) ⟨rfl, rfl, rfl, rfl, rfl, rfl, rfl, rfl, rfl, rfl, rfl, trivial⟩ ?_
          refine w_region ?_
          refine rw_val (v := .agg #[.int .i64 (Wh ((((pv s 1 i) + (pv s 1 i)) + ((pv s 1 i) + (pv s 1 i))) + (((pv s 1 i) + (pv s 1 i)) + ((pv s 1 i) + (pv s 1 i))))), .int .u64 (Wl ((((pv s 1 i) + (pv s 1 i)) + ((pv s 1 i) + (pv s 1 i))) + (((pv s 1 i) + (pv s 1 i)) + ((pv s 1 i) + (pv s 1 i)))))]) (w' := w41) rfl rfl rfl rfl (by have eb_ := hk43; have e0_ := eb_.cellv (i := 0) (v := (.int .i64 (Wh ((((pv s 1 i) + (pv s 1 i)) + ((pv s 1 i) + (pv s 1 i))) + (((pv s 1 i) + (pv s 1 i)) + ((pv s 1 i) + (pv s 1 i))))) : Value)) rfl; have e1_ := eb_.cellv (i := 1) (v := (.int .u64 (Wl ((((pv s 1 i) + (pv s 1 i)) + ((pv s 1 i) + (pv s 1 i))) + (((pv s 1 i) + (pv s 1 i)) + ((pv s 1 i) + (pv s 1 i))))) : Value)) rfl; simp [go_sem, sEv, sLook, nbeq, i64_w, e0_, e1_, Try.underlying24]) ?_
          refine rw_val (v := .agg #[.int .i64 (Wh ((pv s 1 i) + (pv s 1 i))), .int .u64 (Wl ((pv s 1 i) + (pv s 1 i)))]) (w' := w41) rfl rfl rfl rfl (by have eb_ := ((hk33.on hb39).keep hk42 (by omega)); have e0_ := eb_.cellv (i := 0) (v := (.int .i64 (Wh ((pv s 1 i) + (pv s 1 i))) : Value)) rfl; have e1_ := eb_.cellv (i := 1) (v := (.int .u64 (Wl ((pv s 1 i) + (pv s 1 i))) : Value)) rfl; simp [go_sem, sEv, sLook, nbeq, i64_w, e0_, e1_, Try.underlying24]) ?_
          refine rw_call rfl rfl rfl rfl (f := 15) (args := #[.agg #[.int .i64 (Wh ((((pv s 1 i) + (pv s 1 i)) + ((pv s 1 i) + (pv s 1 i))) + (((pv s 1 i) + (pv s 1 i)) + ((pv s 1 i) + (pv s 1 i))))), .int .u64 (Wl ((((pv s 1 i) + (pv s 1 i)) + ((pv s 1 i) + (pv s 1 i))) + (((pv s 1 i) + (pv s 1 i)) + ((pv s 1 i) + (pv s 1 i)))))], .agg #[.int .i64 (Wh ((pv s 1 i) + (pv s 1 i))), .int .u64 (Wl ((pv s 1 i) + (pv s 1 i)))]]) (by simp [go_sem, sEv, sLook, nbeq, i64_w]) (add_W ((((pv s 1 i) + (pv s 1 i)) + ((pv s 1 i) + (pv s 1 i))) + (((pv s 1 i) + (pv s 1 i)) + ((pv s 1 i) + (pv s 1 i)))) ((pv s 1 i) + (pv s 1 i)) w41) ?_
          rintro e_ w45 ⟨rfl, hb46⟩
          refine ⟨_, rfl, ?_⟩
          have hs_w45 := hb46.size
          refine rw_val (v := .int .u8 (dgt s 1 i)) (w' := w45) rfl rfl rfl rfl rfl ?_
          refine rw_val (v := .int .u8 (dgt s 1 i - 48)) (w' := w45) rfl rfl rfl rfl (by simp [go_sem, sEv, sLook, nbeq, i64_w]; have a_ := of_decide_eq_false c33; have b_ := of_decide_eq_false c36; exact u8_wrap _ (by omega) (by omega)) ?_
          refine rw_val (v := .int .i64 (dgt s 1 i - 48)) (w' := w45) rfl rfl rfl rfl (by simp [go_sem, sEv, sLook, nbeq, i64_w]; have a_ := of_decide_eq_false c33; have b_ := of_decide_eq_false c36; exact wrap_id (by omega) (by omega)) ?_
          refine rw_call rfl rfl rfl rfl (f := 14) (args := #[.int .i64 (dgt s 1 i - 48)]) (by simp [go_sem, sEv, sLook, nbeq, i64_w]) (of_W (dgt s 1 i - 48) (by have a_ := of_decide_eq_false c33; have b_ := of_decide_eq_false c36; omega) w45) ?_
          rintro e_ w47 ⟨rfl, hb48⟩
          refine ⟨_, rfl, ?_⟩
          have hs_w47 := hb48.size
          refine rw_call rfl rfl rfl rfl (f := 15) (args := #[.agg #[.int .i64 (Wh (((((pv s 1 i) + (pv s 1 i)) + ((pv s 1 i) + (pv s 1 i))) + (((pv s 1 i) + (pv s 1 i)) + ((pv s 1 i) + (pv s 1 i)))) + ((pv s 1 i) + (pv s 1 i)))), .int .u64 (Wl (((((pv s 1 i) + (pv s 1 i)) + ((pv s 1 i) + (pv s 1 i))) + (((pv s 1 i) + (pv s 1 i)) + ((pv s 1 i) + (pv s 1 i)))) + ((pv s 1 i) + (pv s 1 i))))], .agg #[.int .i64 (Wh (dgt s 1 i - 48)), .int .u64 (Wl (dgt s 1 i - 48))]]) (by simp [go_sem, sEv, sLook, nbeq, i64_w]) (add_W (((((pv s 1 i) + (pv s 1 i)) + ((pv s 1 i) + (pv s 1 i))) + (((pv s 1 i) + (pv s 1 i)) + ((pv s 1 i) + (pv s 1 i)))) + ((pv s 1 i) + (pv s 1 i))) (dgt s 1 i - 48) w47) ?_
          rintro e_ w49 ⟨rfl, hb50⟩
          refine ⟨_, rfl, ?_⟩
          have hs_w49 := hb50.size
          have hb54 := ((((((((hb6_.on hb24).on hb27).keep hk32 (by omega)).on hb39).keep hk42 (by omega)).on hb46).on hb48).on hb50)
          refine rw_store (g := g11) (i := 0) (l := [.int .i64 (Wh ((((((pv s 1 i) + (pv s 1 i)) + ((pv s 1 i) + (pv s 1 i))) + (((pv s 1 i) + (pv s 1 i)) + ((pv s 1 i) + (pv s 1 i)))) + ((pv s 1 i) + (pv s 1 i))) + (dgt s 1 i - 48))), .int .u64 (Wl ((((((pv s 1 i) + (pv s 1 i)) + ((pv s 1 i) + (pv s 1 i))) + (((pv s 1 i) + (pv s 1 i)) + ((pv s 1 i) + (pv s 1 i)))) + ((pv s 1 i) + (pv s 1 i))) + (dgt s 1 i - 48)))]) (cs' := #[.int .i64 (Wh ((((((pv s 1 i) + (pv s 1 i)) + ((pv s 1 i) + (pv s 1 i))) + (((pv s 1 i) + (pv s 1 i)) + ((pv s 1 i) + (pv s 1 i)))) + ((pv s 1 i) + (pv s 1 i))) + (dgt s 1 i - 48))), .int .u64 (Wl ((((((pv s 1 i) + (pv s 1 i)) + ((pv s 1 i) + (pv s 1 i))) + (((pv s 1 i) + (pv s 1 i)) + ((pv s 1 i) + (pv s 1 i)))) + ((pv s 1 i) + (pv s 1 i))) + (dgt s 1 i - 48)))]) rfl rfl rfl hb54 rfl (by have e0_ := hb54.cellv (i := 0) (v := (.int .i64 (Wh (pv s 1 i)) : Value)) rfl; have f0_ := hb54.frozen 0; have e1_ := hb54.cellv (i := 1) (v := (.int .u64 (Wl (pv s 1 i)) : Value)) rfl; have f1_ := hb54.frozen 1; simp [go_sem, sEv, sLook, nbeq, i64_w, putCells, e0_, f0_, e1_, f1_, Try.underlying24]) ?_
          intro w51 hk52 hk53
          have hs_w51 := hk52.size
          refine rw_end ?_
          refine w_weaken (G' := [(0, .string s), (2, .pointer (some ⟨g1, 0, none⟩)), (3, .bool false), (5, .bool true), (6, .pointer (some ⟨g11, 0, none⟩)), (26, .slice (some ⟨gc, 0, none⟩) n cap), (27, .int .i64 (n : Int)), (28, .int .i64 (i : Int))]) ⟨rfl, rfl, rfl, rfl, rfl, rfl, rfl, rfl, trivial⟩ ?_
          refine w_blk ?_
          refine w_region ?_
          refine rw_val (v := .int .i64 ((i + 1 : Nat) : Int)) (w' := w51) rfl rfl rfl rfl (by simp [go_sem, sEv, sLook, nbeq, i64_w]; have l_ := of_decide_eq_true cL; have f_ := of_decide_eq_false c39; exact wrap_id (by omega) (by omega)) ?_
          refine rw_val (v := .int .i64 ((i + 1 : Nat) : Int)) (w' := w51) rfl rfl rfl rfl rfl ?_
          refine rw_end ?_
          have hv_ : (((((pv s 1 i) + (pv s 1 i)) + ((pv s 1 i) + (pv s 1 i))) + (((pv s 1 i) + (pv s 1 i)) + ((pv s 1 i) + (pv s 1 i)))) + ((pv s 1 i) + (pv s 1 i))) + (dgt s 1 i - 48) = pv s 1 (i + 1) := by
            rw [pv_dgt]
            omega
          rw [hv_] at hk53
          have a_ := of_decide_eq_false c33
          have b_ := of_decide_eq_false c36
          have l_ := of_decide_eq_true cL
          have hcl2_ : ∀ j, j < n → w51.cell? ⟨gc, j, none⟩ = some (.int .u8 (dgt s 1 j)) := fun j hj => ((hk52.cell (by show gc ≠ _; omega)).trans ((cellOn ((cellOn ((cellOn (((hk42.cell (by show gc ≠ _; omega)).trans ((cellOn (((hk32.cell (by show gc ≠ _; omega)).trans ((cellOn ((cellOn (hcl_ j hj) hb24)) hb27)))) hb39)))) hb46)) hb48)) hb50)))
          exact w_back (m - 1) [(0, .string s), (2, .pointer (some ⟨g1, 0, none⟩)), (3, .bool false), (5, .bool true), (6, .pointer (some ⟨g11, 0, none⟩)), (26, .slice (some ⟨gc, 0, none⟩) n cap), (27, .int .i64 (n : Int)), (28, .int .i64 ((i + 1 : Nat) : Int))] (by omega) ⟨rfl, rfl, rfl, rfl, rfl, rfl, rfl, rfl, trivial⟩ ⟨i + 1, by omega, hall.step (by omega) (by omega), rfl, (hk52.below (by omega) (chain (chain (chain (hk42.below (by omega) (chain (hk32.below (by omega) (chain (chain hB hb24) hb27)) hb39)) hb46) hb48) hb50)), (((((((((hb2_.on hb24).on hb27).keep hk32 (by omega)).on hb39).keep hk42 (by omega)).on hb46).on hb48).on hb50).keep hk52 (by omega)), hk53, by omega, hcl2_⟩
      · refine rw_off (c := decide ((dgt s 1 i) < 48)) rfl rfl rfl (by simp [c33]) rfl rfl ?_
        refine rw_off (c := decide ((dgt s 1 i) < 48)) rfl rfl rfl (by simp [c33]) rfl rfl ?_
        refine rw_val (v := .bool true) (w' := w_) rfl rfl rfl rfl (by simp [go_sem, sEv, sLook, nbeq, i64_w, c33]) ?_
        refine rw_end ?_
        refine w_weaken (G' := [(0, .string s), (2, .pointer (some ⟨g1, 0, none⟩)), (3, .bool false), (5, .bool true), (6, .pointer (some ⟨g11, 0, none⟩)), (8, .int .u8 (dgt s 1 i)), (26, .slice (some ⟨gc, 0, none⟩) n cap), (27, .int .i64 (n : Int)), (28, .int .i64 (i : Int)), (37, .bool true)]) ⟨rfl, rfl, rfl, rfl, rfl, rfl, rfl, rfl, rfl, rfl, trivial⟩ ?_
        refine w_cond_t rfl rfl rfl ?_
        refine w_seq ?_
        refine w_region ?_
        refine rw_val (v := .agg #[.int .i64 0, .int .u64 0]) (w' := w_) rfl rfl rfl rfl (by kernel_rfl) ?_
        have hb58 := hb2_
        refine rw_store (g := g1) (i := 0) (l := [.int .i64 0, .int .u64 0]) (cs' := #[.int .i64 0, .int .u64 0]) rfl rfl rfl hb58 rfl (by have e0_ := hb58.cellv (i := 0) (v := (.int .i64 0 : Value)) rfl; have f0_ := hb58.frozen 0; have e1_ := hb58.cellv (i := 1) (v := (.int .u64 0 : Value)) rfl; have f1_ := hb58.frozen 1; simp [go_sem, sEv, sLook, nbeq, i64_w, putCells, e0_, f0_, e1_, f1_, Try.underlying24]) ?_
        intro w55 hk56 hk57
        have hs_w55 := hk56.size
        refine rw_val (v := .bool false) (w' := w55) rfl rfl rfl rfl rfl ?_
        refine rw_end ?_
        refine w_ret (post_retct (v := .agg #[.int .i64 0, .int .u64 0]) rfl rfl rfl (by have eb_ := hk57; have e0_ := eb_.cellv (i := 0) (v := (.int .i64 0 : Value)) rfl; have e1_ := eb_.cellv (i := 1) (v := (.int .u64 0 : Value)) rfl; simp [go_sem, e0_, e1_, Try.underlying24]) ?_)
        refine ⟨?_, (hk56.below (by omega) hB)⟩
        have hm_ := minus_yes s (by omega) hM
        rw [parsed_no s ?_, Wh0, Wl0]
        rw [hm_, (show s.size - 1 = n by omega)]
        rintro ⟨p1, p2⟩
        have := of_decide_eq_true c33
        have l_ := of_decide_eq_true cL
        exact not_dig (show i < n by omega) (by omega) p2
    · refine w_exit rfl ?_
      refine w_seq ?_
      refine w_seq ?_
      refine w_region ?_
      refine rw_val (v := .bool true) (w' := w_) rfl rfl rfl rfl rfl ?_
      refine rw_end ?_
      refine w_cond_t rfl rfl rfl ?_
      refine w_region ?_
      refine rw_val (v := .agg #[.int .i64 (Wh (pv s 1 i)), .int .u64 (Wl (pv s 1 i))]) (w' := w_) rfl rfl rfl rfl (by have eb_ := hb6_; have e0_ := eb_.cellv (i := 0) (v := (.int .i64 (Wh (pv s 1 i)) : Value)) rfl; have e1_ := eb_.cellv (i := 1) (v := (.int .u64 (Wl (pv s 1 i)) : Value)) rfl; simp [go_sem, sEv, sLook, nbeq, i64_w, e0_, e1_, Try.underlying24]) ?_
      refine rw_call rfl rfl rfl rfl (f := 16) (args := #[.agg #[.int .i64 (Wh (pv s 1 i)), .int .u64 (Wl (pv s 1 i))]]) (by simp [go_sem, sEv, sLook, nbeq, i64_w]) (neg_W (pv s 1 i) w_) ?_
      rintro e_ w59 ⟨rfl, hb60⟩
      refine ⟨_, rfl, ?_⟩
      have hs_w59 := hb60.size
      have hb64 := (hb6_.on hb60)
      refine rw_store (g := g11) (i := 0) (l := [.int .i64 (Wh (-(pv s 1 i))), .int .u64 (Wl (-(pv s 1 i)))]) (cs' := #[.int .i64 (Wh (-(pv s 1 i))), .int .u64 (Wl (-(pv s 1 i)))]) rfl rfl rfl hb64 rfl (by have e0_ := hb64.cellv (i := 0) (v := (.int .i64 (Wh (pv s 1 i)) : Value)) rfl; have f0_ := hb64.frozen 0; have e1_ := hb64.cellv (i := 1) (v := (.int .u64 (Wl (pv s 1 i)) : Value)) rfl; have f1_ := hb64.frozen 1; simp [go_sem, sEv, sLook, nbeq, i64_w, putCells, e0_, f0_, e1_, f1_, Try.underlying24]) ?_
      intro w61 hk62 hk63
      have hs_w61 := hk62.size
      refine rw_end ?_
      refine w_seq ?_
      refine w_region ?_
      refine rw_val (v := .agg #[.int .i64 (Wh (-(pv s 1 i))), .int .u64 (Wl (-(pv s 1 i)))]) (w' := w61) rfl rfl rfl rfl (by have eb_ := hk63; have e0_ := eb_.cellv (i := 0) (v := (.int .i64 (Wh (-(pv s 1 i))) : Value)) rfl; have e1_ := eb_.cellv (i := 1) (v := (.int .u64 (Wl (-(pv s 1 i))) : Value)) rfl; simp [go_sem, sEv, sLook, nbeq, i64_w, e0_, e1_, Try.underlying24]) ?_
      refine rw_val (v := .string s) (w' := w61) rfl rfl rfl rfl rfl ?_
      refine rw_call rfl rfl rfl rfl (f := 39) (args := #[.agg #[.int .i64 (Wh (-(pv s 1 i))), .int .u64 (Wl (-(pv s 1 i)))], .string s]) (by simp [go_sem, sEv, sLook, nbeq, i64_w]) (fits_calls (-(pv s 1 i)) s w61) ?_
      rintro e_ w65 ⟨rfl, hb66⟩
      refine ⟨_, rfl, ?_⟩
      have hs_w65 := hb66.size
      refine rw_val (v := .agg #[.int .i64 (Wh (fit (-(pv s 1 i)) s).1), .int .u64 (Wl (fit (-(pv s 1 i)) s).1)]) (w' := w65) rfl rfl rfl rfl (by simp [go_sem, sEv, sLook, nbeq, i64_w]) ?_
      refine rw_val (v := .bool ((fit (-(pv s 1 i)) s).2)) (w' := w65) rfl rfl rfl rfl (by simp [go_sem, sEv, sLook, nbeq, i64_w]) ?_
      have hb70 := (((hb2_.on hb60).keep hk62 (by omega)).on hb66)
      refine rw_store (g := g1) (i := 0) (l := [.int .i64 (Wh (fit (-(pv s 1 i)) s).1), .int .u64 (Wl (fit (-(pv s 1 i)) s).1)]) (cs' := #[.int .i64 (Wh (fit (-(pv s 1 i)) s).1), .int .u64 (Wl (fit (-(pv s 1 i)) s).1)]) rfl rfl rfl hb70 rfl (by have e0_ := hb70.cellv (i := 0) (v := (.int .i64 0 : Value)) rfl; have f0_ := hb70.frozen 0; have e1_ := hb70.cellv (i := 1) (v := (.int .u64 0 : Value)) rfl; have f1_ := hb70.frozen 1; simp [go_sem, sEv, sLook, nbeq, i64_w, putCells, e0_, f0_, e1_, f1_, Try.underlying24]) ?_
      intro w67 hk68 hk69
      have hs_w67 := hk68.size
      refine rw_val (v := .bool ((fit (-(pv s 1 i)) s).2)) (w' := w67) rfl rfl rfl rfl rfl ?_
      refine rw_end ?_
      refine w_weaken (G' := [(2, .pointer (some ⟨g1, 0, none⟩)), (3, .bool ((fit (-(pv s 1 i)) s).2))]) ⟨rfl, rfl, trivial⟩ ?_
      refine w_ret (post_retct (v := .agg #[.int .i64 (Wh (fit (-(pv s 1 i)) s).1), .int .u64 (Wl (fit (-(pv s 1 i)) s).1)]) rfl rfl rfl (by have eb_ := hk69; have e0_ := eb_.cellv (i := 0) (v := (.int .i64 (Wh (fit (-(pv s 1 i)) s).1) : Value)) rfl; have e1_ := eb_.cellv (i := 1) (v := (.int .u64 (Wl (fit (-(pv s 1 i)) s).1) : Value)) rfl; simp [go_sem, e0_, e1_, Try.underlying24]) ?_)
      refine ⟨?_, (hk68.below (by omega) (chain (hk62.below (by omega) (chain hB hb60)) hb66))⟩
      have hm_ := minus_yes s (by omega) hM
      have l_ := of_decide_eq_false cL
      obtain rfl : i = n := by omega
      have f_ := of_decide_eq_false c39
      have hp_ := parsed_fit s (by rw [hm_]; omega) (by rw [hm_, show s.size - 1 = i by omega]; exact hall)
      rw [hm_, show s.size - 1 = i by omega] at hp_
      unfold sgn at hp_
      rw [hm_, if_pos (by decide)] at hp_
      rw [hp_]

theorem parse_calls (s : ByteArray) (w : World) : Calls Try.prog 30 #[.string s] w fun e w' => e = .returned (.tuple #[.agg #[.int .i64 (Wh (parsed s).1), .int .u64 (Wl (parsed s).1)], .bool (parsed s).2]) ∧ Below w.heap.size w w' := by
  by_cases h0 : s.size = 0
  · exact parse_A s s.size rfl h0 w
  · by_cases h1 : bt s 0 = 45
    · exact parse_C s (s.size - 1) (by omega) h1 w
    · exact parse_B s s.size rfl (by omega) h1 w
theorem rtext_calls (ah al : Int) (hah : -9223372036854775808 ≤ ah ∧ ah ≤ 9223372036854775807) (hal : 0 ≤ al ∧ al < 18446744073709551616) (w : World) :
    Calls Try.prog 33 #[.agg #[.int .i64 ah, .int .u64 al]] w fun e w' => e = .returned (.string (wtext ah al)) ∧ Below w.heap.size w w' := estuaryref01_Text.calls 900 ah al _ w (text_g 900 (by omega) ah al hah hal)
theorem rparse_calls (s : ByteArray) (hs : s.size ≤ 200) (w : World) : Calls Try.prog 32 #[.string s] w fun e w' => e = .returned (.tuple #[.agg #[.int .i64 (Wh (parsed s).1), .int .u64 (Wl (parsed s).1)], .bool (parsed s).2]) ∧ Below w.heap.size w w' := estuaryref01_Parse.calls 1500 s _ _ _ w (parse_f s hs)
end Go.Proofs.Ythhepaikogcddaa.PFloorGroup
