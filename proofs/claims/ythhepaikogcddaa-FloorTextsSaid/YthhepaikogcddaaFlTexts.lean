/- Texts of wide numbers: the walks of the laws. -/
import Derived.Test.YthhepaikogcddaaFlParse3
import Derived.Test.YthhepaikogcddaaFlGroup
namespace Go.Proofs.Ythhepaikogcddaa.PFloorGroup
open Go.RowKit Go.Proofs.YthhepaikogcddaaW.PrintWords Go.Proofs.YthhepaikogcddaaW.PrintLast Go.Proofs.YthhepaikogcddaaW.PrintMore
open Go.Proofs.Ythhepaikogcddaa.Flow
set_option linter.unusedVariables false
set_option linter.unusedSimpArgs false


theorem parse_text (ah al : Int) (hah : -9223372036854775808 ≤ ah ∧ ah ≤ 9223372036854775807) (hal : 0 ≤ al ∧ al < 18446744073709551616) (w : World) : Calls Try.prog 30 #[.string (wtext ah al)] w fun e w' => e = .returned (.tuple #[.agg #[.int .i64 ah, .int .u64 al], .bool true]) ∧ Below w.heap.size w w' := by
  have h := parse_calls (wtext ah al) w
  rw [parsed_text ah al hah hal] at h
  have h2 := W_back ah al hah hal
  simp only [h2.1, h2.2] at h
  exact h
theorem no_zero {s : ByteArray} (h : (!(parsed s).2) = true) : parsed s = (0, false) := by
  rcases parsed_back s with h2 | h2
  · rw [h2.1] at h
    exact absurd h (by decide)
  · exact h2
theorem yes_text {s : ByteArray} (h : (!(parsed s).2) = false) : wtext (Wh (parsed s).1) (Wl (parsed s).1) = s := by
  rcases parsed_back s with h2 | h2
  · exact h2.2
  · rw [h2] at h
    exact absurd h (by decide)
set_option maxHeartbeats 4000000 in
theorem walkTexts (ah al : Int) (s : ByteArray) (hah : -9223372036854775808 ≤ ah ∧ ah ≤ 9223372036854775807) (hal : 0 ≤ al ∧ al < 18446744073709551616) (w : World) :
    Calls Try.prog 11 #[.agg #[.int .i64 ah, .int .u64 al], .string s] w fun e w' => e = .returned (.bool true) ∧ Below w.heap.size w w' := by
  refine calls_flow Try.func11 rfl 50 rfl (Nat.le_of_ble_eq_true rfl) [(0, .agg #[.int .i64 ah, .int .u64 al]), (1, .string s)] ?_ ?_
  · intro t v h; exact args_look rfl t v h
  refine w_seq ?_
  refine w_region ?_
  refine rw_new (cs := #[.int .i64 ah, .int .u64 al]) (t := 24) (fun g => .pointer (some ⟨g, 0, none⟩)) rfl rfl rfl rfl (by simp [go_sem, sEv, sLook, nbeq, i64_w]) ?_
  intro g1 w2 hg6 hz5 hb3 hk4
  have hs_w2 := hb3.size
  refine rw_val (v := .bool false) (w' := w2) rfl rfl rfl rfl rfl ?_
  refine rw_end ?_
  refine w_seq ?_
  refine w_seq ?_
  refine w_region ?_
  refine rw_call rfl rfl rfl rfl (f := 13) (args := #[]) (by simp [go_sem, sEv, sLook, nbeq, i64_w]) (alive_calls w2) ?_
  rintro e_ w7 ⟨rfl, hb8⟩
  refine ⟨_, rfl, ?_⟩
  have hs_w7 := hb8.size
  refine rw_val (v := .bool false) (w' := w7) rfl rfl rfl rfl (by simp [go_sem, sEv, sLook, nbeq, i64_w]) ?_
  refine rw_end ?_
  refine w_cond_f rfl rfl rfl ?_
  refine w_skip ?_
  refine w_seq ?_
  refine w_seq ?_
  refine w_region ?_
  refine rw_val (v := .string s) (w' := w7) rfl rfl rfl rfl rfl ?_
  refine rw_val (v := .int .i64 (s.size : Int)) (w' := w7) rfl rfl rfl rfl (by simp [go_sem, sEv, sLook, nbeq, i64_w]) ?_
  refine rw_val (v := .bool (decide (200 < (s.size : Int)))) (w' := w7) rfl rfl rfl rfl (by simp [go_sem, sEv, sLook, nbeq, i64_w]) ?_
  refine rw_end ?_
  refine w_cond rfl rfl (fun cB => ?_) (fun cB => ?_)
  · refine w_seq ?_
    refine w_region ?_
    refine rw_val (v := .string s) (w' := w7) rfl rfl rfl rfl rfl ?_
    refine rw_call rfl rfl rfl rfl (f := 30) (args := #[.string s]) (by simp [go_sem, sEv, sLook, nbeq, i64_w]) (parse_calls s w7) ?_
    rintro e_ w9 ⟨rfl, hb10⟩
    refine ⟨_, rfl, ?_⟩
    have hs_w9 := hb10.size
    refine rw_val (v := .tuple #[.agg #[.int .i64 (Wh (parsed s).1), .int .u64 (Wl (parsed s).1)], .bool ((parsed s).2)]) (w' := w9) rfl rfl rfl rfl rfl ?_
    refine rw_val (v := .agg #[.int .i64 (Wh (parsed s).1), .int .u64 (Wl (parsed s).1)]) (w' := w9) rfl rfl rfl rfl (by simp [go_sem, sEv, sLook, nbeq, i64_w]) ?_
    refine rw_val (v := .bool ((parsed s).2)) (w' := w9) rfl rfl rfl rfl (by simp [go_sem, sEv, sLook, nbeq, i64_w]) ?_
    refine rw_new (cs := #[.int .i64 0, .int .u64 0]) (t := 24) (fun g => .pointer (some ⟨g, 0, none⟩)) rfl rfl rfl rfl (by kernel_rfl) ?_
    intro g11 w12 hg16 hz15 hb13 hk14
    have hs_w12 := hb13.size
    have hb20 := hk14
    refine rw_store (g := g11) (i := 0) (l := [.int .i64 (Wh (parsed s).1), .int .u64 (Wl (parsed s).1)]) (cs' := #[.int .i64 (Wh (parsed s).1), .int .u64 (Wl (parsed s).1)]) rfl rfl rfl hb20 rfl (by have e0_ := hb20.cellv (i := 0) (v := (.int .i64 0 : Value)) rfl; have f0_ := hb20.frozen 0; have e1_ := hb20.cellv (i := 1) (v := (.int .u64 0 : Value)) rfl; have f1_ := hb20.frozen 1; simp [go_sem, sEv, sLook, nbeq, i64_w, putCells, e0_, f0_, e1_, f1_, Try.underlying24]) ?_
    intro w17 hk18 hk19
    have hs_w17 := hk18.size
    refine rw_val (v := .bool ((parsed s).2)) (w' := w17) rfl rfl rfl rfl rfl ?_
    refine rw_end ?_
    refine w_weaken (G' := [(1, .string s), (2, .pointer (some ⟨g1, 0, none⟩)), (4, .bool false), (6, .bool ((parsed s).2))]) ⟨rfl, rfl, rfl, rfl, trivial⟩ ?_
    refine w_seq ?_
    refine w_region ?_
    refine rw_val (v := .bool ((parsed s).2)) (w' := w17) rfl rfl rfl rfl rfl ?_
    refine rw_val (v := .bool (!((parsed s).2))) (w' := w17) rfl rfl rfl rfl (by simp [go_sem, sEv, sLook, nbeq, i64_w]) ?_
    refine rw_val (v := .bool (!((parsed s).2))) (w' := w17) rfl rfl rfl rfl rfl ?_
    refine rw_end ?_
    have hq21 : (!((parsed s).2)) = true := by rw [parsed_long s (by have := of_decide_eq_true cB; omega)]; rfl
    refine w_ret (post_ret1 rfl rfl ?_)
    exact ⟨by simp only [hq21], (hk18.below (by omega) (chain (chain (chain hb3 hb8) hb10) hb13))⟩
  · refine w_skip ?_
    refine w_seq ?_
    refine w_region ?_
    refine rw_val (v := .agg #[.int .i64 ah, .int .u64 al]) (w' := w7) rfl rfl rfl rfl (by have eb_ := (hk4.on hb8); have e0_ := eb_.cellv (i := 0) (v := (.int .i64 ah : Value)) rfl; have e1_ := eb_.cellv (i := 1) (v := (.int .u64 al : Value)) rfl; simp [go_sem, sEv, sLook, nbeq, i64_w, e0_, e1_, Try.underlying24]) ?_
    refine rw_call rfl rfl rfl rfl (f := 31) (args := #[.agg #[.int .i64 ah, .int .u64 al]]) (by simp [go_sem, sEv, sLook, nbeq, i64_w]) (text_calls ah al hah hal w7) ?_
    rintro e_ w22 ⟨rfl, hb23⟩
    refine ⟨_, rfl, ?_⟩
    have hs_w22 := hb23.size
    refine rw_val (v := .string (wtext ah al)) (w' := w22) rfl rfl rfl rfl rfl ?_
    refine rw_end ?_
    refine w_seq ?_
    refine w_region ?_
    refine rw_val (v := .string s) (w' := w22) rfl rfl rfl rfl rfl ?_
    refine rw_call rfl rfl rfl rfl (f := 30) (args := #[.string s]) (by simp [go_sem, sEv, sLook, nbeq, i64_w]) (parse_calls s w22) ?_
    rintro e_ w24 ⟨rfl, hb25⟩
    refine ⟨_, rfl, ?_⟩
    have hs_w24 := hb25.size
    refine rw_val (v := .tuple #[.agg #[.int .i64 (Wh (parsed s).1), .int .u64 (Wl (parsed s).1)], .bool ((parsed s).2)]) (w' := w24) rfl rfl rfl rfl rfl ?_
    refine rw_val (v := .agg #[.int .i64 (Wh (parsed s).1), .int .u64 (Wl (parsed s).1)]) (w' := w24) rfl rfl rfl rfl (by simp [go_sem, sEv, sLook, nbeq, i64_w]) ?_
    refine rw_val (v := .bool ((parsed s).2)) (w' := w24) rfl rfl rfl rfl (by simp [go_sem, sEv, sLook, nbeq, i64_w]) ?_
    refine rw_new (cs := #[.int .i64 0, .int .u64 0]) (t := 24) (fun g => .pointer (some ⟨g, 0, none⟩)) rfl rfl rfl rfl (by kernel_rfl) ?_
    intro g26 w27 hg31 hz30 hb28 hk29
    have hs_w27 := hb28.size
    have hb35 := hk29
    refine rw_store (g := g26) (i := 0) (l := [.int .i64 (Wh (parsed s).1), .int .u64 (Wl (parsed s).1)]) (cs' := #[.int .i64 (Wh (parsed s).1), .int .u64 (Wl (parsed s).1)]) rfl rfl rfl hb35 rfl (by have e0_ := hb35.cellv (i := 0) (v := (.int .i64 0 : Value)) rfl; have f0_ := hb35.frozen 0; have e1_ := hb35.cellv (i := 1) (v := (.int .u64 0 : Value)) rfl; have f1_ := hb35.frozen 1; simp [go_sem, sEv, sLook, nbeq, i64_w, putCells, e0_, f0_, e1_, f1_, Try.underlying24]) ?_
    intro w32 hk33 hk34
    have hs_w32 := hk33.size
    refine rw_val (v := .bool ((parsed s).2)) (w' := w32) rfl rfl rfl rfl rfl ?_
    refine rw_end ?_
    refine w_weaken (G' := [(1, .string s), (2, .pointer (some ⟨g1, 0, none⟩)), (4, .bool false), (7, .string (wtext ah al)), (8, .pointer (some ⟨g26, 0, none⟩)), (9, .bool ((parsed s).2))]) ⟨rfl, rfl, rfl, rfl, rfl, rfl, trivial⟩ ?_
    refine w_seq ?_
    refine w_region ?_
    refine rw_val (v := .string s) (w' := w32) rfl rfl rfl rfl rfl ?_
    refine rw_call rfl rfl rfl rfl (f := 32) (args := #[.string s]) (by simp [go_sem, sEv, sLook, nbeq, i64_w]) (rparse_calls s (by have := of_decide_eq_false cB; omega) w32) ?_
    rintro e_ w36 ⟨rfl, hb37⟩
    refine ⟨_, rfl, ?_⟩
    have hs_w36 := hb37.size
    refine rw_val (v := .tuple #[.agg #[.int .i64 (Wh (parsed s).1), .int .u64 (Wl (parsed s).1)], .bool ((parsed s).2)]) (w' := w36) rfl rfl rfl rfl rfl ?_
    refine rw_val (v := .agg #[.int .i64 (Wh (parsed s).1), .int .u64 (Wl (parsed s).1)]) (w' := w36) rfl rfl rfl rfl (by simp [go_sem, sEv, sLook, nbeq, i64_w]) ?_
    refine rw_val (v := .bool ((parsed s).2)) (w' := w36) rfl rfl rfl rfl (by simp [go_sem, sEv, sLook, nbeq, i64_w]) ?_
    refine rw_new (cs := #[.int .i64 0, .int .u64 0]) (t := 24) (fun g => .pointer (some ⟨g, 0, none⟩)) rfl rfl rfl rfl (by kernel_rfl) ?_
    intro g38 w39 hg43 hz42 hb40 hk41
    have hs_w39 := hb40.size
    have hb47 := hk41
    refine rw_store (g := g38) (i := 0) (l := [.int .i64 (Wh (parsed s).1), .int .u64 (Wl (parsed s).1)]) (cs' := #[.int .i64 (Wh (parsed s).1), .int .u64 (Wl (parsed s).1)]) rfl rfl rfl hb47 rfl (by have e0_ := hb47.cellv (i := 0) (v := (.int .i64 0 : Value)) rfl; have f0_ := hb47.frozen 0; have e1_ := hb47.cellv (i := 1) (v := (.int .u64 0 : Value)) rfl; have f1_ := hb47.frozen 1; simp [go_sem, sEv, sLook, nbeq, i64_w, putCells, e0_, f0_, e1_, f1_, Try.underlying24]) ?_
    intro w44 hk45 hk46
    have hs_w44 := hk45.size
    refine rw_val (v := .bool ((parsed s).2)) (w' := w44) rfl rfl rfl rfl rfl ?_
    refine rw_end ?_
    refine w_weaken (G' := [(2, .pointer (some ⟨g1, 0, none⟩)), (4, .bool false), (7, .string (wtext ah al)), (8, .pointer (some ⟨g26, 0, none⟩)), (9, .bool ((parsed s).2)), (10, .pointer (some ⟨g38, 0, none⟩)), (11, .bool ((parsed s).2))]) ⟨rfl, rfl, rfl, rfl, rfl, rfl, rfl, trivial⟩ ?_
    refine w_seq ?_
    refine w_region ?_
    refine rw_val (v := .string (wtext ah al)) (w' := w44) rfl rfl rfl rfl rfl ?_
    refine rw_val (v := .agg #[.int .i64 ah, .int .u64 al]) (w' := w44) rfl rfl rfl rfl (by have eb_ := ((((((((hk4.on hb8).on hb23).on hb25).on hb28).keep hk33 (by omega)).on hb37).on hb40).keep hk45 (by omega)); have e0_ := eb_.cellv (i := 0) (v := (.int .i64 ah : Value)) rfl; have e1_ := eb_.cellv (i := 1) (v := (.int .u64 al : Value)) rfl; simp [go_sem, sEv, sLook, nbeq, i64_w, e0_, e1_, Try.underlying24]) ?_
    refine rw_call rfl rfl rfl rfl (f := 33) (args := #[.agg #[.int .i64 ah, .int .u64 al]]) (by simp [go_sem, sEv, sLook, nbeq, i64_w]) (rtext_calls ah al hah hal w44) ?_
    rintro e_ w48 ⟨rfl, hb49⟩
    refine ⟨_, rfl, ?_⟩
    have hs_w48 := hb49.size
    refine rw_val (v := .bool true) (w' := w48) rfl rfl rfl rfl (run_bool (run_as (run_str_eql 9 _ _ _)) (by simp)) ?_
    refine rw_val (v := .bool true) (w' := w48) rfl rfl rfl rfl rfl ?_
    refine rw_gval (c := true) (v := .agg #[.int .i64 (Wh (parsed s).1), .int .u64 (Wl (parsed s).1)]) (w' := w48) rfl rfl rfl rfl rfl rfl rfl (by have eb_ := ((((hk34.on hb37).on hb40).keep hk45 (by omega)).on hb49); have e0_ := eb_.cellv (i := 0) (v := (.int .i64 (Wh (parsed s).1) : Value)) rfl; have e1_ := eb_.cellv (i := 1) (v := (.int .u64 (Wl (parsed s).1) : Value)) rfl; simp [go_sem, sEv, sLook, nbeq, i64_w, e0_, e1_, Try.underlying24]) ?_
    refine rw_gval (c := true) (v := .agg #[.int .i64 (Wh (parsed s).1), .int .u64 (Wl (parsed s).1)]) (w' := w48) rfl rfl rfl rfl rfl rfl rfl (by have eb_ := (hk46.on hb49); have e0_ := eb_.cellv (i := 0) (v := (.int .i64 (Wh (parsed s).1) : Value)) rfl; have e1_ := eb_.cellv (i := 1) (v := (.int .u64 (Wl (parsed s).1) : Value)) rfl; simp [go_sem, sEv, sLook, nbeq, i64_w, e0_, e1_, Try.underlying24]) ?_
    refine rw_gval (c := true) (v := .bool true) (w' := w48) rfl rfl rfl rfl rfl rfl rfl (by simp [go_sem, sEv, sLook, nbeq, i64_w, eqA24]) ?_
    refine rw_val (v := .bool true) (w' := w48) rfl rfl rfl rfl (by simp [go_sem, sEv, sLook, nbeq, i64_w]) ?_
    refine rw_val (v := .bool true) (w' := w48) rfl rfl rfl rfl rfl ?_
    refine rw_gval (c := true) (v := .bool ((parsed s).2)) (w' := w48) rfl rfl rfl rfl rfl rfl rfl (by rfl) ?_
    refine rw_gval (c := true) (v := .bool ((parsed s).2)) (w' := w48) rfl rfl rfl rfl rfl rfl rfl (by rfl) ?_
    refine rw_gval (c := true) (v := .bool true) (w' := w48) rfl rfl rfl rfl rfl rfl rfl (by simp [go_sem, sEv, sLook, nbeq, i64_w]) ?_
    refine rw_val (v := .bool true) (w' := w48) rfl rfl rfl rfl (by simp [go_sem, sEv, sLook, nbeq, i64_w]) ?_
    refine rw_val (v := .bool true) (w' := w48) rfl rfl rfl rfl rfl ?_
    refine rw_end ?_
    refine w_weaken (G' := [(4, .bool true)]) ⟨rfl, trivial⟩ ?_
    refine w_ret (post_ret1 rfl rfl ?_)
    exact ⟨rfl, (chain (hk45.below (by omega) (chain (chain (hk33.below (by omega) (chain (chain (chain (chain hb3 hb8) hb23) hb25) hb28)) hb37) hb40)) hb49)⟩
set_option maxHeartbeats 4000000 in
theorem walkBack (ah al : Int) (s : ByteArray) (hah : -9223372036854775808 ≤ ah ∧ ah ≤ 9223372036854775807) (hal : 0 ≤ al ∧ al < 18446744073709551616) (w : World) :
    Calls Try.prog 12 #[.agg #[.int .i64 ah, .int .u64 al], .string s] w fun e w' => e = .returned (.bool true) ∧ Below w.heap.size w w' := by
  refine calls_flow Try.func12 rfl 46 rfl (Nat.le_of_ble_eq_true rfl) [(0, .agg #[.int .i64 ah, .int .u64 al]), (1, .string s)] ?_ ?_
  · intro t v h; exact args_look rfl t v h
  refine w_seq ?_
  refine w_region ?_
  refine rw_new (cs := #[.int .i64 ah, .int .u64 al]) (t := 24) (fun g => .pointer (some ⟨g, 0, none⟩)) rfl rfl rfl rfl (by simp [go_sem, sEv, sLook, nbeq, i64_w]) ?_
  intro g1 w2 hg6 hz5 hb3 hk4
  have hs_w2 := hb3.size
  refine rw_val (v := .bool false) (w' := w2) rfl rfl rfl rfl rfl ?_
  refine rw_end ?_
  refine w_seq ?_
  refine w_seq ?_
  refine w_region ?_
  refine rw_call rfl rfl rfl rfl (f := 13) (args := #[]) (by simp [go_sem, sEv, sLook, nbeq, i64_w]) (alive_calls w2) ?_
  rintro e_ w7 ⟨rfl, hb8⟩
  refine ⟨_, rfl, ?_⟩
  have hs_w7 := hb8.size
  refine rw_val (v := .bool false) (w' := w7) rfl rfl rfl rfl (by simp [go_sem, sEv, sLook, nbeq, i64_w]) ?_
  refine rw_end ?_
  refine w_cond_f rfl rfl rfl ?_
  refine w_skip ?_
  refine w_seq ?_
  refine w_region ?_
  refine rw_val (v := .agg #[.int .i64 ah, .int .u64 al]) (w' := w7) rfl rfl rfl rfl (by have eb_ := (hk4.on hb8); have e0_ := eb_.cellv (i := 0) (v := (.int .i64 ah : Value)) rfl; have e1_ := eb_.cellv (i := 1) (v := (.int .u64 al : Value)) rfl; simp [go_sem, sEv, sLook, nbeq, i64_w, e0_, e1_, Try.underlying24]) ?_
  refine rw_call rfl rfl rfl rfl (f := 31) (args := #[.agg #[.int .i64 ah, .int .u64 al]]) (by simp [go_sem, sEv, sLook, nbeq, i64_w]) (text_calls ah al hah hal w7) ?_
  rintro e_ w9 ⟨rfl, hb10⟩
  refine ⟨_, rfl, ?_⟩
  have hs_w9 := hb10.size
  refine rw_call rfl rfl rfl rfl (f := 30) (args := #[.string (wtext ah al)]) (by simp [go_sem, sEv, sLook, nbeq, i64_w]) (parse_text ah al hah hal w9) ?_
  rintro e_ w11 ⟨rfl, hb12⟩
  refine ⟨_, rfl, ?_⟩
  have hs_w11 := hb12.size
  refine rw_val (v := .tuple #[.agg #[.int .i64 ah, .int .u64 al], .bool true]) (w' := w11) rfl rfl rfl rfl rfl ?_
  refine rw_val (v := .agg #[.int .i64 ah, .int .u64 al]) (w' := w11) rfl rfl rfl rfl (by simp [go_sem, sEv, sLook, nbeq, i64_w]) ?_
  refine rw_val (v := .bool true) (w' := w11) rfl rfl rfl rfl (by simp [go_sem, sEv, sLook, nbeq, i64_w]) ?_
  refine rw_new (cs := #[.int .i64 0, .int .u64 0]) (t := 24) (fun g => .pointer (some ⟨g, 0, none⟩)) rfl rfl rfl rfl (by kernel_rfl) ?_
  intro g13 w14 hg18 hz17 hb15 hk16
  have hs_w14 := hb15.size
  have hb22 := hk16
  refine rw_store (g := g13) (i := 0) (l := [.int .i64 ah, .int .u64 al]) (cs' := #[.int .i64 ah, .int .u64 al]) rfl rfl rfl hb22 rfl (by have e0_ := hb22.cellv (i := 0) (v := (.int .i64 0 : Value)) rfl; have f0_ := hb22.frozen 0; have e1_ := hb22.cellv (i := 1) (v := (.int .u64 0 : Value)) rfl; have f1_ := hb22.frozen 1; simp [go_sem, sEv, sLook, nbeq, i64_w, putCells, e0_, f0_, e1_, f1_, Try.underlying24]) ?_
  intro w19 hk20 hk21
  have hs_w19 := hk20.size
  refine rw_val (v := .bool true) (w' := w19) rfl rfl rfl rfl rfl ?_
  refine rw_end ?_
  refine w_weaken (G' := [(1, .string s), (2, .pointer (some ⟨g1, 0, none⟩)), (4, .bool false), (5, .pointer (some ⟨g13, 0, none⟩)), (6, .bool true)]) ⟨rfl, rfl, rfl, rfl, rfl, trivial⟩ ?_
  refine w_seq ?_
  refine w_region ?_
  refine rw_val (v := .string s) (w' := w19) rfl rfl rfl rfl rfl ?_
  refine rw_call rfl rfl rfl rfl (f := 30) (args := #[.string s]) (by simp [go_sem, sEv, sLook, nbeq, i64_w]) (parse_calls s w19) ?_
  rintro e_ w23 ⟨rfl, hb24⟩
  refine ⟨_, rfl, ?_⟩
  have hs_w23 := hb24.size
  refine rw_val (v := .tuple #[.agg #[.int .i64 (Wh (parsed s).1), .int .u64 (Wl (parsed s).1)], .bool ((parsed s).2)]) (w' := w23) rfl rfl rfl rfl rfl ?_
  refine rw_val (v := .agg #[.int .i64 (Wh (parsed s).1), .int .u64 (Wl (parsed s).1)]) (w' := w23) rfl rfl rfl rfl (by simp [go_sem, sEv, sLook, nbeq, i64_w]) ?_
  refine rw_val (v := .bool ((parsed s).2)) (w' := w23) rfl rfl rfl rfl (by simp [go_sem, sEv, sLook, nbeq, i64_w]) ?_
  refine rw_new (cs := #[.int .i64 0, .int .u64 0]) (t := 24) (fun g => .pointer (some ⟨g, 0, none⟩)) rfl rfl rfl rfl (by kernel_rfl) ?_
  intro g25 w26 hg30 hz29 hb27 hk28
  have hs_w26 := hb27.size
  have hb34 := hk28
  refine rw_store (g := g25) (i := 0) (l := [.int .i64 (Wh (parsed s).1), .int .u64 (Wl (parsed s).1)]) (cs' := #[.int .i64 (Wh (parsed s).1), .int .u64 (Wl (parsed s).1)]) rfl rfl rfl hb34 rfl (by have e0_ := hb34.cellv (i := 0) (v := (.int .i64 0 : Value)) rfl; have f0_ := hb34.frozen 0; have e1_ := hb34.cellv (i := 1) (v := (.int .u64 0 : Value)) rfl; have f1_ := hb34.frozen 1; simp [go_sem, sEv, sLook, nbeq, i64_w, putCells, e0_, f0_, e1_, f1_, Try.underlying24]) ?_
  intro w31 hk32 hk33
  have hs_w31 := hk32.size
  refine rw_val (v := .bool ((parsed s).2)) (w' := w31) rfl rfl rfl rfl rfl ?_
  refine rw_end ?_
  refine w_weaken (G' := [(1, .string s), (2, .pointer (some ⟨g1, 0, none⟩)), (4, .bool false), (5, .pointer (some ⟨g13, 0, none⟩)), (6, .bool true), (7, .pointer (some ⟨g25, 0, none⟩)), (8, .bool ((parsed s).2))]) ⟨rfl, rfl, rfl, rfl, rfl, rfl, rfl, trivial⟩ ?_
  refine w_seq ?_
  refine w_region ?_
  refine rw_val (v := .bool true) (w' := w31) rfl rfl rfl rfl rfl ?_
  refine rw_val (v := .bool true) (w' := w31) rfl rfl rfl rfl rfl ?_
  refine rw_gval (c := true) (v := .agg #[.int .i64 ah, .int .u64 al]) (w' := w31) rfl rfl rfl rfl rfl rfl rfl (by have eb_ := (((hk21.on hb24).on hb27).keep hk32 (by omega)); have e0_ := eb_.cellv (i := 0) (v := (.int .i64 ah : Value)) rfl; have e1_ := eb_.cellv (i := 1) (v := (.int .u64 al : Value)) rfl; simp [go_sem, sEv, sLook, nbeq, i64_w, e0_, e1_, Try.underlying24]) ?_
  refine rw_gval (c := true) (v := .agg #[.int .i64 ah, .int .u64 al]) (w' := w31) rfl rfl rfl rfl rfl rfl rfl (by have eb_ := ((((((((hk4.on hb8).on hb10).on hb12).on hb15).keep hk20 (by omega)).on hb24).on hb27).keep hk32 (by omega)); have e0_ := eb_.cellv (i := 0) (v := (.int .i64 ah : Value)) rfl; have e1_ := eb_.cellv (i := 1) (v := (.int .u64 al : Value)) rfl; simp [go_sem, sEv, sLook, nbeq, i64_w, e0_, e1_, Try.underlying24]) ?_
  refine rw_gval (c := true) (v := .bool true) (w' := w31) rfl rfl rfl rfl rfl rfl rfl (by simp [go_sem, sEv, sLook, nbeq, i64_w, eqA24]) ?_
  refine rw_val (v := .bool true) (w' := w31) rfl rfl rfl rfl (by simp [go_sem, sEv, sLook, nbeq, i64_w]) ?_
  refine rw_val (v := .bool true) (w' := w31) rfl rfl rfl rfl rfl ?_
  refine rw_gval (c := true) (v := .bool ((parsed s).2)) (w' := w31) rfl rfl rfl rfl rfl rfl rfl (by rfl) ?_
  refine rw_gval (c := true) (v := .bool (!((parsed s).2))) (w' := w31) rfl rfl rfl rfl rfl rfl rfl (by simp [go_sem, sEv, sLook, nbeq, i64_w]) ?_
  refine rw_gval (c := true) (v := .bool (!((parsed s).2))) (w' := w31) rfl rfl rfl rfl rfl rfl rfl (by rfl) ?_
  rcases bcase (!((parsed s).2)) with cP | cP
  · refine rw_off (c := !((parsed s).2)) rfl rfl rfl (by simp [cP]) rfl rfl ?_
    refine rw_off (c := !((parsed s).2)) rfl rfl rfl (by simp [cP]) rfl rfl ?_
    refine rw_off (c := !((parsed s).2)) rfl rfl rfl (by simp [cP]) rfl rfl ?_
    refine rw_gval (c := true) (v := .bool false) (w' := w31) rfl rfl rfl rfl rfl rfl rfl (by simp [go_sem, sEv, sLook, nbeq, i64_w, cP]) ?_
    refine rw_gval (c := true) (v := .bool false) (w' := w31) rfl rfl rfl rfl rfl rfl rfl (by rfl) ?_
    refine rw_gval (c := false) (v := .bool ((parsed s).2)) (w' := w31) rfl rfl rfl rfl rfl rfl rfl (by rfl) ?_
    refine rw_gval (c := false) (v := .bool ((parsed s).2)) (w' := w31) rfl rfl rfl rfl rfl rfl rfl (by rfl) ?_
    refine rw_gval (c := (parsed s).2) (v := .agg #[.int .i64 (Wh (parsed s).1), .int .u64 (Wl (parsed s).1)]) (w' := w31) rfl rfl rfl (by simp [(not_false cP)]) rfl rfl rfl (by have eb_ := hk33; have e0_ := eb_.cellv (i := 0) (v := (.int .i64 (Wh (parsed s).1) : Value)) rfl; have e1_ := eb_.cellv (i := 1) (v := (.int .u64 (Wl (parsed s).1) : Value)) rfl; simp [go_sem, sEv, sLook, nbeq, i64_w, e0_, e1_, Try.underlying24]) ?_
    refine rw_gcall (c := (parsed s).2) rfl rfl rfl (by simp [(not_false cP)]) rfl rfl rfl (f := 31) (args := #[.agg #[.int .i64 (Wh (parsed s).1), .int .u64 (Wl (parsed s).1)]]) (by simp [go_sem, sEv, sLook, nbeq, i64_w]) (text_calls (Wh (parsed s).1) (Wl (parsed s).1) (Wh_range _) (Wl_range _) w31) ?_
    rintro e_ w35 ⟨rfl, hb36⟩
    refine ⟨_, rfl, ?_⟩
    have hs_w35 := hb36.size
    refine rw_gval (c := (parsed s).2) (v := .string s) (w' := w35) rfl rfl rfl (by simp [(not_false cP)]) rfl rfl rfl (by rfl) ?_
    refine rw_gval (c := (parsed s).2) (v := .bool (decide (wtext (Wh (parsed s).1) (Wl (parsed s).1) = s))) (w' := w35) rfl rfl rfl (by simp [(not_false cP)]) rfl rfl rfl (run_as (run_str_eql 9 _ _ _)) ?_
    refine rw_gval (c := false) (v := .bool (decide (wtext (Wh (parsed s).1) (Wl (parsed s).1) = s))) (w' := w35) rfl rfl rfl rfl rfl rfl rfl (by simp [go_sem, sEv, sLook, nbeq, i64_w, (not_false cP)]) ?_
    refine rw_gval (c := true) (v := .bool (decide (wtext (Wh (parsed s).1) (Wl (parsed s).1) = s))) (w' := w35) rfl rfl rfl rfl rfl rfl rfl (by simp [go_sem, sEv, sLook, nbeq, i64_w]) ?_
    refine rw_val (v := .bool (decide (wtext (Wh (parsed s).1) (Wl (parsed s).1) = s))) (w' := w35) rfl rfl rfl rfl (by simp [go_sem, sEv, sLook, nbeq, i64_w]) ?_
    refine rw_val (v := .bool (decide (wtext (Wh (parsed s).1) (Wl (parsed s).1) = s))) (w' := w35) rfl rfl rfl rfl rfl ?_
    refine rw_end ?_
    refine w_weaken (G' := [(4, .bool (decide (wtext (Wh (parsed s).1) (Wl (parsed s).1) = s)))]) ⟨rfl, trivial⟩ ?_
    have hq37 : (decide (wtext (Wh (parsed s).1) (Wl (parsed s).1) = s)) = true := by exact decide_eq_true (yes_text cP)
    refine w_ret (post_ret1 rfl rfl ?_)
    exact ⟨by simp only [hq37], (chain (hk32.below (by omega) (chain (chain (hk20.below (by omega) (chain (chain (chain (chain hb3 hb8) hb10) hb12) hb15)) hb24) hb27)) hb36)⟩
  · refine rw_gval (c := !((parsed s).2)) (v := .agg #[.int .i64 (Wh (parsed s).1), .int .u64 (Wl (parsed s).1)]) (w' := w31) rfl rfl rfl (by simp [cP]) rfl rfl rfl (by have eb_ := hk33; have e0_ := eb_.cellv (i := 0) (v := (.int .i64 (Wh (parsed s).1) : Value)) rfl; have e1_ := eb_.cellv (i := 1) (v := (.int .u64 (Wl (parsed s).1) : Value)) rfl; simp [go_sem, sEv, sLook, nbeq, i64_w, e0_, e1_, Try.underlying24]) ?_
    refine rw_gval (c := !((parsed s).2)) (v := .agg #[.int .i64 0, .int .u64 0]) (w' := w31) rfl rfl rfl (by simp [cP]) rfl rfl rfl (by kernel_rfl) ?_
    refine rw_gval (c := !((parsed s).2)) (v := .bool ((Wh (parsed s).1) == 0 && ((Wl (parsed s).1) == 0))) (w' := w31) rfl rfl rfl (by simp [cP]) rfl rfl rfl (by simp [go_sem, sEv, sLook, nbeq, i64_w, eqA24]) ?_
    refine rw_gval (c := true) (v := .bool ((Wh (parsed s).1) == 0 && ((Wl (parsed s).1) == 0))) (w' := w31) rfl rfl rfl rfl rfl rfl rfl (by simp [go_sem, sEv, sLook, nbeq, i64_w, cP]) ?_
    refine rw_gval (c := true) (v := .bool ((Wh (parsed s).1) == 0 && ((Wl (parsed s).1) == 0))) (w' := w31) rfl rfl rfl rfl rfl rfl rfl (by rfl) ?_
    have hq38 : ((Wh (parsed s).1) == 0 && ((Wl (parsed s).1) == 0)) = true := by rw [no_zero cP]; decide +kernel
    refine rw_off (c := ((Wh (parsed s).1) == 0 && ((Wl (parsed s).1) == 0))) rfl rfl rfl (by simp [hq38]) rfl rfl ?_
    refine rw_off (c := ((Wh (parsed s).1) == 0 && ((Wl (parsed s).1) == 0))) rfl rfl rfl (by simp [hq38]) rfl rfl ?_
    refine rw_offu rfl rfl rfl rfl rfl ?_
    refine rw_offu rfl rfl rfl rfl rfl ?_
    refine rw_offu rfl rfl rfl rfl rfl ?_
    refine rw_offu rfl rfl rfl rfl rfl ?_
    refine rw_off (c := ((Wh (parsed s).1) == 0 && ((Wl (parsed s).1) == 0))) rfl rfl rfl (by simp [hq38]) rfl rfl ?_
    refine rw_gval (c := true) (v := .bool true) (w' := w31) rfl rfl rfl rfl rfl rfl rfl (by simp [go_sem, sEv, sLook, nbeq, i64_w, hq38]) ?_
    refine rw_val (v := .bool true) (w' := w31) rfl rfl rfl rfl (by simp [go_sem, sEv, sLook, nbeq, i64_w]) ?_
    refine rw_val (v := .bool true) (w' := w31) rfl rfl rfl rfl rfl ?_
    refine rw_end ?_
    refine w_weaken (G' := [(4, .bool true)]) ⟨rfl, trivial⟩ ?_
    refine w_ret (post_ret1 rfl rfl ?_)
    exact ⟨rfl, (hk32.below (by omega) (chain (chain (hk20.below (by omega) (chain (chain (chain (chain hb3 hb8) hb10) hb12) hb15)) hb24) hb27))⟩
end Go.Proofs.Ythhepaikogcddaa.PFloorGroup
