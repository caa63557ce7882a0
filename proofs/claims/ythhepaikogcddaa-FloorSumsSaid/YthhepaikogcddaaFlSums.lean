/- Sums, negatives, orders as the document has them: the walk. -/
import Derived.Test.YthhepaikogcddaaFlAdd
import Derived.Test.YthhepaikogcddaaFlKeeps
namespace Go.Proofs.Ythhepaikogcddaa.PFloorGroup
open Go.RowKit Go.Proofs.YthhepaikogcddaaW.PrintWords Go.Proofs.YthhepaikogcddaaW.PrintLast Go.Proofs.YthhepaikogcddaaW.PrintMore
open Go.Proofs.Ythhepaikogcddaa.Flow
set_option linter.unusedVariables false
set_option linter.unusedSimpArgs false


theorem rneg_calls (ah al : Int) (hah : -9223372036854775808 ≤ ah ∧ ah ≤ 9223372036854775807) (hal : 0 ≤ al ∧ al < 18446744073709551616) (w : World) :
    Calls Try.prog 24 #[.agg #[.int .i64 ah, .int .u64 al]] w fun e w' => e = .returned (.agg #[.int .i64 (nh ah al), .int .u64 (nl al)]) ∧ Below w.heap.size w w' := estuaryref01_Neg.calls 50 ah al _ _ w (neg_f 0 ah al hah hal)
theorem rless_calls (ah al bh bl : Int) (hah : -9223372036854775808 ≤ ah ∧ ah ≤ 9223372036854775807) (hal : 0 ≤ al ∧ al < 18446744073709551616) (hbh : -9223372036854775808 ≤ bh ∧ bh ≤ 9223372036854775807) (hbl : 0 ≤ bl ∧ bl < 18446744073709551616) (w : World) :
    Calls Try.prog 26 #[.agg #[.int .i64 ah, .int .u64 al], .agg #[.int .i64 bh, .int .u64 bl]] w fun e w' => e = .returned (.bool (wless ah al bh bl)) ∧ Below w.heap.size w w' := by
  have h := estuaryref01_Less.calls 18 ah al bh bl _ w (less_f 0 ah al bh bl hah hal hbh hbl)
  have e : decide (ah * 18446744073709551616 + al < bh * 18446744073709551616 + bl) = wless ah al bh bl := by
    unfold wless
    rw [Bool.eq_iff_iff, decide_eq_true_iff]
    split
    · simp; omega
    · split
      · rw [decide_eq_true_iff]; omega
      · simp; omega
  rw [e] at h
  exact h
set_option maxHeartbeats 4000000 in
theorem walkSums (ah al bh bl : Int) (hah : -9223372036854775808 ≤ ah ∧ ah ≤ 9223372036854775807) (hal : 0 ≤ al ∧ al < 18446744073709551616) (hbh : -9223372036854775808 ≤ bh ∧ bh ≤ 9223372036854775807) (hbl : 0 ≤ bl ∧ bl < 18446744073709551616) (w : World) :
    Calls Try.prog 8 #[.agg #[.int .i64 ah, .int .u64 al], .agg #[.int .i64 bh, .int .u64 bl]] w fun e w' => e = .returned (.bool true) ∧ Below w.heap.size w w' := by
  refine calls_flow Try.func8 rfl 30 rfl (Nat.le_of_ble_eq_true rfl) [(0, .agg #[.int .i64 ah, .int .u64 al]), (1, .agg #[.int .i64 bh, .int .u64 bl])] ?_ ?_
  · intro t v h; exact args_look rfl t v h
  refine w_seq ?_
  refine w_region ?_
  refine rw_new (cs := #[.int .i64 ah, .int .u64 al]) (t := 24) (fun g => .pointer (some ⟨g, 0, none⟩)) rfl rfl rfl rfl (by simp [go_sem, sEv, sLook, nbeq, i64_w]) ?_
  intro g1 w2 hg6 hz5 hb3 hk4
  have hs_w2 := hb3.size
  refine rw_new (cs := #[.int .i64 bh, .int .u64 bl]) (t := 24) (fun g => .pointer (some ⟨g, 0, none⟩)) rfl rfl rfl rfl (by simp [go_sem, sEv, sLook, nbeq, i64_w]) ?_
  intro g7 w8 hg12 hz11 hb9 hk10
  have hs_w8 := hb9.size
  refine rw_val (v := .bool false) (w' := w8) rfl rfl rfl rfl rfl ?_
  refine rw_end ?_
  refine w_seq ?_
  refine w_seq ?_
  refine w_region ?_
  refine rw_call rfl rfl rfl rfl (f := 13) (args := #[]) (by simp [go_sem, sEv, sLook, nbeq, i64_w]) (alive_calls w8) ?_
  rintro e_ w13 ⟨rfl, hb14⟩
  refine ⟨_, rfl, ?_⟩
  have hs_w13 := hb14.size
  refine rw_val (v := .bool false) (w' := w13) rfl rfl rfl rfl (by simp [go_sem, sEv, sLook, nbeq, i64_w]) ?_
  refine rw_end ?_
  refine w_cond_f rfl rfl rfl ?_
  refine w_skip ?_
  refine w_seq ?_
  refine w_draw (M := [0, 0, 3, 0, 0, 31, 63, 127, 255, 511, 255, 2047, 4095, 8191, 16383, 32767, 32767, 131071, 32767, 32767, 1048575, 2097151, 4194303, 8388607]) (ss := [Is (.agg #[.int .i64 ah, .int .u64 al]), Is (.agg #[.int .i64 bh, .int .u64 bl]), (Is (.agg #[.int .i64 (wh ah al bh bl), .int .u64 (wl al bl)])), Is (.agg #[.int .i64 ah, .int .u64 al]), Is (.agg #[.int .i64 bh, .int .u64 bl]), (Is (.agg #[.int .i64 (wh ah al bh bl), .int .u64 (wl al bl)])), Is (.bool true), Is (.bool true), Is (.agg #[.int .i64 ah, .int .u64 al]), (Is (.agg #[.int .i64 (nh ah al), .int .u64 (nl al)])), Is (.agg #[.int .i64 ah, .int .u64 al]), (Is (.agg #[.int .i64 (nh ah al), .int .u64 (nl al)])), Is (.bool true), Is (.bool true), Is (.bool true), Is (.agg #[.int .i64 ah, .int .u64 al]), Is (.agg #[.int .i64 bh, .int .u64 bl]), (Is (.bool (wless ah al bh bl))), Is (.agg #[.int .i64 ah, .int .u64 al]), Is (.agg #[.int .i64 bh, .int .u64 bl]), (Is (.bool (wless ah al bh bl))), Is (.bool true), Is (.bool true), Is (.bool true)]) rfl (by decide +kernel) ?_
  refine t_is (.agg #[.int .i64 ah, .int .u64 al]) rfl rfl rfl rfl (fun W_ hW_ F_ => by have eb_ := (((hk4.on hb9).on hb14).on (below_of_drew hW_)); have e0_ := eb_.cellv (i := 0) (v := (.int .i64 ah : Value)) rfl; have e1_ := eb_.cellv (i := 1) (v := (.int .u64 al : Value)) rfl; simp [go_sem, sEv, sLook, nbeq, i64_w, e0_, e1_, Try.underlying24]) ?_
  refine t_is (.agg #[.int .i64 bh, .int .u64 bl]) rfl rfl rfl rfl (fun W_ hW_ F_ => by have eb_ := ((hk10.on hb14).on (below_of_drew hW_)); have e0_ := eb_.cellv (i := 0) (v := (.int .i64 bh : Value)) rfl; have e1_ := eb_.cellv (i := 1) (v := (.int .u64 bl : Value)) rfl; simp [go_sem, sEv, sLook, nbeq, i64_w, e0_, e1_, Try.underlying24]) ?_
  refine t_call (f := 15) (args := #[.agg #[.int .i64 ah, .int .u64 al], .agg #[.int .i64 bh, .int .u64 bl]]) (Is (.agg #[.int .i64 (wh ah al bh bl), .int .u64 (wl al bl)])) rfl rfl rfl rfl (fun W_ => by simp [go_sem, sEv, sLook, nbeq, i64_w]) (fun W_ hW_ F_ => ?_) ?_
  · refine (wadd_calls ah al bh bl (by assumption) (by assumption) W_).mono ?_
    rintro e_ w_ ⟨rfl, hd_⟩
    exact ⟨_, rfl, rfl, hd_⟩
  rintro _ rfl
  refine t_is (.agg #[.int .i64 ah, .int .u64 al]) rfl rfl rfl rfl (fun W_ hW_ F_ => by have eb_ := (((hk4.on hb9).on hb14).on (below_of_drew hW_)); have e0_ := eb_.cellv (i := 0) (v := (.int .i64 ah : Value)) rfl; have e1_ := eb_.cellv (i := 1) (v := (.int .u64 al : Value)) rfl; simp [go_sem, sEv, sLook, nbeq, i64_w, e0_, e1_, Try.underlying24]) ?_
  refine t_is (.agg #[.int .i64 bh, .int .u64 bl]) rfl rfl rfl rfl (fun W_ hW_ F_ => by have eb_ := ((hk10.on hb14).on (below_of_drew hW_)); have e0_ := eb_.cellv (i := 0) (v := (.int .i64 bh : Value)) rfl; have e1_ := eb_.cellv (i := 1) (v := (.int .u64 bl : Value)) rfl; simp [go_sem, sEv, sLook, nbeq, i64_w, e0_, e1_, Try.underlying24]) ?_
  refine t_call (f := 23) (args := #[.agg #[.int .i64 ah, .int .u64 al], .agg #[.int .i64 bh, .int .u64 bl]]) (Is (.agg #[.int .i64 (wh ah al bh bl), .int .u64 (wl al bl)])) rfl rfl rfl rfl (fun W_ => by simp [go_sem, sEv, sLook, nbeq, i64_w]) (fun W_ hW_ F_ => ?_) ?_
  · refine (radd_calls ah al bh bl (by assumption) (by assumption) (by assumption) (by assumption) W_).mono ?_
    rintro e_ w_ ⟨rfl, hd_⟩
    exact ⟨_, rfl, rfl, hd_⟩
  rintro _ rfl
  refine t_is (.bool true) rfl rfl rfl rfl (fun W_ hW_ F_ => by simp [go_sem, sEv, sLook, nbeq, i64_w, eqA24]) ?_
  refine t_is (.bool true) rfl rfl rfl rfl (fun W_ hW_ F_ => rfl) ?_
  refine t_gis (c := true) (.agg #[.int .i64 ah, .int .u64 al]) rfl rfl rfl rfl rfl rfl rfl (fun W_ hW_ F_ => by have eb_ := (((hk4.on hb9).on hb14).on (below_of_drew hW_)); have e0_ := eb_.cellv (i := 0) (v := (.int .i64 ah : Value)) rfl; have e1_ := eb_.cellv (i := 1) (v := (.int .u64 al : Value)) rfl; simp [go_sem, sEv, sLook, nbeq, i64_w, e0_, e1_, Try.underlying24]) ?_
  refine t_gcall (c := true) (f := 16) (args := #[.agg #[.int .i64 ah, .int .u64 al]]) (Is (.agg #[.int .i64 (nh ah al), .int .u64 (nl al)])) rfl rfl rfl rfl rfl rfl rfl (fun W_ => by simp [go_sem, sEv, sLook, nbeq, i64_w]) (fun W_ hW_ F_ => ?_) ?_
  · refine (wneg_calls ah al (by assumption) (by assumption) W_).mono ?_
    rintro e_ w_ ⟨rfl, hd_⟩
    exact ⟨_, rfl, rfl, hd_⟩
  rintro _ rfl
  refine t_gis (c := true) (.agg #[.int .i64 ah, .int .u64 al]) rfl rfl rfl rfl rfl rfl rfl (fun W_ hW_ F_ => by have eb_ := (((hk4.on hb9).on hb14).on (below_of_drew hW_)); have e0_ := eb_.cellv (i := 0) (v := (.int .i64 ah : Value)) rfl; have e1_ := eb_.cellv (i := 1) (v := (.int .u64 al : Value)) rfl; simp [go_sem, sEv, sLook, nbeq, i64_w, e0_, e1_, Try.underlying24]) ?_
  refine t_gcall (c := true) (f := 24) (args := #[.agg #[.int .i64 ah, .int .u64 al]]) (Is (.agg #[.int .i64 (nh ah al), .int .u64 (nl al)])) rfl rfl rfl rfl rfl rfl rfl (fun W_ => by simp [go_sem, sEv, sLook, nbeq, i64_w]) (fun W_ hW_ F_ => ?_) ?_
  · refine (rneg_calls ah al (by assumption) (by assumption) W_).mono ?_
    rintro e_ w_ ⟨rfl, hd_⟩
    exact ⟨_, rfl, rfl, hd_⟩
  rintro _ rfl
  refine t_gis (c := true) (.bool true) rfl rfl rfl rfl rfl rfl rfl (fun W_ hW_ F_ => by simp [go_sem, sEv, sLook, nbeq, i64_w, eqA24]) ?_
  refine t_is (.bool true) rfl rfl rfl rfl (fun W_ hW_ F_ => by simp [go_sem, sEv, sLook, nbeq, i64_w]) ?_
  refine t_is (.bool true) rfl rfl rfl rfl (fun W_ hW_ F_ => rfl) ?_
  refine t_gis (c := true) (.agg #[.int .i64 ah, .int .u64 al]) rfl rfl rfl rfl rfl rfl rfl (fun W_ hW_ F_ => by have eb_ := (((hk4.on hb9).on hb14).on (below_of_drew hW_)); have e0_ := eb_.cellv (i := 0) (v := (.int .i64 ah : Value)) rfl; have e1_ := eb_.cellv (i := 1) (v := (.int .u64 al : Value)) rfl; simp [go_sem, sEv, sLook, nbeq, i64_w, e0_, e1_, Try.underlying24]) ?_
  refine t_gis (c := true) (.agg #[.int .i64 bh, .int .u64 bl]) rfl rfl rfl rfl rfl rfl rfl (fun W_ hW_ F_ => by have eb_ := ((hk10.on hb14).on (below_of_drew hW_)); have e0_ := eb_.cellv (i := 0) (v := (.int .i64 bh : Value)) rfl; have e1_ := eb_.cellv (i := 1) (v := (.int .u64 bl : Value)) rfl; simp [go_sem, sEv, sLook, nbeq, i64_w, e0_, e1_, Try.underlying24]) ?_
  refine t_gcall (c := true) (f := 25) (args := #[.agg #[.int .i64 ah, .int .u64 al], .agg #[.int .i64 bh, .int .u64 bl]]) (Is (.bool (wless ah al bh bl))) rfl rfl rfl rfl rfl rfl rfl (fun W_ => by simp [go_sem, sEv, sLook, nbeq, i64_w]) (fun W_ hW_ F_ => ?_) ?_
  · refine (wless_calls ah al bh bl W_).mono ?_
    rintro e_ w_ ⟨rfl, hd_⟩
    exact ⟨_, rfl, rfl, hd_⟩
  rintro _ rfl
  refine t_gis (c := true) (.agg #[.int .i64 ah, .int .u64 al]) rfl rfl rfl rfl rfl rfl rfl (fun W_ hW_ F_ => by have eb_ := (((hk4.on hb9).on hb14).on (below_of_drew hW_)); have e0_ := eb_.cellv (i := 0) (v := (.int .i64 ah : Value)) rfl; have e1_ := eb_.cellv (i := 1) (v := (.int .u64 al : Value)) rfl; simp [go_sem, sEv, sLook, nbeq, i64_w, e0_, e1_, Try.underlying24]) ?_
  refine t_gis (c := true) (.agg #[.int .i64 bh, .int .u64 bl]) rfl rfl rfl rfl rfl rfl rfl (fun W_ hW_ F_ => by have eb_ := ((hk10.on hb14).on (below_of_drew hW_)); have e0_ := eb_.cellv (i := 0) (v := (.int .i64 bh : Value)) rfl; have e1_ := eb_.cellv (i := 1) (v := (.int .u64 bl : Value)) rfl; simp [go_sem, sEv, sLook, nbeq, i64_w, e0_, e1_, Try.underlying24]) ?_
  refine t_gcall (c := true) (f := 26) (args := #[.agg #[.int .i64 ah, .int .u64 al], .agg #[.int .i64 bh, .int .u64 bl]]) (Is (.bool (wless ah al bh bl))) rfl rfl rfl rfl rfl rfl rfl (fun W_ => by simp [go_sem, sEv, sLook, nbeq, i64_w]) (fun W_ hW_ F_ => ?_) ?_
  · refine (rless_calls ah al bh bl (by assumption) (by assumption) (by assumption) (by assumption) W_).mono ?_
    rintro e_ w_ ⟨rfl, hd_⟩
    exact ⟨_, rfl, rfl, hd_⟩
  rintro _ rfl
  refine t_gis (c := true) (.bool true) rfl rfl rfl rfl rfl rfl rfl (fun W_ hW_ F_ => by simp [go_sem, sEv, sLook, nbeq, i64_w]) ?_
  refine t_is (.bool true) rfl rfl rfl rfl (fun W_ hW_ F_ => by simp [go_sem, sEv, sLook, nbeq, i64_w]) ?_
  refine t_is (.bool true) rfl rfl rfl rfl (fun W_ hW_ F_ => rfl) ?_
  refine t_end ?_
  intro w15 hb16_ F17
  have hb16 := below_of_drew hb16_
  have hs_w15 := hb16.size
  refine w_weaken (G' := [(4, .bool true)]) ⟨rfl, trivial⟩ ?_
  refine w_ret (post_ret1 rfl rfl ?_)
  exact ⟨rfl, (chain (chain (chain hb3 hb9) hb14) hb16)⟩
end Go.Proofs.Ythhepaikogcddaa.PFloorGroup
