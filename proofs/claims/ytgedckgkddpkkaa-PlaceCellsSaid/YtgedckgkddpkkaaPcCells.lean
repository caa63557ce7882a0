/- What cells an operation has: the walk. -/
import Derived.Test.YtgedckgkddpkkaaPcCov
namespace Go.Proofs.Ytgedckgkddpkkaa.PPlaceCells
open Go.RowKit Go.Proofs.YtgedckgkddpkkaaW.PrintWords Go.Proofs.YtgedckgkddpkkaaW.PrintLast Go.Proofs.YtgedckgkddpkkaaW.PrintMore
open Go.Proofs.Ytgedckgkddpkkaa.Flow
set_option linter.unusedVariables false
set_option linter.unusedSimpArgs false

set_option maxHeartbeats 4000000 in
theorem cells_calls (w : World) (a0 a1 t key a4 sh : Int) (ht : -9223372036854775808 ≤ t ∧ t ≤ 9223372036854775807) (hk : -9223372036854775808 ≤ key ∧ key ≤ 9223372036854775807) (hsh : sh ≤ 9223372036854775807) (A1 A3 : Option Addr) (c1 c3 : Nat) (rs : List Int) (ps : List S29) (hR : (Kd.int .i64).C w A1 rs.length rs) (hcr : rs.length ≤ c1) (hP : k29.C w A3 ps.length ps) (hcp : ps.length ≤ c3) :
    Calls Try.prog 25 #[.agg #[.int .i64 a0, .int .i64 a1, .int .i64 t, .int .i64 key, .int .i64 a4], .slice A1 rs.length c1, .int .i64 sh, .slice A3 ps.length c3] w fun e w' => e = .returned (.bool true) ∧ Below w.heap.size w w' := by
  refine calls_flow Try.func25 rfl 100 rfl (Nat.le_of_ble_eq_true rfl) [(0, .agg #[.int .i64 a0, .int .i64 a1, .int .i64 t, .int .i64 key, .int .i64 a4]), (1, .slice A1 rs.length c1), (2, .int .i64 sh), (3, .slice A3 ps.length c3)] ?_ ?_
  · intro t v h; exact args_look rfl t v h
  refine w_seq ?_
  refine w_region ?_
  refine rw_new (cs := #[.int .i64 a0, .int .i64 a1, .int .i64 t, .int .i64 key, .int .i64 a4]) (t := 23) (fun g => .pointer (some ⟨g, 0, none⟩)) rfl rfl rfl rfl (by simp [go_sem, sEv, sLook, nbeq, i64_w]) ?_
  intro g1 w2 hg6 hz5 hb3 hk4
  have hs_w2 := hb3.size
  refine rw_val (v := .bool false) (w' := w2) rfl rfl rfl rfl rfl ?_
  refine rw_end ?_
  refine w_seq ?_
  refine w_seq ?_
  refine w_region ?_
  refine rw_call rfl rfl rfl rfl (f := 10) (args := #[]) (by simp [go_sem, sEv, sLook, nbeq, i64_w]) (estuarylaw03_alive.calls 3 true w2 alive_true) ?_
  rintro e_ w7 ⟨rfl, hb8⟩
  refine ⟨_, rfl, ?_⟩
  have hs_w7 := hb8.size
  refine rw_val (v := .bool false) (w' := w7) rfl rfl rfl rfl (by simp [go_sem, sEv, sLook, nbeq, i64_w]) ?_
  refine rw_end ?_
  refine w_cond_f rfl rfl rfl ?_
  refine w_skip ?_
  refine w_seq ?_
  refine w_seq ?_
  refine w_region ?_
  refine rw_val (v := .slice A1 rs.length c1) (w' := w7) rfl rfl rfl rfl rfl ?_
  refine rw_val (v := .int .i64 ((rs.length : Nat) : Int)) (w' := w7) rfl rfl rfl rfl (by simp [go_sem, sEv, sLook, nbeq, i64_w]) ?_
  refine rw_val (v := .bool (decide (500 < ((rs.length : Nat) : Int)))) (w' := w7) rfl rfl rfl rfl (by simp [go_sem, sEv, sLook, nbeq, i64_w]) ?_
  refine rw_val (v := .bool (decide (500 < ((rs.length : Nat) : Int)))) (w' := w7) rfl rfl rfl rfl rfl ?_
  rcases bcase (decide (500 < ((rs.length : Nat) : Int))) with c9 | c9
  · have l10 : ¬ (500 < ((rs.length : Nat) : Int)) := of_decide_eq_false c9
    refine rw_on (c := decide (500 < ((rs.length : Nat) : Int))) rfl rfl rfl (by first | (rw [c9]; rfl) | simp [c9]) ?_
    refine rw_val (v := .slice A3 ps.length c3) (w' := w7) rfl rfl rfl rfl rfl ?_
    refine rw_on (c := decide (500 < ((rs.length : Nat) : Int))) rfl rfl rfl (by first | (rw [c9]; rfl) | simp [c9]) ?_
    refine rw_val (v := .int .i64 ((ps.length : Nat) : Int)) (w' := w7) rfl rfl rfl rfl (by simp [go_sem, sEv, sLook, nbeq, i64_w]) ?_
    refine rw_on (c := decide (500 < ((rs.length : Nat) : Int))) rfl rfl rfl (by first | (rw [c9]; rfl) | simp [c9]) ?_
    refine rw_val (v := .bool (decide (2000 < ((ps.length : Nat) : Int)))) (w' := w7) rfl rfl rfl rfl (by simp [go_sem, sEv, sLook, nbeq, i64_w]) ?_
    refine rw_val (v := .bool (decide (2000 < ((ps.length : Nat) : Int)))) (w' := w7) rfl rfl rfl rfl (by first | (simp [go_sem, sEv, sLook, nbeq, i64_w, c9]; done) | (rw [c9]; simp [go_sem, sEv, sLook, nbeq, i64_w]; done) | (simp [go_sem, sEv, sLook, nbeq, i64_w] <;> omega) | (simp [go_sem, sEv, sLook, nbeq, i64_w]; intro h_; exact absurd (by omega) h_)) ?_
    refine rw_end ?_
    refine w_weaken (G' := [(1, .slice A1 rs.length c1), (2, .int .i64 sh), (3, .slice A3 ps.length c3), (4, .pointer (some ⟨g1, 0, none⟩)), (8, .bool false), (21, .bool (decide (2000 < ((ps.length : Nat) : Int))))]) ⟨rfl, rfl, rfl, rfl, rfl, rfl, trivial⟩ ?_
    refine w_cond rfl rfl (fun c11 => ?_) (fun c11 => ?_)
    · have l12 : (2000 < ((ps.length : Nat) : Int)) := of_decide_eq_true c11
      refine w_seq ?_
      refine w_region ?_
      refine rw_val (v := .bool true) (w' := w7) rfl rfl rfl rfl rfl ?_
      refine rw_end ?_
      refine w_ret (post_ret1 rfl rfl ?_)
      exact ⟨rfl, (chain hb3 hb8)⟩
    · have l13 : ¬ (2000 < ((ps.length : Nat) : Int)) := of_decide_eq_false c11
      refine w_skip ?_
      refine w_seq ?_
      refine w_region ?_
      refine rw_val (v := .slice A1 rs.length c1) (w' := w7) rfl rfl rfl rfl rfl ?_
      refine rw_val (v := .int .i64 ((rs.length : Nat) : Int)) (w' := w7) rfl rfl rfl rfl (by simp [go_sem, sEv, sLook, nbeq, i64_w]) ?_
      refine rw_val (v := .int .i64 ((rs.length + 1 : Nat) : Int)) (w' := w7) rfl rfl rfl rfl (by simp [go_sem, sEv, sLook, nbeq, i64_w]; exact wrap_id (by omega) (by omega)) ?_
      refine rw_new (cs := madeCells #[.int .i64 0] (rs.length + 1)) (t := 3) (fun g => .slice (some ⟨g, 0, none⟩) 0 (rs.length + 1)) rfl rfl rfl rfl (run_as (make_run (bytes := 8) (by kernel_rfl) (by kernel_rfl) rfl 0 (rs.length + 1) _ _ (by first | rfl | simp) (by first | rfl | simp) (by omega) (by omega) (by decide) _ _ _)) ?_
      intro g14 w15 hg19 hz18 hb16 hk17
      have hs_w15 := hb16.size
      have hO20 : OwnK (Kd.int .i64) 3 w15 w.heap.size g14 (some ⟨g14, 0, none⟩) 0 (rs.length + 1) ([] : List Int) := made_own 0 0 w.heap.size hk17 (by omega) (by omega) (by omega)
      refine rw_val (v := .slice A1 rs.length c1) (w' := w15) rfl rfl rfl rfl rfl ?_
      have oA27 : OwnK (Kd.int .i64) 3 w15 w.heap.size g14 (some ⟨g14, 0, none⟩) 0 (rs.length + 1) ([] : List Int) := hO20
      refine rw_append_kd (d := (Kd.int .i64)) w.heap.size rfl rfl rfl (.tmp 25) (.tmp 26) rfl rfl 27 3 (.int .i64 0) 8 rfl (by kernel_rfl) (by kernel_rfl) rfl (show 0 < 1 by decide) (by decide) (fun _ _ h => h) (b := g14) rfl rfl (by omega) oA27 (Kd.C_below hR (chain (chain hb3 hb8) hb16)) (chain (chain hb3 hb8) hb16) (by omega) (by first | omega | (simp only [List.length_append, List.length_nil, List.length_cons]; omega)) ?_
      intro A21 c22 w23 hO24 hB25 hG26
      rw [List.nil_append] at hO24
      try rw [List.nil_append]
      have hs_w23 := hB25.size
      have hgs_w23 := hG26.size
      have hk28 := OwnK.blk_grown ((hk4.on hb8).on hb16) oA27 (.inr (by decide)) hG26
      refine rw_new (cs := #[.int .i64 (-77)]) (t := 3) (fun g => .slice (some ⟨g, 0, none⟩) 1 1) rfl rfl rfl rfl (by kernel_rfl) ?_
      intro g29 w30 hg34 hz33 hb31 hk32
      have hs_w30 := hb31.size
      have hk32r : OwnK (Kd.int .i64) 3 w30 w.heap.size g29 (some ⟨g29, 0, none⟩) 1 1 ([(-77)] : List Int) := scal_own w.heap.size hk32 (by omega) rfl rfl (by decide)
      have oA41 : OwnK (Kd.int .i64) 3 w30 w.heap.size g14 A21 rs.length c22 rs := (OwnK.on (d := (Kd.int .i64)) hO24 hb31)
      refine rw_append_kd (d := (Kd.int .i64)) w.heap.size rfl rfl rfl (.tmp 27) (.tmp 28) rfl rfl 27 3 (.int .i64 0) 8 rfl (by kernel_rfl) (by kernel_rfl) rfl (show 0 < 1 by decide) (by decide) (fun _ _ h => h) (b := g14) rfl rfl (by omega) oA41 (OwnK.Cn (d := (Kd.int .i64)) hk32r) (chain hB25 hb31) (by omega) (by first | omega | (simp only [List.length_append, List.length_nil, List.length_cons]; omega)) ?_
      intro A35 c36 w37 hO38 hB39 hG40
      have hs_w37 := hB39.size
      have hgs_w37 := hG40.size
      have hk43 := OwnK.blk_grown (hk28.on hb31) oA41 (.inr (by decide)) hG40
      refine rw_val (v := .slice A1 rs.length c1) (w' := w37) rfl rfl rfl rfl rfl ?_
      refine rw_val (v := .int .i64 ((rs.length : Nat) : Int)) (w' := w37) rfl rfl rfl rfl (by simp [go_sem, sEv, sLook, nbeq, i64_w]) ?_
      have hl44 : (rs ++ ([(-77)] : List Int)).length = rs.length + ([(-77)] : List Int).length := List.length_append
      have hl44_ : ([(-77)] : List Int).length = 1 := rfl
      refine rw_val (v := .slice A35 rs.length c36) (w' := w37) rfl rfl rfl rfl (run_as (sl_to (sz := 1) (e := 3) (by kernel_rfl) (fun _ => by kernel_rfl) rs.length _ (by first | rfl | (simp; done) | omega) (by have q_ := OwnK.cap (d := (Kd.int .i64)) hO38; omega) _)) ?_
      refine rw_val (v := .slice A35 rs.length c36) (w' := w37) rfl rfl rfl rfl rfl ?_
      refine rw_end ?_
      refine w_weaken (G' := [(1, .slice A1 rs.length c1), (2, .int .i64 sh), (3, .slice A3 ps.length c3), (4, .pointer (some ⟨g1, 0, none⟩)), (8, .bool false), (9, .slice A35 rs.length c36)]) ⟨rfl, rfl, rfl, rfl, rfl, rfl, trivial⟩ ?_
      refine w_seq ?_
      refine w_region ?_
      refine rw_new (cs := #[]) (t := 29) (fun g => .slice (some ⟨g, 0, none⟩) 0 0) rfl rfl rfl rfl (by kernel_rfl) ?_
      intro g45 w46 hg50 hz49 hb47 hk48
      have hs_w46 := hb47.size
      have hk48r : OwnK k29 29 w46 w.heap.size g45 (some ⟨g45, 0, none⟩) 0 0 ([] : List S29) := lit_nilK _ w.heap.size hk48 (by omega)
      refine rw_val (v := .slice A3 ps.length c3) (w' := w46) rfl rfl rfl rfl rfl ?_
      have oA57 : OwnK k29 29 w46 w.heap.size g45 (some ⟨g45, 0, none⟩) 0 0 ([] : List S29) := hk48r
      refine rw_append_kd (d := k29) w.heap.size rfl rfl rfl (.tmp 33) (.tmp 34) rfl rfl 45 29 (.agg #[.int .i64 0, .int .i64 0]) 16 rfl (by kernel_rfl) (by kernel_rfl) rfl (show 0 < 2 by decide) (by decide) (fun x cs h => by obtain rfl := k29_open h; exact k29_mkM _ _ _ _) (b := g45) rfl rfl (by omega) oA57 (Kd.C_below hP (chain hB39 hb47)) (chain hB39 hb47) (by omega) (by first | omega | (simp only [List.length_append, List.length_nil, List.length_cons]; omega)) ?_
      intro A51 c52 w53 hO54 hB55 hG56
      rw [List.nil_append] at hO54
      try rw [List.nil_append]
      have hs_w53 := hB55.size
      have hgs_w53 := hG56.size
      have hO58 := OwnK.grown (d := (Kd.int .i64)) (OwnK.on (d := (Kd.int .i64)) hO38 hb47) oA57 (by decide) hG56
      have hk59 := OwnK.blk_grown (hk43.on hb47) oA57 (.inr (by decide)) hG56
      refine rw_val (v := .slice A51 ps.length c52) (w' := w53) rfl rfl rfl rfl rfl ?_
      refine rw_end ?_
      refine w_weaken (G' := [(1, .slice A1 rs.length c1), (2, .int .i64 sh), (3, .slice A3 ps.length c3), (4, .pointer (some ⟨g1, 0, none⟩)), (8, .bool false), (9, .slice A35 rs.length c36), (10, .slice A51 ps.length c52)]) ⟨rfl, rfl, rfl, rfl, rfl, rfl, rfl, trivial⟩ ?_
      refine w_seq ?_
      refine w_seq ?_
      refine w_drawk (M := [0, 0, 0, 7, 0, 0, 0, 127, 255, 511, 1023, 2047, 2047, 2047, 2047, 32767, 2047, 2047, 2047, 2047, 1048575, 2097151, 4194303]) (ss := [Is (.agg #[.int .i64 a0, .int .i64 a1, .int .i64 t, .int .i64 key, .int .i64 a4]), Is (.slice A35 rs.length c36), Is (.int .i64 sh), (OwnKSpec k31 31 w53.heap.size w53.heap.size (idsFrom t key sh 0 rs)), Is (.agg #[.int .i64 a0, .int .i64 a1, .int .i64 t, .int .i64 key, .int .i64 a4]), Is (.slice A1 rs.length c1), Is (.int .i64 sh), (OwnKSpec k31 31 w53.heap.size w53.heap.size (idsFrom t key sh 0 rs)), (Is (.bool true)), Is (.bool false), Is (.bool false), Is (.agg #[.int .i64 a0, .int .i64 a1, .int .i64 t, .int .i64 key, .int .i64 a4]), Is (.slice A35 rs.length c36), Is (.int .i64 sh), Is (.slice A51 ps.length c52), (Is (.bool (coversP ps (idsFrom t key sh 0 rs)))), Is (.agg #[.int .i64 a0, .int .i64 a1, .int .i64 t, .int .i64 key, .int .i64 a4]), Is (.slice A1 rs.length c1), Is (.int .i64 sh), Is (.slice A3 ps.length c3)]) 20 rfl (by decide +kernel) ?_
      refine t_is (.agg #[.int .i64 a0, .int .i64 a1, .int .i64 t, .int .i64 key, .int .i64 a4]) rfl rfl rfl rfl (fun W_ hW_ F_ => by have eb_ := (hk59.on (below_of_drew hW_)); have e0_ := eb_.cellv (i := 0) (v := (.int .i64 a0 : Value)) rfl; have e1_ := eb_.cellv (i := 1) (v := (.int .i64 a1 : Value)) rfl; have e2_ := eb_.cellv (i := 2) (v := (.int .i64 t : Value)) rfl; have e3_ := eb_.cellv (i := 3) (v := (.int .i64 key : Value)) rfl; have e4_ := eb_.cellv (i := 4) (v := (.int .i64 a4 : Value)) rfl; simp [go_sem, sEv, sLook, nbeq, i64_w, e0_, e1_, e2_, e3_, e4_, Try.underlying23]) ?_
      refine t_is (.slice A35 rs.length c36) rfl rfl rfl rfl (fun W_ hW_ F_ => rfl) ?_
      refine t_is (.int .i64 sh) rfl rfl rfl rfl (fun W_ hW_ F_ => rfl) ?_
      refine t_call (f := 11) (args := #[.agg #[.int .i64 a0, .int .i64 a1, .int .i64 t, .int .i64 key, .int .i64 a4], .slice A35 rs.length c36, .int .i64 sh]) (OwnKSpec k31 31 w53.heap.size w53.heap.size (idsFrom t key sh 0 rs)) rfl rfl rfl rfl (fun W_ => by simp [go_sem, sEv, sLook, nbeq, i64_w]) (fun W_ hW_ F_ => ?_) ?_
      · have hs_ := (below_of_drew hW_).size
        refine (place_Ids.calls 1000 a0 a1 t key a4 A35 c36 rs sh (idsFrom t key sh 0 rs) W_ (Kd.C_below (OwnK.front (d := (Kd.int .i64)) hO58) (chain (Below.refl _ _) (below_of_drew hW_))) (show rs.length ≤ c36 by have q_ := OwnK.cap (d := (Kd.int .i64)) hO58; omega) (ids_f rs a0 a1 t key a4 sh (by omega) (by omega) (by omega) (by omega) 1000 (by omega))).mono ?_
        rintro e_ w_ ⟨v_, rfl, hO_, hb_⟩
        obtain ⟨A_, c_, rfl, _, _⟩ := Kd.R_reads hO_
        exact ⟨_, rfl, ⟨A_, c_, rfl, OwnK.mono (OwnK.lower (OwnK.born hO_ (Nat.le_refl _)) (by omega)) (by omega)⟩, hb_⟩
      rintro _ ⟨A64, c65, rfl, hle66⟩
      refine t_is (.agg #[.int .i64 a0, .int .i64 a1, .int .i64 t, .int .i64 key, .int .i64 a4]) rfl rfl rfl rfl (fun W_ hW_ F_ => by have eb_ := (hk59.on (below_of_drew hW_)); have e0_ := eb_.cellv (i := 0) (v := (.int .i64 a0 : Value)) rfl; have e1_ := eb_.cellv (i := 1) (v := (.int .i64 a1 : Value)) rfl; have e2_ := eb_.cellv (i := 2) (v := (.int .i64 t : Value)) rfl; have e3_ := eb_.cellv (i := 3) (v := (.int .i64 key : Value)) rfl; have e4_ := eb_.cellv (i := 4) (v := (.int .i64 a4 : Value)) rfl; simp [go_sem, sEv, sLook, nbeq, i64_w, e0_, e1_, e2_, e3_, e4_, Try.underlying23]) ?_
      refine t_is (.slice A1 rs.length c1) rfl rfl rfl rfl (fun W_ hW_ F_ => rfl) ?_
      refine t_is (.int .i64 sh) rfl rfl rfl rfl (fun W_ hW_ F_ => rfl) ?_
      refine t_call (f := 32) (args := #[.agg #[.int .i64 a0, .int .i64 a1, .int .i64 t, .int .i64 key, .int .i64 a4], .slice A1 rs.length c1, .int .i64 sh]) (OwnKSpec k31 31 w53.heap.size w53.heap.size (idsFrom t key sh 0 rs)) rfl rfl rfl rfl (fun W_ => by simp [go_sem, sEv, sLook, nbeq, i64_w]) (fun W_ hW_ F_ => ?_) ?_
      · have hs_ := (below_of_drew hW_).size
        refine (estuaryref03_Ids.calls 1000 a0 a1 t key a4 A1 c1 rs sh (idsFrom t key sh 0 rs) W_ (Kd.C_below hR (chain hB55 (below_of_drew hW_))) hcr (refids_f rs a0 a1 t key a4 sh (by omega) (by omega) (by omega) (by omega) (by omega) (by omega) 1000 (by omega))).mono ?_
        rintro e_ w_ ⟨v_, rfl, hO_, hb_⟩
        obtain ⟨A_, c_, rfl, _, _⟩ := Kd.R_reads hO_
        exact ⟨_, rfl, ⟨A_, c_, rfl, OwnK.mono (OwnK.lower (OwnK.born hO_ (Nat.le_refl _)) (by omega)) (by omega)⟩, hb_⟩
      rintro _ ⟨A73, c74, rfl, hle75⟩
      refine t_call (f := 31) (args := #[.slice A64 ((idsFrom t key sh 0 rs).length) c65, .slice A73 ((idsFrom t key sh 0 rs).length) c74]) (Is (.bool true)) rfl rfl rfl rfl (fun W_ => by simp [go_sem, sEv, sLook, nbeq, i64_w]) (fun W_ hW_ F_ => ?_) ?_
      · refine (estuarylaw03_same.calls 1000 _ _ (idsFrom t key sh 0 rs) _ _ (idsFrom t key sh 0 rs) _ W_ (OwnK.C (d := k31) (ownk_fact (F_ 3 _ _ rfl rfl))) (OwnK.cap (ownk_fact (F_ 3 _ _ rfl rfl))) (OwnK.C (d := k31) (ownk_fact (F_ 7 _ _ rfl rfl))) (OwnK.cap (ownk_fact (F_ 7 _ _ rfl rfl))) (same_f _ (by rw [idsFrom_len]; omega) 1000 (by rw [idsFrom_len]; omega))).mono ?_
        rintro e_ w_ ⟨rfl, hd_⟩
        exact ⟨_, rfl, rfl, hd_.below⟩
      rintro _ rfl
      refine t_is (.bool false) rfl rfl rfl rfl (fun W_ hW_ F_ => by simp [go_sem, sEv, sLook, nbeq, i64_w]) ?_
      refine t_is (.bool false) rfl rfl rfl rfl (fun W_ hW_ F_ => rfl) ?_
      refine t_gis (c := false) (.agg #[.int .i64 a0, .int .i64 a1, .int .i64 t, .int .i64 key, .int .i64 a4]) rfl rfl rfl rfl rfl rfl rfl (fun W_ hW_ F_ => by have eb_ := (hk59.on (below_of_drew hW_)); have e0_ := eb_.cellv (i := 0) (v := (.int .i64 a0 : Value)) rfl; have e1_ := eb_.cellv (i := 1) (v := (.int .i64 a1 : Value)) rfl; have e2_ := eb_.cellv (i := 2) (v := (.int .i64 t : Value)) rfl; have e3_ := eb_.cellv (i := 3) (v := (.int .i64 key : Value)) rfl; have e4_ := eb_.cellv (i := 4) (v := (.int .i64 a4 : Value)) rfl; simp [go_sem, sEv, sLook, nbeq, i64_w, e0_, e1_, e2_, e3_, e4_, Try.underlying23]) ?_
      refine t_gis (c := false) (.slice A35 rs.length c36) rfl rfl rfl rfl rfl rfl rfl (fun W_ hW_ F_ => rfl) ?_
      refine t_gis (c := false) (.int .i64 sh) rfl rfl rfl rfl rfl rfl rfl (fun W_ hW_ F_ => rfl) ?_
      refine t_gis (c := false) (.slice A51 ps.length c52) rfl rfl rfl rfl rfl rfl rfl (fun W_ hW_ F_ => rfl) ?_
      refine t_gcall (c := false) (f := 26) (args := #[.agg #[.int .i64 a0, .int .i64 a1, .int .i64 t, .int .i64 key, .int .i64 a4], .slice A35 rs.length c36, .int .i64 sh, .slice A51 ps.length c52]) (Is (.bool (coversP ps (idsFrom t key sh 0 rs)))) rfl rfl rfl rfl rfl rfl rfl (fun W_ => by simp [go_sem, sEv, sLook, nbeq, i64_w]) (fun W_ hW_ F_ => ?_) ?_
      · refine (covered_calls W_ a0 a1 t key a4 sh ht hk hsh A35 A51 c36 c52 rs ps (Kd.C_below (OwnK.front (d := (Kd.int .i64)) hO58) (chain (Below.refl _ _) (below_of_drew hW_))) (show rs.length ≤ c36 by have q_ := OwnK.cap (d := (Kd.int .i64)) hO58; omega) (Kd.C_below (OwnK.C (d := k29) hO54) (chain (Below.refl _ _) (below_of_drew hW_))) (OwnK.cap (d := k29) hO54) (by omega)).mono ?_
        rintro e_ w_ ⟨rfl, hd_⟩
        exact ⟨_, rfl, rfl, hd_⟩
      rintro _ rfl
      refine t_gis (c := false) (.agg #[.int .i64 a0, .int .i64 a1, .int .i64 t, .int .i64 key, .int .i64 a4]) rfl rfl rfl rfl rfl rfl rfl (fun W_ hW_ F_ => by have eb_ := (hk59.on (below_of_drew hW_)); have e0_ := eb_.cellv (i := 0) (v := (.int .i64 a0 : Value)) rfl; have e1_ := eb_.cellv (i := 1) (v := (.int .i64 a1 : Value)) rfl; have e2_ := eb_.cellv (i := 2) (v := (.int .i64 t : Value)) rfl; have e3_ := eb_.cellv (i := 3) (v := (.int .i64 key : Value)) rfl; have e4_ := eb_.cellv (i := 4) (v := (.int .i64 a4 : Value)) rfl; simp [go_sem, sEv, sLook, nbeq, i64_w, e0_, e1_, e2_, e3_, e4_, Try.underlying23]) ?_
      refine t_gis (c := false) (.slice A1 rs.length c1) rfl rfl rfl rfl rfl rfl rfl (fun W_ hW_ F_ => rfl) ?_
      refine t_gis (c := false) (.int .i64 sh) rfl rfl rfl rfl rfl rfl rfl (fun W_ hW_ F_ => rfl) ?_
      refine t_gis (c := false) (.slice A3 ps.length c3) rfl rfl rfl rfl rfl rfl rfl (fun W_ hW_ F_ => rfl) ?_
      refine t_tail ?_
      intro w78 hb79_ F80
      have hb79 := below_of_drew hb79_
      have hs_w78 := hb79.size
      have hO67 : OwnK k31 31 w78 w.heap.size w53.heap.size A64 (idsFrom t key sh 0 rs).length c65 (idsFrom t key sh 0 rs) := OwnK.lower (ownk_fact (F80 3 (OwnKSpec k31 31 w53.heap.size w53.heap.size (idsFrom t key sh 0 rs)) (.slice A64 (idsFrom t key sh 0 rs).length c65) (by kernel_rfl))) (by omega)
      have hO76 : OwnK k31 31 w78 w.heap.size w53.heap.size A73 (idsFrom t key sh 0 rs).length c74 (idsFrom t key sh 0 rs) := OwnK.lower (ownk_fact (F80 7 (OwnKSpec k31 31 w53.heap.size w53.heap.size (idsFrom t key sh 0 rs)) (.slice A73 (idsFrom t key sh 0 rs).length c74) (by kernel_rfl))) (by omega)
      refine rw_on (c := false) rfl rfl rfl rfl ?_
      refine rw_call rfl rfl rfl rfl (f := 33) (args := #[.agg #[.int .i64 a0, .int .i64 a1, .int .i64 t, .int .i64 key, .int .i64 a4], .slice A1 rs.length c1, .int .i64 sh, .slice A3 ps.length c3]) (by simp [go_sem, sEv, sLook, nbeq, i64_w]) (estuaryref03_Covered.calls 1000 a0 a1 t key a4 A1 c1 rs sh A3 c3 ps _ w78 (Kd.C_below hR (chain hB55 hb79)) hcr (Kd.C_below hP (chain hB55 hb79)) hcp (rcov_f rs ps a0 a1 t key a4 sh (by omega) (by omega) (by omega) (by omega) (by omega) (by omega) (by omega) 1000 (by omega))) ?_
      rintro e_ w81 ⟨rfl, hb82⟩
      refine ⟨_, rfl, ?_⟩
      have hs_w81 := hb82.size
      refine rw_on (c := false) rfl rfl rfl rfl ?_
      refine rw_val (v := .bool false) (w' := w81) rfl rfl rfl rfl (by simp [go_sem, sEv, sLook, nbeq, i64_w]) ?_
      refine rw_val (v := .bool false) (w' := w81) rfl rfl rfl rfl (by simp [go_sem, sEv, sLook, nbeq, i64_w]) ?_
      refine rw_end ?_
      refine w_weaken (G' := [(1, .slice A1 rs.length c1), (2, .int .i64 sh), (3, .slice A3 ps.length c3), (4, .pointer (some ⟨g1, 0, none⟩)), (8, .bool false), (9, .slice A35 rs.length c36), (10, .slice A51 ps.length c52), (58, .bool false)]) ⟨rfl, rfl, rfl, rfl, rfl, rfl, rfl, rfl, trivial⟩ ?_
      refine w_cond_f rfl rfl rfl ?_
      refine w_skip ?_
      refine w_seq ?_
      refine w_seq ?_
      refine w_region ?_
      refine rw_val (v := .slice A51 ps.length c52) (w' := w81) rfl rfl rfl rfl rfl ?_
      refine rw_val (v := .int .i64 ((ps.length : Nat) : Int)) (w' := w81) rfl rfl rfl rfl (by simp [go_sem, sEv, sLook, nbeq, i64_w]) ?_
      refine rw_val (v := .int .i64 0) (w' := w81) rfl rfl rfl rfl rfl ?_
      refine rw_end ?_
      refine w_block ?_
      refine w_loop (fun m_ G W_ => ∃ (j : Nat), j + m_ = ps.length ∧ Below w81.heap.size w81 W_ ∧ G = [(1, .slice A1 rs.length c1), (2, .int .i64 sh), (3, .slice A3 ps.length c3), (4, .pointer (some ⟨g1, 0, none⟩)), (9, .slice A35 rs.length c36), (10, .slice A51 ps.length c52), (60, .int .i64 ((ps.length : Nat) : Int)), (61, .int .i64 ((j : Nat) : Int))]) ps.length [(1, .slice A1 rs.length c1), (2, .int .i64 sh), (3, .slice A3 ps.length c3), (4, .pointer (some ⟨g1, 0, none⟩)), (9, .slice A35 rs.length c36), (10, .slice A51 ps.length c52), (60, .int .i64 ((ps.length : Nat) : Int)), (61, .int .i64 0)] ⟨0, by omega, (Below.refl _ _), rfl⟩ ⟨rfl, rfl, rfl, rfl, rfl, rfl, rfl, rfl, trivial⟩ ?_
      rintro m_ G w_L83 ⟨j, hp84, hB_L83, rfl⟩
      have hs_w_L83 := hB_L83.size
      refine w_seq ?_
      refine w_region ?_
      refine rw_val (v := .bool (decide (((j : Nat) : Int) < ((ps.length : Nat) : Int)))) (w' := w_L83) rfl rfl rfl rfl (by simp [go_sem, sEv, sLook, nbeq, i64_w]) ?_
      refine rw_end ?_
      refine w_seq ?_
      refine w_cond rfl rfl (fun c85 => ?_) (fun c85 => ?_)
      · have l86 : (((j : Nat) : Int) < ((ps.length : Nat) : Int)) := of_decide_eq_true c85
        refine w_skip ?_
        refine w_seq ?_
        refine w_block ?_
        refine w_seq ?_
        refine w_region ?_
        refine rw_val (v := .int .i64 ((j : Nat) : Int)) (w' := w_L83) rfl rfl rfl rfl rfl ?_
        refine rw_val (v := .int .i64 ((j : Nat) : Int)) (w' := w_L83) rfl rfl rfl rfl rfl ?_
        refine rw_end ?_
        refine w_seq ?_
        obtain ⟨ad87, hA88, hc89⟩ := kd_at (Kd.C_below (OwnK.C (d := k29) hO54) (chain (chain hb79 hb82) hB_L83)) (fun x : S29 => [.int .i64 x.f0, .int .i64 x.f1]) (fun x cs h => k29_open h) z29 j (by omega)
        subst hA88
        have he90 : w_L83.cell? (ad87.add (j * 2)) = some (.int .i64 ((ps.getD j z29).f0)) := cell_0 (hc89 0 _ rfl)
        have he91 : w_L83.cell? ⟨(ad87.add (j * 2)).block, (ad87.add (j * 2)).off + 1, none⟩ = some (.int .i64 ((ps.getD j z29).f1)) := cell_j (hc89 1 _ rfl)
        obtain ⟨ad92, hA93, hc94⟩ := kd_at (Kd.C_below hP (chain (chain (chain hB55 hb79) hb82) hB_L83)) (fun x : S29 => [.int .i64 x.f0, .int .i64 x.f1]) (fun x cs h => k29_open h) z29 j (by omega)
        subst hA93
        have he95 : w_L83.cell? (ad92.add (j * 2)) = some (.int .i64 ((ps.getD j z29).f0)) := cell_0 (hc94 0 _ rfl)
        have he96 : w_L83.cell? ⟨(ad92.add (j * 2)).block, (ad92.add (j * 2)).off + 1, none⟩ = some (.int .i64 ((ps.getD j z29).f1)) := cell_j (hc94 1 _ rfl)
        refine w_drawk (M := [0, 0, 3, 7, 0, 0, 48, 112, 255]) (ss := [Is (.slice (some ad87) ps.length c52), Is (.int .i64 ((j : Nat) : Int)), Is (.pointer (some (ad87.add (j * 2)))), Is (.agg #[.int .i64 ((ps.getD j z29).f0), .int .i64 ((ps.getD j z29).f1)]), Is (.slice (some ad92) ps.length c3), Is (.int .i64 ((j : Nat) : Int)), Is (.pointer (some (ad92.add (j * 2)))), Is (.agg #[.int .i64 ((ps.getD j z29).f0), .int .i64 ((ps.getD j z29).f1)])]) 8 rfl (by decide +kernel) ?_
        refine t_is (.slice (some ad87) ps.length c52) rfl rfl rfl rfl (fun W_ hW_ F_ => rfl) ?_
        refine t_is (.int .i64 ((j : Nat) : Int)) rfl rfl rfl rfl (fun W_ hW_ F_ => rfl) ?_
        refine t_is (.pointer (some (ad87.add (j * 2)))) rfl rfl rfl rfl (fun W_ hW_ F_ => (run_as (run_at_k (P := Try.prog) (e := 29) (by kernel_rfl) (by kernel_rfl) j (by omega) _))) ?_
        refine t_is (.agg #[.int .i64 ((ps.getD j z29).f0), .int .i64 ((ps.getD j z29).f1)]) rfl rfl rfl rfl (fun W_ hW_ F_ => by have e0_ := cellOn he90 (below_of_drew hW_); have e1_ := cellOn he91 (below_of_drew hW_); simp [go_sem, sEv, sLook, nbeq, i64_w, e0_, e1_, Try.underlying29]) ?_
        refine t_is (.slice (some ad92) ps.length c3) rfl rfl rfl rfl (fun W_ hW_ F_ => rfl) ?_
        refine t_is (.int .i64 ((j : Nat) : Int)) rfl rfl rfl rfl (fun W_ hW_ F_ => rfl) ?_
        refine t_is (.pointer (some (ad92.add (j * 2)))) rfl rfl rfl rfl (fun W_ hW_ F_ => (run_as (run_at_k (P := Try.prog) (e := 29) (by kernel_rfl) (by kernel_rfl) j (by omega) _))) ?_
        refine t_is (.agg #[.int .i64 ((ps.getD j z29).f0), .int .i64 ((ps.getD j z29).f1)]) rfl rfl rfl rfl (fun W_ hW_ F_ => by have e0_ := cellOn he95 (below_of_drew hW_); have e1_ := cellOn he96 (below_of_drew hW_); simp [go_sem, sEv, sLook, nbeq, i64_w, e0_, e1_, Try.underlying29]) ?_
        refine t_tail ?_
        intro w97 hb98_ F99
        have hb98 := below_of_drew hb98_
        have hs_w97 := hb98.size
        refine rw_val (v := .bool false) (w' := w97) rfl rfl rfl rfl (by simp [go_sem, sEv, sLook, nbeq, i64_w, eqA29]) ?_
        refine rw_end ?_
        refine w_weaken (G' := [(1, .slice A1 rs.length c1), (2, .int .i64 sh), (3, .slice (some ad92) ps.length c3), (4, .pointer (some ⟨g1, 0, none⟩)), (9, .slice A35 rs.length c36), (10, .slice (some ad87) ps.length c52), (60, .int .i64 ((ps.length : Nat) : Int)), (61, .int .i64 ((j : Nat) : Int)), (72, .bool false)]) ⟨rfl, rfl, rfl, rfl, rfl, rfl, rfl, rfl, rfl, trivial⟩ ?_
        refine w_cond_f rfl rfl rfl ?_
        refine w_skip ?_
        refine w_blk ?_
        refine w_region ?_
        refine rw_val (v := .int .i64 ((j + 1 : Nat) : Int)) (w' := w97) rfl rfl rfl rfl (by simp [go_sem, sEv, sLook, nbeq, i64_w]; exact wrap_id (by omega) (by omega)) ?_
        refine rw_val (v := .int .i64 ((j + 1 : Nat) : Int)) (w' := w97) rfl rfl rfl rfl rfl ?_
        refine rw_end ?_
        exact w_back (m_ - 1) [(1, .slice A1 rs.length c1), (2, .int .i64 sh), (3, .slice (some ad92) ps.length c3), (4, .pointer (some ⟨g1, 0, none⟩)), (9, .slice A35 rs.length c36), (10, .slice (some ad87) ps.length c52), (60, .int .i64 ((ps.length : Nat) : Int)), (61, .int .i64 ((j + 1 : Nat) : Int))] (by omega) ⟨rfl, rfl, rfl, rfl, rfl, rfl, rfl, rfl, trivial⟩ ⟨(j + 1), by omega, (chain hB_L83 hb98), rfl⟩
      · have l100 : ¬ (((j : Nat) : Int) < ((ps.length : Nat) : Int)) := of_decide_eq_false c85
        refine w_exit rfl ?_
        refine w_seq ?_
        have hP101 : (Kd.int .i64).C w_L83 A35 (rs.length + 1) ((rs ++ ([(-77)] : List Int))) := by rw [show rs.length + 1 = (rs ++ ([(-77)] : List Int)).length by simp]; exact OwnK.C (d := (Kd.int .i64)) (OwnK.on (d := (Kd.int .i64)) hO58 (chain (chain hb79 hb82) hB_L83))
        obtain ⟨ad102, hA103, hc104⟩ := int_at (Kd.C_below hP101 (Below.refl _ _)) 0 rs.length (by omega)
        subst hA103
        have he105 : w_L83.cell? (ad102.add (rs.length)) = some (.int .i64 ((rs ++ ([(-77)] : List Int)).getD rs.length 0)) := cell_0 (hc104 0 _ rfl)
        refine w_drawk (M := [0, 0, 3, 7, 15, 15, 47, 111, 255, 15, 527, 2047, 4095, 8191, 16383, 32767, 65535, 131071, 65535, 524287, 65535, 1114111, 65535, 8388607, 16777215, 33554431, 67108863]) (ss := [Is (.slice (some ad102) rs.length c36), Is (.slice A1 rs.length c1), (Is (.bool true)), Is (.bool true), Is (.slice (some ad102) rs.length c36), Is (.slice (some ad102) rs.length c36), Is (.int .i64 ((rs.length : Nat) : Int)), Is (.int .i64 ((rs.length + 1 : Nat) : Int)), Is (.slice (some ad102) (rs.length + 1) c36), Is (.slice (some ad102) rs.length c36), Is (.int .i64 ((rs.length : Nat) : Int)), Is (.pointer (some (ad102.add (rs.length)))), Is (.int .i64 ((rs ++ ([(-77)] : List Int)).getD rs.length 0)), Is (.bool (((rs ++ ([(-77)] : List Int)).getD rs.length 0) == (-77))), Is (.bool (((rs ++ ([(-77)] : List Int)).getD rs.length 0) == (-77))), Is (.bool (((rs ++ ([(-77)] : List Int)).getD rs.length 0) == (-77))), Is (.pointer (some ⟨g1, 3, none⟩)), Is (.int .i64 key), Is (.int .i64 sh), (Is (.int .i64 (modZ key sh))), Is (.pointer (some ⟨g1, 3, none⟩)), Is (.int .i64 key), Is (.int .i64 sh)]) 23 rfl (by decide +kernel) ?_
        refine t_is (.slice (some ad102) rs.length c36) rfl rfl rfl rfl (fun W_ hW_ F_ => rfl) ?_
        refine t_is (.slice A1 rs.length c1) rfl rfl rfl rfl (fun W_ hW_ F_ => rfl) ?_
        refine t_call (f := 34) (args := #[.slice (some ad102) rs.length c36, .slice A1 rs.length c1]) (Is (.bool true)) rfl rfl rfl rfl (fun W_ => by simp [go_sem, sEv, sLook, nbeq, i64_w]) (fun W_ hW_ F_ => ?_) ?_
        · refine (estuarynum_Ints.calls 1000 _ _ rs _ _ rs _ W_ (Kd.C_below (OwnK.front (d := (Kd.int .i64)) hO58) (chain (chain (chain hb79 hb82) hB_L83) (below_of_drew hW_))) (show rs.length ≤ c36 by have q_ := OwnK.cap (d := (Kd.int .i64)) hO58; omega) (Kd.C_below hR (chain (chain (chain (chain hB55 hb79) hb82) hB_L83) (below_of_drew hW_))) hcr (ints_f rs (by omega) 1000 (by omega))).mono ?_
          rintro e_ w_ ⟨rfl, hd_⟩
          exact ⟨_, rfl, rfl, hd_.below⟩
        rintro _ rfl
        refine t_is (.bool true) rfl rfl rfl rfl (fun W_ hW_ F_ => rfl) ?_
        refine t_gis (c := true) (.slice (some ad102) rs.length c36) rfl rfl rfl rfl rfl rfl rfl (fun W_ hW_ F_ => rfl) ?_
        refine t_gis (c := true) (.slice (some ad102) rs.length c36) rfl rfl rfl rfl rfl rfl rfl (fun W_ hW_ F_ => rfl) ?_
        refine t_gis (c := true) (.int .i64 ((rs.length : Nat) : Int)) rfl rfl rfl rfl rfl rfl rfl (fun W_ hW_ F_ => (by simp [go_sem, sEv, sLook, nbeq, i64_w])) ?_
        refine t_gis (c := true) (.int .i64 ((rs.length + 1 : Nat) : Int)) rfl rfl rfl rfl rfl rfl rfl (fun W_ hW_ F_ => by simp [go_sem, sEv, sLook, nbeq, i64_w]; exact wrap_id (by omega) (by omega)) ?_
        refine t_gis (c := true) (.slice (some ad102) (rs.length + 1) c36) rfl rfl rfl rfl rfl rfl rfl (fun W_ hW_ F_ => (run_as (sl_to (sz := 1) (e := 3) (by kernel_rfl) (fun _ => by kernel_rfl) (rs.length + 1) _ (by first | rfl | (simp; done) | omega) (by have q_ := OwnK.cap (d := (Kd.int .i64)) hO58; omega) _))) ?_
        refine t_gis (c := true) (.slice (some ad102) rs.length c36) rfl rfl rfl rfl rfl rfl rfl (fun W_ hW_ F_ => rfl) ?_
        refine t_gis (c := true) (.int .i64 ((rs.length : Nat) : Int)) rfl rfl rfl rfl rfl rfl rfl (fun W_ hW_ F_ => (by simp [go_sem, sEv, sLook, nbeq, i64_w])) ?_
        refine t_gis (c := true) (.pointer (some (ad102.add (rs.length)))) rfl rfl rfl rfl rfl rfl rfl (fun W_ hW_ F_ => (run_as (run_at_1 (P := Try.prog) (e := 3) (by kernel_rfl) (by kernel_rfl) rs.length (by omega) _))) ?_
        refine t_gis (c := true) (.int .i64 ((rs ++ ([(-77)] : List Int)).getD rs.length 0)) rfl rfl rfl rfl rfl rfl rfl (fun W_ hW_ F_ => by have e0_ := cellOn he105 (below_of_drew hW_); simp [go_sem, sEv, sLook, nbeq, i64_w, e0_]) ?_
        refine t_gis (c := true) (.bool (((rs ++ ([(-77)] : List Int)).getD rs.length 0) == (-77))) rfl rfl rfl rfl rfl rfl rfl (fun W_ hW_ F_ => by simp [go_sem, sEv, sLook, nbeq, i64_w]) ?_
        refine t_is (.bool (((rs ++ ([(-77)] : List Int)).getD rs.length 0) == (-77))) rfl rfl rfl rfl (fun W_ hW_ F_ => by simp [go_sem, sEv, sLook, nbeq, i64_w]) ?_
        refine t_is (.bool (((rs ++ ([(-77)] : List Int)).getD rs.length 0) == (-77))) rfl rfl rfl rfl (fun W_ hW_ F_ => rfl) ?_
        have hq106 : (((rs ++ ([(-77)] : List Int)).getD rs.length 0) == (-77)) = true := by simp
        refine t_gis (c := (((rs ++ ([(-77)] : List Int)).getD rs.length 0) == (-77))) (.pointer (some ⟨g1, 3, none⟩)) rfl rfl rfl (by first | (rw [hq106]; rfl) | simp [hq106]) rfl rfl rfl (fun W_ hW_ F_ => by simp [go_sem, sEv, sLook, nbeq, i64_w, Try.underlying23]) ?_
        refine t_gis (c := (((rs ++ ([(-77)] : List Int)).getD rs.length 0) == (-77))) (.int .i64 key) rfl rfl rfl (by first | (rw [hq106]; rfl) | simp [hq106]) rfl rfl rfl (fun W_ hW_ F_ => by have eb_ := ((((hk59.on hb79).on hb82).on hB_L83).on (below_of_drew hW_)); have e0_ := eb_.cellv (i := 3) (v := (.int .i64 key : Value)) rfl; simp [go_sem, sEv, sLook, nbeq, i64_w, e0_]) ?_
        refine t_gis (c := (((rs ++ ([(-77)] : List Int)).getD rs.length 0) == (-77))) (.int .i64 sh) rfl rfl rfl (by first | (rw [hq106]; rfl) | simp [hq106]) rfl rfl rfl (fun W_ hW_ F_ => rfl) ?_
        refine t_gcall (c := (((rs ++ ([(-77)] : List Int)).getD rs.length 0) == (-77))) (f := 14) (args := #[.int .i64 key, .int .i64 sh]) (Is (.int .i64 (modZ key sh))) rfl rfl rfl (by first | (rw [hq106]; rfl) | simp [hq106]) rfl rfl rfl (fun W_ => by simp [go_sem, sEv, sLook, nbeq, i64_w]) (fun W_ hW_ F_ => ?_) ?_
        · refine (place_Shard.calls key sh _ W_ (shard_Z key sh (by omega))).mono ?_
          rintro e_ w_ ⟨rfl, hd_⟩
          exact ⟨_, rfl, rfl, hd_.below⟩
        rintro _ rfl
        refine t_gis (c := (((rs ++ ([(-77)] : List Int)).getD rs.length 0) == (-77))) (.pointer (some ⟨g1, 3, none⟩)) rfl rfl rfl (by first | (rw [hq106]; rfl) | simp [hq106]) rfl rfl rfl (fun W_ hW_ F_ => by simp [go_sem, sEv, sLook, nbeq, i64_w, Try.underlying23]) ?_
        refine t_gis (c := (((rs ++ ([(-77)] : List Int)).getD rs.length 0) == (-77))) (.int .i64 key) rfl rfl rfl (by first | (rw [hq106]; rfl) | simp [hq106]) rfl rfl rfl (fun W_ hW_ F_ => by have eb_ := ((((hk59.on hb79).on hb82).on hB_L83).on (below_of_drew hW_)); have e0_ := eb_.cellv (i := 3) (v := (.int .i64 key : Value)) rfl; simp [go_sem, sEv, sLook, nbeq, i64_w, e0_]) ?_
        refine t_gis (c := (((rs ++ ([(-77)] : List Int)).getD rs.length 0) == (-77))) (.int .i64 sh) rfl rfl rfl (by first | (rw [hq106]; rfl) | simp [hq106]) rfl rfl rfl (fun W_ hW_ F_ => rfl) ?_
        refine t_tail ?_
        intro w107 hb108_ F109
        have hb108 := below_of_drew hb108_
        have hs_w107 := hb108.size
        refine rw_on (c := (((rs ++ ([(-77)] : List Int)).getD rs.length 0) == (-77))) rfl rfl rfl (by first | (rw [hq106]; rfl) | simp [hq106]) ?_
        refine rw_call rfl rfl rfl rfl (f := 18) (args := #[.int .i64 key, .int .i64 sh]) (by simp [go_sem, sEv, sLook, nbeq, i64_w]) (estuaryref01_Mod.calls key sh _ w107 (rmod_Z key sh (by omega) (by omega) (by omega))) ?_
        rintro e_ w110 ⟨rfl, hb111_⟩
        refine ⟨_, rfl, ?_⟩
        have hb111 := hb111_.below
        have hs_w110 := hb111.size
        refine rw_on (c := (((rs ++ ([(-77)] : List Int)).getD rs.length 0) == (-77))) rfl rfl rfl (by first | (rw [hq106]; rfl) | simp [hq106]) ?_
        refine rw_val (v := .bool true) (w' := w110) rfl rfl rfl rfl (by simp [go_sem, sEv, sLook, nbeq, i64_w]) ?_
        refine rw_val (v := .bool true) (w' := w110) rfl rfl rfl rfl (by first | (simp [go_sem, sEv, sLook, nbeq, i64_w, hq106]; done) | (rw [hq106]; simp [go_sem, sEv, sLook, nbeq, i64_w]; done) | (simp [go_sem, sEv, sLook, nbeq, i64_w] <;> omega) | (simp [go_sem, sEv, sLook, nbeq, i64_w]; intro h_; exact absurd (by omega) h_)) ?_
        refine rw_val (v := .bool true) (w' := w110) rfl rfl rfl rfl rfl ?_
        refine rw_end ?_
        refine w_weaken (G' := [(8, .bool true)]) ⟨rfl, trivial⟩ ?_
        refine w_ret (post_ret1 rfl rfl ?_)
        exact ⟨rfl, (chain (chain (chain (chain (chain hB55 hb79) hb82) hB_L83) hb108) hb111)⟩
  · have l112 : (500 < ((rs.length : Nat) : Int)) := of_decide_eq_true c9
    refine rw_off (c := decide (500 < ((rs.length : Nat) : Int))) rfl rfl rfl (by first | (rw [c9]; rfl) | simp [c9]) rfl rfl ?_
    refine rw_off (c := decide (500 < ((rs.length : Nat) : Int))) rfl rfl rfl (by first | (rw [c9]; rfl) | simp [c9]) rfl rfl ?_
    refine rw_off (c := decide (500 < ((rs.length : Nat) : Int))) rfl rfl rfl (by first | (rw [c9]; rfl) | simp [c9]) rfl rfl ?_
    refine rw_val (v := .bool true) (w' := w7) rfl rfl rfl rfl (by first | (simp [go_sem, sEv, sLook, nbeq, i64_w, c9]; done) | (rw [c9]; simp [go_sem, sEv, sLook, nbeq, i64_w]; done) | (simp [go_sem, sEv, sLook, nbeq, i64_w] <;> omega) | (simp [go_sem, sEv, sLook, nbeq, i64_w]; intro h_; exact absurd (by omega) h_)) ?_
    refine rw_end ?_
    refine w_weaken (G' := [(1, .slice A1 rs.length c1), (2, .int .i64 sh), (3, .slice A3 ps.length c3), (4, .pointer (some ⟨g1, 0, none⟩)), (8, .bool false), (21, .bool true)]) ⟨rfl, rfl, rfl, rfl, rfl, rfl, trivial⟩ ?_
    refine w_cond_t rfl rfl rfl ?_
    refine w_seq ?_
    refine w_region ?_
    refine rw_val (v := .bool true) (w' := w7) rfl rfl rfl rfl rfl ?_
    refine rw_end ?_
    refine w_ret (post_ret1 rfl rfl ?_)
    exact ⟨rfl, (chain hb3 hb8)⟩
end Go.Proofs.Ytgedckgkddpkkaa.PPlaceCells
