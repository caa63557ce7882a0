/- The walk of PlaceOrders. -/
import Derived.Test.YtgedckgkddpkkaaPPlaceOrdersx4
import Derived.Test.YtgedckgkddpkkaaFlowC
namespace Go.Proofs.Ytgedckgkddpkkaa.PPlaceOrders
open Go.RowKit Go.Proofs.YtgedckgkddpkkaaW.PrintWords Go.Proofs.YtgedckgkddpkkaaW.PrintLast Go.Proofs.YtgedckgkddpkkaaW.PrintMore
open Go.Proofs.Ytgedckgkddpkkaa.Flow
set_option linter.unusedVariables false
set_option linter.unusedSimpArgs false

theorem s_zero : (1 : Nat) = 1 := rfl
set_option maxHeartbeats 4000000 in
theorem orders_calls (p0 p1 a0 a1 b0 b1 n0 n1 : Int) (nb lpa lpb lab wi : Bool) (hal : estuarylaw03_alive.f 3 = some true) (hAf : place_After.f p0 p1 = some (n0, n1, nb)) (hAr : estuaryref03_After.f p0 p1 = some (n0, n1, nb))
    (hLf_ab : place_Less.f 3 a0 a1 b0 b1 = some lab) (hLr_ab : estuaryref03_Less.f a0 a1 b0 b1 = some lab) (hLr_pa : estuaryref03_Less.f p0 p1 a0 a1 = some lpa) (hLr_pb : estuaryref03_Less.f p0 p1 b0 b1 = some lpb)
    (hWi : place_Within.f 3 p0 p1 a0 a1 b0 b1 = some wi) (hWv : wi = (!lpa && lpb)) (hMf : place_Least.f = some (-9223372036854775808, -9223372036854775808)) (hMr : estuaryref03_Least.f = some (-9223372036854775808, -9223372036854775808)) (w : World) :
    Calls Try.prog 6 #[.agg #[.int .i64 p0, .int .i64 p1], .agg #[.int .i64 a0, .int .i64 a1], .agg #[.int .i64 b0, .int .i64 b1]] w fun e w' => e = .returned (.bool true) ∧ Below w.heap.size w w' := by
  refine calls_flow Try.func6 rfl 61 rfl (Nat.le_of_ble_eq_true rfl) [(0, .agg #[.int .i64 p0, .int .i64 p1]), (1, .agg #[.int .i64 a0, .int .i64 a1]), (2, .agg #[.int .i64 b0, .int .i64 b1])] ?_ ?_
  · intro t v h; exact args_look rfl t v h
  refine w_seq ?_
  refine w_region ?_
  refine rw_new (cs := #[.int .i64 p0, .int .i64 p1]) (t := 29) (fun g => .pointer (some ⟨g, 0, none⟩)) rfl rfl rfl rfl (by simp [go_sem, sEv, sLook, nbeq]) ?_
  intro g1 w2 hg6 hz5 hb3 hk4
  have hs_w2 := hb3.size
  refine rw_new (cs := #[.int .i64 a0, .int .i64 a1]) (t := 29) (fun g => .pointer (some ⟨g, 0, none⟩)) rfl rfl rfl rfl (by simp [go_sem, sEv, sLook, nbeq]) ?_
  intro g7 w8 hg12 hz11 hb9 hk10
  have hs_w8 := hb9.size
  refine rw_new (cs := #[.int .i64 b0, .int .i64 b1]) (t := 29) (fun g => .pointer (some ⟨g, 0, none⟩)) rfl rfl rfl rfl (by simp [go_sem, sEv, sLook, nbeq]) ?_
  intro g13 w14 hg18 hz17 hb15 hk16
  have hs_w14 := hb15.size
  refine rw_val (v := .bool false) (w' := w14) rfl rfl rfl rfl rfl ?_
  refine rw_end ?_
  refine w_weaken (G' := [(3, .pointer (some ⟨g1, 0, none⟩)), (4, .pointer (some ⟨g7, 0, none⟩)), (5, .pointer (some ⟨g13, 0, none⟩)), (6, .bool false)]) ⟨rfl, rfl, rfl, rfl, trivial⟩ ?_
  refine w_seq ?_
  refine w_seq ?_
  refine w_region ?_
  refine rw_call rfl rfl rfl rfl (by simp [go_sem, sEv, sLook, nbeq]) (estuarylaw03_alive.calls 3 true w14 hal) ?_
  rintro e_ w19 ⟨rfl, hb20⟩
  refine ⟨_, rfl, ?_⟩
  have hs_w19 := hb20.size
  refine rw_val (v := .bool false) (w' := w19) rfl rfl rfl rfl (by simp [go_sem, sEv, sLook, nbeq]) ?_
  refine rw_end ?_
  refine w_cond_f rfl rfl rfl ?_
  refine w_skip ?_
  refine w_seq ?_
  refine w_region ?_
  refine rw_val (v := .agg #[.int .i64 p0, .int .i64 p1]) (w' := w19) rfl rfl rfl rfl (by have eb_ := (((hk4.on hb9).on hb15).on hb20); have e0_ := eb_.cellv (i := 0) (v := (.int .i64 p0 : Value)) rfl; have e1_ := eb_.cellv (i := 1) (v := (.int .i64 p1 : Value)) rfl; simp [go_sem, sEv, sLook, nbeq, e0_, e1_, Try.underlying29]) ?_
  refine rw_call rfl rfl rfl rfl (by simp [go_sem, sEv, sLook, nbeq]) (place_After.calls p0 p1 n0 n1 nb w19 hAf) ?_
  rintro e_ w21 ⟨rfl, hb22⟩
  refine ⟨_, rfl, ?_⟩
  have hs_w21 := hb22.size
  refine rw_val (v := .tuple #[.agg #[.int .i64 n0, .int .i64 n1], .bool nb]) (w' := w21) rfl rfl rfl rfl rfl ?_
  refine rw_val (v := .agg #[.int .i64 n0, .int .i64 n1]) (w' := w21) rfl rfl rfl rfl (by simp [go_sem, sEv, sLook, nbeq]) ?_
  refine rw_val (v := .bool nb) (w' := w21) rfl rfl rfl rfl (by simp [go_sem, sEv, sLook, nbeq]) ?_
  refine rw_new (cs := #[.int .i64 0, .int .i64 0]) (t := 29) (fun g => .pointer (some ⟨g, 0, none⟩)) rfl rfl rfl rfl (by simp [go_sem, sEv, sLook, nbeq, s_zero]) ?_
  intro g23 w24 hg28 hz27 hb25 hk26
  have hs_w24 := hb25.size
  have hb32 := hk26
  refine rw_store (g := g23) (i := 0) (l := [.int .i64 n0, .int .i64 n1]) (cs' := #[.int .i64 n0, .int .i64 n1]) rfl rfl rfl hb32 rfl (by have e0_ := hb32.cellv (i := 0) (v := (.int .i64 0 : Value)) rfl; have f0_ := hb32.frozen 0; have e1_ := hb32.cellv (i := 1) (v := (.int .i64 0 : Value)) rfl; have f1_ := hb32.frozen 1; simp [go_sem, sEv, sLook, nbeq, putCells, e0_, f0_, e1_, f1_, Try.underlying29]) ?_
  intro w29 hk30 hk31
  have hs_w29 := hk30.size
  refine rw_val (v := .bool nb) (w' := w29) rfl rfl rfl rfl rfl ?_
  refine rw_end ?_
  refine w_weaken (G' := [(3, .pointer (some ⟨g1, 0, none⟩)), (4, .pointer (some ⟨g7, 0, none⟩)), (5, .pointer (some ⟨g13, 0, none⟩)), (6, .bool false), (7, .pointer (some ⟨g23, 0, none⟩)), (8, .bool nb)]) ⟨rfl, rfl, rfl, rfl, rfl, rfl, trivial⟩ ?_
  refine w_seq ?_
  refine w_region ?_
  refine rw_val (v := .agg #[.int .i64 p0, .int .i64 p1]) (w' := w29) rfl rfl rfl rfl (by have eb_ := ((((((hk4.on hb9).on hb15).on hb20).on hb22).on hb25).keep hk30 (by omega)); have e0_ := eb_.cellv (i := 0) (v := (.int .i64 p0 : Value)) rfl; have e1_ := eb_.cellv (i := 1) (v := (.int .i64 p1 : Value)) rfl; simp [go_sem, sEv, sLook, nbeq, e0_, e1_, Try.underlying29]) ?_
  refine rw_call rfl rfl rfl rfl (by simp [go_sem, sEv, sLook, nbeq]) (estuaryref03_After.calls p0 p1 n0 n1 nb w29 hAr) ?_
  rintro e_ w33 ⟨rfl, hb34⟩
  refine ⟨_, rfl, ?_⟩
  have hs_w33 := hb34.size
  refine rw_val (v := .tuple #[.agg #[.int .i64 n0, .int .i64 n1], .bool nb]) (w' := w33) rfl rfl rfl rfl rfl ?_
  refine rw_val (v := .agg #[.int .i64 n0, .int .i64 n1]) (w' := w33) rfl rfl rfl rfl (by simp [go_sem, sEv, sLook, nbeq]) ?_
  refine rw_val (v := .bool nb) (w' := w33) rfl rfl rfl rfl (by simp [go_sem, sEv, sLook, nbeq]) ?_
  refine rw_new (cs := #[.int .i64 0, .int .i64 0]) (t := 29) (fun g => .pointer (some ⟨g, 0, none⟩)) rfl rfl rfl rfl (by simp [go_sem, sEv, sLook, nbeq, s_zero]) ?_
  intro g35 w36 hg40 hz39 hb37 hk38
  have hs_w36 := hb37.size
  have hb44 := hk38
  refine rw_store (g := g35) (i := 0) (l := [.int .i64 n0, .int .i64 n1]) (cs' := #[.int .i64 n0, .int .i64 n1]) rfl rfl rfl hb44 rfl (by have e0_ := hb44.cellv (i := 0) (v := (.int .i64 0 : Value)) rfl; have f0_ := hb44.frozen 0; have e1_ := hb44.cellv (i := 1) (v := (.int .i64 0 : Value)) rfl; have f1_ := hb44.frozen 1; simp [go_sem, sEv, sLook, nbeq, putCells, e0_, f0_, e1_, f1_, Try.underlying29]) ?_
  intro w41 hk42 hk43
  have hs_w41 := hk42.size
  refine rw_val (v := .bool nb) (w' := w41) rfl rfl rfl rfl rfl ?_
  refine rw_end ?_
  refine w_weaken (G' := [(3, .pointer (some ⟨g1, 0, none⟩)), (4, .pointer (some ⟨g7, 0, none⟩)), (5, .pointer (some ⟨g13, 0, none⟩)), (6, .bool false), (7, .pointer (some ⟨g23, 0, none⟩)), (8, .bool nb), (9, .pointer (some ⟨g35, 0, none⟩)), (10, .bool nb)]) ⟨rfl, rfl, rfl, rfl, rfl, rfl, rfl, rfl, trivial⟩ ?_
  refine w_seq ?_
  rcases bcase (!lpa) with c45 | c45
  · refine w_draw (M := [0, 0, 3, 0, 0, 31, 63, 127, 255, 255, 255, 2047, 255, 255, 16383, 32767, 65535, 131071, 131071, 524287, 1048575, 2097151, 4194303, 8388607, 16777215, 16777215, 67108863, 134217727, 268435455, 536870911, 536870911, 2147483647, 4294967295, 8589934591, 17179869183, 34359738367, 68719476735, 137438953471, 274877906943]) (ss := [Is (.agg #[.int .i64 a0, .int .i64 a1]), Is (.agg #[.int .i64 b0, .int .i64 b1]), (Is (.bool lab)), Is (.agg #[.int .i64 a0, .int .i64 a1]), Is (.agg #[.int .i64 b0, .int .i64 b1]), (Is (.bool lab)), Is (.bool true), Is (.bool true), Is (.agg #[.int .i64 p0, .int .i64 p1]), Is (.agg #[.int .i64 a0, .int .i64 a1]), Is (.agg #[.int .i64 b0, .int .i64 b1]), (Is (.bool wi)), Is (.agg #[.int .i64 p0, .int .i64 p1]), Is (.agg #[.int .i64 a0, .int .i64 a1]), (Is (.bool lpa)), Is (.bool (!lpa)), Is (.bool (!lpa)), Is undef, Is undef, Is undef, Is (.bool false), Is (.bool (wi == false)), Is (.bool (wi == false)), Is (.bool (wi == false)), Is (.agg #[.int .i64 n0, .int .i64 n1]), Is (.agg #[.int .i64 n0, .int .i64 n1]), Is (.bool true), Is (.bool true), Is (.bool true), Is (.bool nb), Is (.bool nb), Is (.bool true), Is (.bool true), Is (.bool true), (Is (.agg #[.int .i64 (-9223372036854775808), .int .i64 (-9223372036854775808)])), (Is (.agg #[.int .i64 (-9223372036854775808), .int .i64 (-9223372036854775808)])), Is (.bool true), Is (.bool true), Is (.bool true)]) rfl (by decide +kernel) ?_
    refine t_is (.agg #[.int .i64 a0, .int .i64 a1]) rfl rfl rfl rfl (fun W_ hW_ F_ => by have eb_ := (((((((((hk10.on hb15).on hb20).on hb22).on hb25).keep hk30 (by omega)).on hb34).on hb37).keep hk42 (by omega)).on (below_of_drew hW_)); have e0_ := eb_.cellv (i := 0) (v := (.int .i64 a0 : Value)) rfl; have e1_ := eb_.cellv (i := 1) (v := (.int .i64 a1 : Value)) rfl; simp [go_sem, sEv, sLook, nbeq, e0_, e1_, Try.underlying29]) ?_
    refine t_is (.agg #[.int .i64 b0, .int .i64 b1]) rfl rfl rfl rfl (fun W_ hW_ F_ => by have eb_ := ((((((((hk16.on hb20).on hb22).on hb25).keep hk30 (by omega)).on hb34).on hb37).keep hk42 (by omega)).on (below_of_drew hW_)); have e0_ := eb_.cellv (i := 0) (v := (.int .i64 b0 : Value)) rfl; have e1_ := eb_.cellv (i := 1) (v := (.int .i64 b1 : Value)) rfl; simp [go_sem, sEv, sLook, nbeq, e0_, e1_, Try.underlying29]) ?_
    refine t_call (f := 17) (args := #[.agg #[.int .i64 a0, .int .i64 a1], .agg #[.int .i64 b0, .int .i64 b1]]) (Is (.bool lab)) rfl rfl rfl rfl (fun W_ => by simp [go_sem, sEv, sLook, nbeq]) (fun W_ hW_ F_ => ?_) ?_
    · refine (place_Less.calls 3 a0 a1 b0 b1 lab W_ hLf_ab).mono ?_
      rintro e_ w_ ⟨rfl, hd_⟩
      exact ⟨_, rfl, rfl, hd_⟩
    rintro _ rfl
    refine t_is (.agg #[.int .i64 a0, .int .i64 a1]) rfl rfl rfl rfl (fun W_ hW_ F_ => by have eb_ := (((((((((hk10.on hb15).on hb20).on hb22).on hb25).keep hk30 (by omega)).on hb34).on hb37).keep hk42 (by omega)).on (below_of_drew hW_)); have e0_ := eb_.cellv (i := 0) (v := (.int .i64 a0 : Value)) rfl; have e1_ := eb_.cellv (i := 1) (v := (.int .i64 a1 : Value)) rfl; simp [go_sem, sEv, sLook, nbeq, e0_, e1_, Try.underlying29]) ?_
    refine t_is (.agg #[.int .i64 b0, .int .i64 b1]) rfl rfl rfl rfl (fun W_ hW_ F_ => by have eb_ := ((((((((hk16.on hb20).on hb22).on hb25).keep hk30 (by omega)).on hb34).on hb37).keep hk42 (by omega)).on (below_of_drew hW_)); have e0_ := eb_.cellv (i := 0) (v := (.int .i64 b0 : Value)) rfl; have e1_ := eb_.cellv (i := 1) (v := (.int .i64 b1 : Value)) rfl; simp [go_sem, sEv, sLook, nbeq, e0_, e1_, Try.underlying29]) ?_
    refine t_call (f := 21) (args := #[.agg #[.int .i64 a0, .int .i64 a1], .agg #[.int .i64 b0, .int .i64 b1]]) (Is (.bool lab)) rfl rfl rfl rfl (fun W_ => by simp [go_sem, sEv, sLook, nbeq]) (fun W_ hW_ F_ => ?_) ?_
    · refine (estuaryref03_Less.calls a0 a1 b0 b1 lab W_ hLr_ab).mono ?_
      rintro e_ w_ ⟨rfl, hd_⟩
      exact ⟨_, rfl, rfl, hd_⟩
    rintro _ rfl
    refine t_is (.bool true) rfl rfl rfl rfl (fun W_ hW_ F_ => by simp [go_sem, sEv, sLook, nbeq]) ?_
    refine t_is (.bool true) rfl rfl rfl rfl (fun W_ hW_ F_ => rfl) ?_
    refine t_gis (c := true) (.agg #[.int .i64 p0, .int .i64 p1]) rfl rfl rfl rfl rfl rfl rfl (fun W_ hW_ F_ => by have eb_ := ((((((((((hk4.on hb9).on hb15).on hb20).on hb22).on hb25).keep hk30 (by omega)).on hb34).on hb37).keep hk42 (by omega)).on (below_of_drew hW_)); have e0_ := eb_.cellv (i := 0) (v := (.int .i64 p0 : Value)) rfl; have e1_ := eb_.cellv (i := 1) (v := (.int .i64 p1 : Value)) rfl; simp [go_sem, sEv, sLook, nbeq, e0_, e1_, Try.underlying29]) ?_
    refine t_gis (c := true) (.agg #[.int .i64 a0, .int .i64 a1]) rfl rfl rfl rfl rfl rfl rfl (fun W_ hW_ F_ => by have eb_ := (((((((((hk10.on hb15).on hb20).on hb22).on hb25).keep hk30 (by omega)).on hb34).on hb37).keep hk42 (by omega)).on (below_of_drew hW_)); have e0_ := eb_.cellv (i := 0) (v := (.int .i64 a0 : Value)) rfl; have e1_ := eb_.cellv (i := 1) (v := (.int .i64 a1 : Value)) rfl; simp [go_sem, sEv, sLook, nbeq, e0_, e1_, Try.underlying29]) ?_
    refine t_gis (c := true) (.agg #[.int .i64 b0, .int .i64 b1]) rfl rfl rfl rfl rfl rfl rfl (fun W_ hW_ F_ => by have eb_ := ((((((((hk16.on hb20).on hb22).on hb25).keep hk30 (by omega)).on hb34).on hb37).keep hk42 (by omega)).on (below_of_drew hW_)); have e0_ := eb_.cellv (i := 0) (v := (.int .i64 b0 : Value)) rfl; have e1_ := eb_.cellv (i := 1) (v := (.int .i64 b1 : Value)) rfl; simp [go_sem, sEv, sLook, nbeq, e0_, e1_, Try.underlying29]) ?_
    refine t_gcall (c := true) (f := 22) (args := #[.agg #[.int .i64 p0, .int .i64 p1], .agg #[.int .i64 a0, .int .i64 a1], .agg #[.int .i64 b0, .int .i64 b1]]) (Is (.bool wi)) rfl rfl rfl rfl rfl rfl rfl (fun W_ => by simp [go_sem, sEv, sLook, nbeq]) (fun W_ hW_ F_ => ?_) ?_
    · refine (place_Within.calls 3 p0 p1 a0 a1 b0 b1 wi W_ hWi).mono ?_
      rintro e_ w_ ⟨rfl, hd_⟩
      exact ⟨_, rfl, rfl, hd_⟩
    rintro _ rfl
    refine t_gis (c := true) (.agg #[.int .i64 p0, .int .i64 p1]) rfl rfl rfl rfl rfl rfl rfl (fun W_ hW_ F_ => by have eb_ := ((((((((((hk4.on hb9).on hb15).on hb20).on hb22).on hb25).keep hk30 (by omega)).on hb34).on hb37).keep hk42 (by omega)).on (below_of_drew hW_)); have e0_ := eb_.cellv (i := 0) (v := (.int .i64 p0 : Value)) rfl; have e1_ := eb_.cellv (i := 1) (v := (.int .i64 p1 : Value)) rfl; simp [go_sem, sEv, sLook, nbeq, e0_, e1_, Try.underlying29]) ?_
    refine t_gis (c := true) (.agg #[.int .i64 a0, .int .i64 a1]) rfl rfl rfl rfl rfl rfl rfl (fun W_ hW_ F_ => by have eb_ := (((((((((hk10.on hb15).on hb20).on hb22).on hb25).keep hk30 (by omega)).on hb34).on hb37).keep hk42 (by omega)).on (below_of_drew hW_)); have e0_ := eb_.cellv (i := 0) (v := (.int .i64 a0 : Value)) rfl; have e1_ := eb_.cellv (i := 1) (v := (.int .i64 a1 : Value)) rfl; simp [go_sem, sEv, sLook, nbeq, e0_, e1_, Try.underlying29]) ?_
    refine t_gcall (c := true) (f := 21) (args := #[.agg #[.int .i64 p0, .int .i64 p1], .agg #[.int .i64 a0, .int .i64 a1]]) (Is (.bool lpa)) rfl rfl rfl rfl rfl rfl rfl (fun W_ => by simp [go_sem, sEv, sLook, nbeq]) (fun W_ hW_ F_ => ?_) ?_
    · refine (estuaryref03_Less.calls p0 p1 a0 a1 lpa W_ hLr_pa).mono ?_
      rintro e_ w_ ⟨rfl, hd_⟩
      exact ⟨_, rfl, rfl, hd_⟩
    rintro _ rfl
    refine t_gis (c := true) (.bool (!lpa)) rfl rfl rfl rfl rfl rfl rfl (fun W_ hW_ F_ => by simp [go_sem, sEv, sLook, nbeq]) ?_
    refine t_gis (c := true) (.bool (!lpa)) rfl rfl rfl rfl rfl rfl rfl (fun W_ hW_ F_ => rfl) ?_
    refine t_off (c := !lpa) rfl rfl rfl (by simp [c45]) rfl rfl ?_
    refine t_off (c := !lpa) rfl rfl rfl (by simp [c45]) rfl rfl ?_
    refine t_off (c := !lpa) rfl rfl rfl (by simp [c45]) rfl rfl ?_
    refine t_gis (c := true) (.bool false) rfl rfl rfl rfl rfl rfl rfl (fun W_ hW_ F_ => by simp [go_sem, sEv, sLook, nbeq, c45]) ?_
    refine t_gis (c := true) (.bool (wi == false)) rfl rfl rfl rfl rfl rfl rfl (fun W_ hW_ F_ => by simp [go_sem, sEv, sLook, nbeq]) ?_
    refine t_is (.bool (wi == false)) rfl rfl rfl rfl (fun W_ hW_ F_ => by simp [go_sem, sEv, sLook, nbeq]) ?_
    refine t_is (.bool (wi == false)) rfl rfl rfl rfl (fun W_ hW_ F_ => rfl) ?_
    have hq46 : (wi == false) = true := by revert c45; rw [hWv]; cases lpa <;> cases lpb <;> simp
    refine t_gis (c := (wi == false)) (.agg #[.int .i64 n0, .int .i64 n1]) rfl rfl rfl (by simp [hq46]) rfl rfl rfl (fun W_ hW_ F_ => by have eb_ := ((((hk31.on hb34).on hb37).keep hk42 (by omega)).on (below_of_drew hW_)); have e0_ := eb_.cellv (i := 0) (v := (.int .i64 n0 : Value)) rfl; have e1_ := eb_.cellv (i := 1) (v := (.int .i64 n1 : Value)) rfl; simp [go_sem, sEv, sLook, nbeq, e0_, e1_, Try.underlying29]) ?_
    refine t_gis (c := (wi == false)) (.agg #[.int .i64 n0, .int .i64 n1]) rfl rfl rfl (by simp [hq46]) rfl rfl rfl (fun W_ hW_ F_ => by have eb_ := (hk43.on (below_of_drew hW_)); have e0_ := eb_.cellv (i := 0) (v := (.int .i64 n0 : Value)) rfl; have e1_ := eb_.cellv (i := 1) (v := (.int .i64 n1 : Value)) rfl; simp [go_sem, sEv, sLook, nbeq, e0_, e1_, Try.underlying29]) ?_
    refine t_gis (c := (wi == false)) (.bool true) rfl rfl rfl (by simp [hq46]) rfl rfl rfl (fun W_ hW_ F_ => by simp [go_sem, sEv, sLook, nbeq, eqA29]) ?_
    refine t_is (.bool true) rfl rfl rfl rfl (fun W_ hW_ F_ => by simp [go_sem, sEv, sLook, nbeq, hq46]) ?_
    refine t_is (.bool true) rfl rfl rfl rfl (fun W_ hW_ F_ => rfl) ?_
    refine t_gis (c := true) (.bool nb) rfl rfl rfl rfl rfl rfl rfl (fun W_ hW_ F_ => rfl) ?_
    refine t_gis (c := true) (.bool nb) rfl rfl rfl rfl rfl rfl rfl (fun W_ hW_ F_ => rfl) ?_
    refine t_gis (c := true) (.bool true) rfl rfl rfl rfl rfl rfl rfl (fun W_ hW_ F_ => by simp [go_sem, sEv, sLook, nbeq]) ?_
    refine t_is (.bool true) rfl rfl rfl rfl (fun W_ hW_ F_ => by simp [go_sem, sEv, sLook, nbeq]) ?_
    refine t_is (.bool true) rfl rfl rfl rfl (fun W_ hW_ F_ => rfl) ?_
    refine t_gcall (c := true) (f := 23) (args := #[]) (Is (.agg #[.int .i64 (-9223372036854775808), .int .i64 (-9223372036854775808)])) rfl rfl rfl rfl rfl rfl rfl (fun W_ => by simp [go_sem, sEv, sLook, nbeq]) (fun W_ hW_ F_ => ?_) ?_
    · refine (place_Least.calls (-9223372036854775808) (-9223372036854775808) W_ hMf).mono ?_
      rintro e_ w_ ⟨rfl, hd_⟩
      exact ⟨_, rfl, rfl, hd_⟩
    rintro _ rfl
    refine t_gcall (c := true) (f := 24) (args := #[]) (Is (.agg #[.int .i64 (-9223372036854775808), .int .i64 (-9223372036854775808)])) rfl rfl rfl rfl rfl rfl rfl (fun W_ => by simp [go_sem, sEv, sLook, nbeq]) (fun W_ hW_ F_ => ?_) ?_
    · refine (estuaryref03_Least.calls (-9223372036854775808) (-9223372036854775808) W_ hMr).mono ?_
      rintro e_ w_ ⟨rfl, hd_⟩
      exact ⟨_, rfl, rfl, hd_⟩
    rintro _ rfl
    refine t_gis (c := true) (.bool true) rfl rfl rfl rfl rfl rfl rfl (fun W_ hW_ F_ => by simp [go_sem, sEv, sLook, nbeq, eqA29]) ?_
    refine t_is (.bool true) rfl rfl rfl rfl (fun W_ hW_ F_ => by simp [go_sem, sEv, sLook, nbeq]) ?_
    refine t_is (.bool true) rfl rfl rfl rfl (fun W_ hW_ F_ => rfl) ?_
    refine t_end ?_
    intro w47 hb48_ F49
    have hb48 := below_of_drew hb48_
    have hs_w47 := hb48.size
    refine w_weaken (G' := [(6, .bool true)]) ⟨rfl, trivial⟩ ?_
    refine w_ret (post_ret1 rfl rfl ?_)
    exact ⟨by rfl, (chain (hk42.below (by omega) (chain (chain (hk30.below (by omega) (chain (chain (chain (chain (chain hb3 hb9) hb15) hb20) hb22) hb25)) hb34) hb37)) hb48)⟩
  · refine w_draw (M := [0, 0, 3, 0, 0, 31, 63, 127, 255, 255, 255, 2047, 255, 255, 16383, 32767, 65535, 131071, 131071, 524287, 1048575, 2097151, 4194303, 8388607, 16777215, 16777215, 67108863, 134217727, 268435455, 536870911, 536870911, 2147483647, 4294967295, 8589934591, 17179869183, 34359738367, 68719476735, 137438953471, 274877906943]) (ss := [Is (.agg #[.int .i64 a0, .int .i64 a1]), Is (.agg #[.int .i64 b0, .int .i64 b1]), (Is (.bool lab)), Is (.agg #[.int .i64 a0, .int .i64 a1]), Is (.agg #[.int .i64 b0, .int .i64 b1]), (Is (.bool lab)), Is (.bool true), Is (.bool true), Is (.agg #[.int .i64 p0, .int .i64 p1]), Is (.agg #[.int .i64 a0, .int .i64 a1]), Is (.agg #[.int .i64 b0, .int .i64 b1]), (Is (.bool wi)), Is (.agg #[.int .i64 p0, .int .i64 p1]), Is (.agg #[.int .i64 a0, .int .i64 a1]), (Is (.bool lpa)), Is (.bool (!lpa)), Is (.bool (!lpa)), Is (.agg #[.int .i64 p0, .int .i64 p1]), Is (.agg #[.int .i64 b0, .int .i64 b1]), (Is (.bool lpb)), Is (.bool lpb), Is (.bool (wi == lpb)), Is (.bool (wi == lpb)), Is (.bool (wi == lpb)), Is (.agg #[.int .i64 n0, .int .i64 n1]), Is (.agg #[.int .i64 n0, .int .i64 n1]), Is (.bool true), Is (.bool true), Is (.bool true), Is (.bool nb), Is (.bool nb), Is (.bool true), Is (.bool true), Is (.bool true), (Is (.agg #[.int .i64 (-9223372036854775808), .int .i64 (-9223372036854775808)])), (Is (.agg #[.int .i64 (-9223372036854775808), .int .i64 (-9223372036854775808)])), Is (.bool true), Is (.bool true), Is (.bool true)]) rfl (by decide +kernel) ?_
    refine t_is (.agg #[.int .i64 a0, .int .i64 a1]) rfl rfl rfl rfl (fun W_ hW_ F_ => by have eb_ := (((((((((hk10.on hb15).on hb20).on hb22).on hb25).keep hk30 (by omega)).on hb34).on hb37).keep hk42 (by omega)).on (below_of_drew hW_)); have e0_ := eb_.cellv (i := 0) (v := (.int .i64 a0 : Value)) rfl; have e1_ := eb_.cellv (i := 1) (v := (.int .i64 a1 : Value)) rfl; simp [go_sem, sEv, sLook, nbeq, e0_, e1_, Try.underlying29]) ?_
    refine t_is (.agg #[.int .i64 b0, .int .i64 b1]) rfl rfl rfl rfl (fun W_ hW_ F_ => by have eb_ := ((((((((hk16.on hb20).on hb22).on hb25).keep hk30 (by omega)).on hb34).on hb37).keep hk42 (by omega)).on (below_of_drew hW_)); have e0_ := eb_.cellv (i := 0) (v := (.int .i64 b0 : Value)) rfl; have e1_ := eb_.cellv (i := 1) (v := (.int .i64 b1 : Value)) rfl; simp [go_sem, sEv, sLook, nbeq, e0_, e1_, Try.underlying29]) ?_
    refine t_call (f := 17) (args := #[.agg #[.int .i64 a0, .int .i64 a1], .agg #[.int .i64 b0, .int .i64 b1]]) (Is (.bool lab)) rfl rfl rfl rfl (fun W_ => by simp [go_sem, sEv, sLook, nbeq]) (fun W_ hW_ F_ => ?_) ?_
    · refine (place_Less.calls 3 a0 a1 b0 b1 lab W_ hLf_ab).mono ?_
      rintro e_ w_ ⟨rfl, hd_⟩
      exact ⟨_, rfl, rfl, hd_⟩
    rintro _ rfl
    refine t_is (.agg #[.int .i64 a0, .int .i64 a1]) rfl rfl rfl rfl (fun W_ hW_ F_ => by have eb_ := (((((((((hk10.on hb15).on hb20).on hb22).on hb25).keep hk30 (by omega)).on hb34).on hb37).keep hk42 (by omega)).on (below_of_drew hW_)); have e0_ := eb_.cellv (i := 0) (v := (.int .i64 a0 : Value)) rfl; have e1_ := eb_.cellv (i := 1) (v := (.int .i64 a1 : Value)) rfl; simp [go_sem, sEv, sLook, nbeq, e0_, e1_, Try.underlying29]) ?_
    refine t_is (.agg #[.int .i64 b0, .int .i64 b1]) rfl rfl rfl rfl (fun W_ hW_ F_ => by have eb_ := ((((((((hk16.on hb20).on hb22).on hb25).keep hk30 (by omega)).on hb34).on hb37).keep hk42 (by omega)).on (below_of_drew hW_)); have e0_ := eb_.cellv (i := 0) (v := (.int .i64 b0 : Value)) rfl; have e1_ := eb_.cellv (i := 1) (v := (.int .i64 b1 : Value)) rfl; simp [go_sem, sEv, sLook, nbeq, e0_, e1_, Try.underlying29]) ?_
    refine t_call (f := 21) (args := #[.agg #[.int .i64 a0, .int .i64 a1], .agg #[.int .i64 b0, .int .i64 b1]]) (Is (.bool lab)) rfl rfl rfl rfl (fun W_ => by simp [go_sem, sEv, sLook, nbeq]) (fun W_ hW_ F_ => ?_) ?_
    · refine (estuaryref03_Less.calls a0 a1 b0 b1 lab W_ hLr_ab).mono ?_
      rintro e_ w_ ⟨rfl, hd_⟩
      exact ⟨_, rfl, rfl, hd_⟩
    rintro _ rfl
    refine t_is (.bool true) rfl rfl rfl rfl (fun W_ hW_ F_ => by simp [go_sem, sEv, sLook, nbeq]) ?_
    refine t_is (.bool true) rfl rfl rfl rfl (fun W_ hW_ F_ => rfl) ?_
    refine t_gis (c := true) (.agg #[.int .i64 p0, .int .i64 p1]) rfl rfl rfl rfl rfl rfl rfl (fun W_ hW_ F_ => by have eb_ := ((((((((((hk4.on hb9).on hb15).on hb20).on hb22).on hb25).keep hk30 (by omega)).on hb34).on hb37).keep hk42 (by omega)).on (below_of_drew hW_)); have e0_ := eb_.cellv (i := 0) (v := (.int .i64 p0 : Value)) rfl; have e1_ := eb_.cellv (i := 1) (v := (.int .i64 p1 : Value)) rfl; simp [go_sem, sEv, sLook, nbeq, e0_, e1_, Try.underlying29]) ?_
    refine t_gis (c := true) (.agg #[.int .i64 a0, .int .i64 a1]) rfl rfl rfl rfl rfl rfl rfl (fun W_ hW_ F_ => by have eb_ := (((((((((hk10.on hb15).on hb20).on hb22).on hb25).keep hk30 (by omega)).on hb34).on hb37).keep hk42 (by omega)).on (below_of_drew hW_)); have e0_ := eb_.cellv (i := 0) (v := (.int .i64 a0 : Value)) rfl; have e1_ := eb_.cellv (i := 1) (v := (.int .i64 a1 : Value)) rfl; simp [go_sem, sEv, sLook, nbeq, e0_, e1_, Try.underlying29]) ?_
    refine t_gis (c := true) (.agg #[.int .i64 b0, .int .i64 b1]) rfl rfl rfl rfl rfl rfl rfl (fun W_ hW_ F_ => by have eb_ := ((((((((hk16.on hb20).on hb22).on hb25).keep hk30 (by omega)).on hb34).on hb37).keep hk42 (by omega)).on (below_of_drew hW_)); have e0_ := eb_.cellv (i := 0) (v := (.int .i64 b0 : Value)) rfl; have e1_ := eb_.cellv (i := 1) (v := (.int .i64 b1 : Value)) rfl; simp [go_sem, sEv, sLook, nbeq, e0_, e1_, Try.underlying29]) ?_
    refine t_gcall (c := true) (f := 22) (args := #[.agg #[.int .i64 p0, .int .i64 p1], .agg #[.int .i64 a0, .int .i64 a1], .agg #[.int .i64 b0, .int .i64 b1]]) (Is (.bool wi)) rfl rfl rfl rfl rfl rfl rfl (fun W_ => by simp [go_sem, sEv, sLook, nbeq]) (fun W_ hW_ F_ => ?_) ?_
    · refine (place_Within.calls 3 p0 p1 a0 a1 b0 b1 wi W_ hWi).mono ?_
      rintro e_ w_ ⟨rfl, hd_⟩
      exact ⟨_, rfl, rfl, hd_⟩
    rintro _ rfl
    refine t_gis (c := true) (.agg #[.int .i64 p0, .int .i64 p1]) rfl rfl rfl rfl rfl rfl rfl (fun W_ hW_ F_ => by have eb_ := ((((((((((hk4.on hb9).on hb15).on hb20).on hb22).on hb25).keep hk30 (by omega)).on hb34).on hb37).keep hk42 (by omega)).on (below_of_drew hW_)); have e0_ := eb_.cellv (i := 0) (v := (.int .i64 p0 : Value)) rfl; have e1_ := eb_.cellv (i := 1) (v := (.int .i64 p1 : Value)) rfl; simp [go_sem, sEv, sLook, nbeq, e0_, e1_, Try.underlying29]) ?_
    refine t_gis (c := true) (.agg #[.int .i64 a0, .int .i64 a1]) rfl rfl rfl rfl rfl rfl rfl (fun W_ hW_ F_ => by have eb_ := (((((((((hk10.on hb15).on hb20).on hb22).on hb25).keep hk30 (by omega)).on hb34).on hb37).keep hk42 (by omega)).on (below_of_drew hW_)); have e0_ := eb_.cellv (i := 0) (v := (.int .i64 a0 : Value)) rfl; have e1_ := eb_.cellv (i := 1) (v := (.int .i64 a1 : Value)) rfl; simp [go_sem, sEv, sLook, nbeq, e0_, e1_, Try.underlying29]) ?_
    refine t_gcall (c := true) (f := 21) (args := #[.agg #[.int .i64 p0, .int .i64 p1], .agg #[.int .i64 a0, .int .i64 a1]]) (Is (.bool lpa)) rfl rfl rfl rfl rfl rfl rfl (fun W_ => by simp [go_sem, sEv, sLook, nbeq]) (fun W_ hW_ F_ => ?_) ?_
    · refine (estuaryref03_Less.calls p0 p1 a0 a1 lpa W_ hLr_pa).mono ?_
      rintro e_ w_ ⟨rfl, hd_⟩
      exact ⟨_, rfl, rfl, hd_⟩
    rintro _ rfl
    refine t_gis (c := true) (.bool (!lpa)) rfl rfl rfl rfl rfl rfl rfl (fun W_ hW_ F_ => by simp [go_sem, sEv, sLook, nbeq]) ?_
    refine t_gis (c := true) (.bool (!lpa)) rfl rfl rfl rfl rfl rfl rfl (fun W_ hW_ F_ => rfl) ?_
    refine t_gis (c := !lpa) (.agg #[.int .i64 p0, .int .i64 p1]) rfl rfl rfl (by simp [c45]) rfl rfl rfl (fun W_ hW_ F_ => by have eb_ := ((((((((((hk4.on hb9).on hb15).on hb20).on hb22).on hb25).keep hk30 (by omega)).on hb34).on hb37).keep hk42 (by omega)).on (below_of_drew hW_)); have e0_ := eb_.cellv (i := 0) (v := (.int .i64 p0 : Value)) rfl; have e1_ := eb_.cellv (i := 1) (v := (.int .i64 p1 : Value)) rfl; simp [go_sem, sEv, sLook, nbeq, e0_, e1_, Try.underlying29]) ?_
    refine t_gis (c := !lpa) (.agg #[.int .i64 b0, .int .i64 b1]) rfl rfl rfl (by simp [c45]) rfl rfl rfl (fun W_ hW_ F_ => by have eb_ := ((((((((hk16.on hb20).on hb22).on hb25).keep hk30 (by omega)).on hb34).on hb37).keep hk42 (by omega)).on (below_of_drew hW_)); have e0_ := eb_.cellv (i := 0) (v := (.int .i64 b0 : Value)) rfl; have e1_ := eb_.cellv (i := 1) (v := (.int .i64 b1 : Value)) rfl; simp [go_sem, sEv, sLook, nbeq, e0_, e1_, Try.underlying29]) ?_
    refine t_gcall (c := !lpa) (f := 21) (args := #[.agg #[.int .i64 p0, .int .i64 p1], .agg #[.int .i64 b0, .int .i64 b1]]) (Is (.bool lpb)) rfl rfl rfl (by simp [c45]) rfl rfl rfl (fun W_ => by simp [go_sem, sEv, sLook, nbeq]) (fun W_ hW_ F_ => ?_) ?_
    · refine (estuaryref03_Less.calls p0 p1 b0 b1 lpb W_ hLr_pb).mono ?_
      rintro e_ w_ ⟨rfl, hd_⟩
      exact ⟨_, rfl, rfl, hd_⟩
    rintro _ rfl
    refine t_gis (c := true) (.bool lpb) rfl rfl rfl rfl rfl rfl rfl (fun W_ hW_ F_ => by simp [go_sem, sEv, sLook, nbeq, c45]) ?_
    refine t_gis (c := true) (.bool (wi == lpb)) rfl rfl rfl rfl rfl rfl rfl (fun W_ hW_ F_ => by simp [go_sem, sEv, sLook, nbeq]) ?_
    refine t_is (.bool (wi == lpb)) rfl rfl rfl rfl (fun W_ hW_ F_ => by simp [go_sem, sEv, sLook, nbeq]) ?_
    refine t_is (.bool (wi == lpb)) rfl rfl rfl rfl (fun W_ hW_ F_ => rfl) ?_
    have hq50 : (wi == lpb) = true := by revert c45; rw [hWv]; cases lpa <;> cases lpb <;> simp
    refine t_gis (c := (wi == lpb)) (.agg #[.int .i64 n0, .int .i64 n1]) rfl rfl rfl (by simp [hq50]) rfl rfl rfl (fun W_ hW_ F_ => by have eb_ := ((((hk31.on hb34).on hb37).keep hk42 (by omega)).on (below_of_drew hW_)); have e0_ := eb_.cellv (i := 0) (v := (.int .i64 n0 : Value)) rfl; have e1_ := eb_.cellv (i := 1) (v := (.int .i64 n1 : Value)) rfl; simp [go_sem, sEv, sLook, nbeq, e0_, e1_, Try.underlying29]) ?_
    refine t_gis (c := (wi == lpb)) (.agg #[.int .i64 n0, .int .i64 n1]) rfl rfl rfl (by simp [hq50]) rfl rfl rfl (fun W_ hW_ F_ => by have eb_ := (hk43.on (below_of_drew hW_)); have e0_ := eb_.cellv (i := 0) (v := (.int .i64 n0 : Value)) rfl; have e1_ := eb_.cellv (i := 1) (v := (.int .i64 n1 : Value)) rfl; simp [go_sem, sEv, sLook, nbeq, e0_, e1_, Try.underlying29]) ?_
    refine t_gis (c := (wi == lpb)) (.bool true) rfl rfl rfl (by simp [hq50]) rfl rfl rfl (fun W_ hW_ F_ => by simp [go_sem, sEv, sLook, nbeq, eqA29]) ?_
    refine t_is (.bool true) rfl rfl rfl rfl (fun W_ hW_ F_ => by simp [go_sem, sEv, sLook, nbeq, hq50]) ?_
    refine t_is (.bool true) rfl rfl rfl rfl (fun W_ hW_ F_ => rfl) ?_
    refine t_gis (c := true) (.bool nb) rfl rfl rfl rfl rfl rfl rfl (fun W_ hW_ F_ => rfl) ?_
    refine t_gis (c := true) (.bool nb) rfl rfl rfl rfl rfl rfl rfl (fun W_ hW_ F_ => rfl) ?_
    refine t_gis (c := true) (.bool true) rfl rfl rfl rfl rfl rfl rfl (fun W_ hW_ F_ => by simp [go_sem, sEv, sLook, nbeq]) ?_
    refine t_is (.bool true) rfl rfl rfl rfl (fun W_ hW_ F_ => by simp [go_sem, sEv, sLook, nbeq]) ?_
    refine t_is (.bool true) rfl rfl rfl rfl (fun W_ hW_ F_ => rfl) ?_
    refine t_gcall (c := true) (f := 23) (args := #[]) (Is (.agg #[.int .i64 (-9223372036854775808), .int .i64 (-9223372036854775808)])) rfl rfl rfl rfl rfl rfl rfl (fun W_ => by simp [go_sem, sEv, sLook, nbeq]) (fun W_ hW_ F_ => ?_) ?_
    · refine (place_Least.calls (-9223372036854775808) (-9223372036854775808) W_ hMf).mono ?_
      rintro e_ w_ ⟨rfl, hd_⟩
      exact ⟨_, rfl, rfl, hd_⟩
    rintro _ rfl
    refine t_gcall (c := true) (f := 24) (args := #[]) (Is (.agg #[.int .i64 (-9223372036854775808), .int .i64 (-9223372036854775808)])) rfl rfl rfl rfl rfl rfl rfl (fun W_ => by simp [go_sem, sEv, sLook, nbeq]) (fun W_ hW_ F_ => ?_) ?_
    · refine (estuaryref03_Least.calls (-9223372036854775808) (-9223372036854775808) W_ hMr).mono ?_
      rintro e_ w_ ⟨rfl, hd_⟩
      exact ⟨_, rfl, rfl, hd_⟩
    rintro _ rfl
    refine t_gis (c := true) (.bool true) rfl rfl rfl rfl rfl rfl rfl (fun W_ hW_ F_ => by simp [go_sem, sEv, sLook, nbeq, eqA29]) ?_
    refine t_is (.bool true) rfl rfl rfl rfl (fun W_ hW_ F_ => by simp [go_sem, sEv, sLook, nbeq]) ?_
    refine t_is (.bool true) rfl rfl rfl rfl (fun W_ hW_ F_ => rfl) ?_
    refine t_end ?_
    intro w51 hb52_ F53
    have hb52 := below_of_drew hb52_
    have hs_w51 := hb52.size
    refine w_weaken (G' := [(6, .bool true)]) ⟨rfl, trivial⟩ ?_
    refine w_ret (post_ret1 rfl rfl ?_)
    exact ⟨by rfl, (chain (hk42.below (by omega) (chain (chain (hk30.below (by omega) (chain (chain (chain (chain (chain hb3 hb9) hb15) hb20) hb22) hb25)) hb34) hb37)) hb52)⟩
end Go.Proofs.Ytgedckgkddpkkaa.PPlaceOrders
