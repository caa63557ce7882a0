/- The walk of PlaceShares. -/
import Derived.Test.YtgedckgkddpkkaaPPlaceSharesx3
import Derived.Test.YtgedckgkddpkkaaFlowC
namespace Go.Proofs.Ytgedckgkddpkkaa.PPlaceShares
open Go.RowKit Go.Proofs.YtgedckgkddpkkaaW.PrintWords Go.Proofs.YtgedckgkddpkkaaW.PrintLast Go.Proofs.YtgedckgkddpkkaaW.PrintMore
open Go.Proofs.Ytgedckgkddpkkaa.Flow
set_option linter.unusedVariables false
set_option linter.unusedSimpArgs false

theorem at31 {w : World} {A : Option Addr} {n : Nat} {p : S31} (h : Kd.C k31 w A n [p]) : ∃ ad, A = some ad ∧ w.cell? ad = some (.int .i64 p.f0) ∧ w.cell? ⟨ad.block, ad.off + 1, none⟩ = some (.int .i64 p.f1.f0) ∧ w.cell? ⟨ad.block, ad.off + 2, none⟩ = some (.int .i64 p.f1.f1) := by
  have hn : n = 1 := (Kd.C_len h).symm
  subst hn
  obtain ⟨ad, c, e, _, hK, hc⟩ := row_at h z31 0 (by omega)
  obtain rfl := k31_open hK
  refine ⟨ad, e, ?_, ?_, ?_⟩
  · have := hc 0 _ rfl; simpa [add_zero] using this
  · have := hc 1 _ rfl; simpa [Addr.add] using this
  · have := hc 2 _ rfl; simpa [Addr.add] using this
set_option maxHeartbeats 400000 in
theorem shares_calls (a0 a1 a2 a3 a4 b0 b1 b2 b3 b4 r da db : Int) (p q : S31) (w : World)
   (hal : estuarylaw03_alive.f 3 = some true) (hA : place_Ids.f 3 a0 a1 a2 a3 a4 [r] 3 = some [p]) (hB : place_Ids.f 3 b0 b1 b2 b3 b4 [r] 3 = some [q]) (hr : decide (r < 1) = false)
   (hDa : estuaryref01_Div.f a2 r = some da) (hDb : estuaryref01_Div.f b2 r = some db)
   (hlo : decide (0 ≤ p.f0) = true) (hhi : decide (p.f0 < 3) = true) (hE0 : (a3 == b3) = false → ((p.f0 == q.f0 && ((p.f1.f0 == q.f1.f0 && (p.f1.f1 == q.f1.f1)))) == false) = true) (hE1 : (a3 == b3) = true → ((p.f0 == q.f0 && ((p.f1.f0 == q.f1.f0 && (p.f1.f1 == q.f1.f1)))) == (da == db)) = true) :
    Calls Try.prog 3 #[.agg #[.int .i64 a0, .int .i64 a1, .int .i64 a2, .int .i64 a3, .int .i64 a4], .agg #[.int .i64 b0, .int .i64 b1, .int .i64 b2, .int .i64 b3, .int .i64 b4], .int .i64 r] w fun e w' => e = .returned (.bool true) ∧ Below w.heap.size w w' := by
  have hu23 := Try.underlying23
  have hu29 := Try.underlying29
  have hu31 := Try.underlying31
  refine calls_flow Try.func3 rfl 67 rfl (Nat.le_of_ble_eq_true rfl) [(0, .agg #[.int .i64 a0, .int .i64 a1, .int .i64 a2, .int .i64 a3, .int .i64 a4]), (1, .agg #[.int .i64 b0, .int .i64 b1, .int .i64 b2, .int .i64 b3, .int .i64 b4]), (2, .int .i64 r)] ?_ ?_
  · intro t v h; exact args_look rfl t v h
  refine w_seq ?_
  refine w_region ?_
  refine rw_new (cs := #[.int .i64 a0, .int .i64 a1, .int .i64 a2, .int .i64 a3, .int .i64 a4]) (t := 23) (fun g => .pointer (some ⟨g, 0, none⟩)) rfl rfl rfl rfl (by simp [go_sem, sEv, sLook, nbeq]) ?_
  intro g1 w2 hg6 hz5 hb3 hk4
  have hs_w2 := hb3.size
  refine rw_new (cs := #[.int .i64 b0, .int .i64 b1, .int .i64 b2, .int .i64 b3, .int .i64 b4]) (t := 23) (fun g => .pointer (some ⟨g, 0, none⟩)) rfl rfl rfl rfl (by simp [go_sem, sEv, sLook, nbeq]) ?_
  intro g7 w8 hg12 hz11 hb9 hk10
  have hs_w8 := hb9.size
  refine rw_val (v := .bool false) (w' := w8) rfl rfl rfl rfl rfl ?_
  refine rw_end ?_
  refine w_seq ?_
  refine w_seq ?_
  refine w_region ?_
  refine rw_call rfl rfl rfl rfl (by simp [go_sem, sEv, sLook, nbeq]) (estuarylaw03_alive.calls 3 true _ hal) ?_
  rintro e_ w13 ⟨rfl, hb14⟩
  refine ⟨_, rfl, ?_⟩
  have hs_w13 := hb14.size
  refine rw_val (v := .bool false) (w' := w13) rfl rfl rfl rfl (by simp [go_sem, sEv, sLook, nbeq]) ?_
  refine rw_end ?_
  refine w_cond_f rfl rfl rfl ?_
  refine w_skip ?_
  refine w_seq ?_
  refine w_seq ?_
  refine w_region ?_
  refine rw_val (v := .int .i64 r) (w' := w13) rfl rfl rfl rfl rfl ?_
  refine rw_val (v := .bool (decide (r < 1))) (w' := w13) rfl rfl rfl rfl (by simp [go_sem, sEv, sLook, nbeq]) ?_
  refine rw_end ?_
  refine w_cond_f rfl rfl hr ?_
  refine w_skip ?_
  refine w_seq ?_
  refine w_draw (M := [0, 0, 2, 7, 0, 0, 32, 127, 255, 511]) (ss := [Is (.agg #[.int .i64 a0, .int .i64 a1, .int .i64 a2, .int .i64 a3, .int .i64 a4]), Is (.int .i64 r), LitSpec .i64 [r], (RowSpec k31 31 w13.heap.size [p]), Is (.agg #[.int .i64 b0, .int .i64 b1, .int .i64 b2, .int .i64 b3, .int .i64 b4]), Is (.int .i64 r), LitSpec .i64 [r], (RowSpec k31 31 w13.heap.size [q]), (RowSpec k31 31 w13.heap.size [p]), (RowSpec k31 31 w13.heap.size [q])]) rfl (by decide +kernel) ?_
  refine t_is (.agg #[.int .i64 a0, .int .i64 a1, .int .i64 a2, .int .i64 a3, .int .i64 a4]) rfl rfl rfl rfl (fun W_ hW_ F_ => by have eb_ := (((hk4.on hb9).on hb14).on (below_of_drew hW_)); have e0_ := eb_.cellv (i := 0) (v := (.int .i64 a0 : Value)) rfl; have e1_ := eb_.cellv (i := 1) (v := (.int .i64 a1 : Value)) rfl; have e2_ := eb_.cellv (i := 2) (v := (.int .i64 a2 : Value)) rfl; have e3_ := eb_.cellv (i := 3) (v := (.int .i64 a3 : Value)) rfl; have e4_ := eb_.cellv (i := 4) (v := (.int .i64 a4 : Value)) rfl; simp [go_sem, sEv, sLook, nbeq, e0_, e1_, e2_, e3_, e4_, Try.underlying23]) ?_
  refine t_is (.int .i64 r) rfl rfl rfl rfl (fun W_ hW_ F_ => rfl) ?_
  refine t_val (LitSpec .i64 [r]) rfl rfl rfl rfl (fun W_ hW_ F_ => ?_) ?_
  · exact lit_gives 3 .i64 [r] (by simp) (by simp [go_sem, sEv, sLook, nbeq, nums])
  rintro _ ⟨A15, c16, rfl, hle17⟩
  refine t_call (f := 11) (args := #[.agg #[.int .i64 a0, .int .i64 a1, .int .i64 a2, .int .i64 a3, .int .i64 a4], .slice A15 1 c16, .int .i64 3]) (RowSpec k31 31 w13.heap.size [p]) rfl rfl rfl rfl (fun W_ => by simp [go_sem, sEv, sLook, nbeq]) (fun W_ hW_ F_ => ?_) ?_
  · have hL_ := lit_fact (F_ 2 _ _ rfl rfl)
    refine (place_Ids.calls 3 a0 a1 a2 a3 a4 _ c16 [r] 3 [p] W_ hL_.2.2 hL_.2.1 hA).mono ?_
    rintro e_ w_ ⟨v_, rfl, hR_, hb_⟩
    exact ⟨v_, rfl, Kd.R_lower hR_ (size_le (below_of_drew hW_)), hb_⟩
  rintro _ ⟨A18, c19, rfl, hle20⟩
  refine t_is (.agg #[.int .i64 b0, .int .i64 b1, .int .i64 b2, .int .i64 b3, .int .i64 b4]) rfl rfl rfl rfl (fun W_ hW_ F_ => by have eb_ := ((hk10.on hb14).on (below_of_drew hW_)); have e0_ := eb_.cellv (i := 0) (v := (.int .i64 b0 : Value)) rfl; have e1_ := eb_.cellv (i := 1) (v := (.int .i64 b1 : Value)) rfl; have e2_ := eb_.cellv (i := 2) (v := (.int .i64 b2 : Value)) rfl; have e3_ := eb_.cellv (i := 3) (v := (.int .i64 b3 : Value)) rfl; have e4_ := eb_.cellv (i := 4) (v := (.int .i64 b4 : Value)) rfl; simp [go_sem, sEv, sLook, nbeq, e0_, e1_, e2_, e3_, e4_, Try.underlying23]) ?_
  refine t_is (.int .i64 r) rfl rfl rfl rfl (fun W_ hW_ F_ => rfl) ?_
  refine t_val (LitSpec .i64 [r]) rfl rfl rfl rfl (fun W_ hW_ F_ => ?_) ?_
  · exact lit_gives 3 .i64 [r] (by simp) (by simp [go_sem, sEv, sLook, nbeq, nums])
  rintro _ ⟨A21, c22, rfl, hle23⟩
  refine t_call (f := 11) (args := #[.agg #[.int .i64 b0, .int .i64 b1, .int .i64 b2, .int .i64 b3, .int .i64 b4], .slice A21 1 c22, .int .i64 3]) (RowSpec k31 31 w13.heap.size [q]) rfl rfl rfl rfl (fun W_ => by simp [go_sem, sEv, sLook, nbeq]) (fun W_ hW_ F_ => ?_) ?_
  · have hL_ := lit_fact (F_ 6 _ _ rfl rfl)
    refine (place_Ids.calls 3 b0 b1 b2 b3 b4 _ c22 [r] 3 [q] W_ hL_.2.2 hL_.2.1 hB).mono ?_
    rintro e_ w_ ⟨v_, rfl, hR_, hb_⟩
    exact ⟨v_, rfl, Kd.R_lower hR_ (size_le (below_of_drew hW_)), hb_⟩
  rintro _ ⟨A24, c25, rfl, hle26⟩
  refine t_val (RowSpec k31 31 w13.heap.size [p]) rfl rfl rfl rfl (fun W_ hW_ F_ => ⟨_, _, rfl, F_ 3 _ _ rfl rfl, Below.refl _ _⟩) ?_
  rintro _ ⟨A27, c28, rfl, hle29⟩
  refine t_val (RowSpec k31 31 w13.heap.size [q]) rfl rfl rfl rfl (fun W_ hW_ F_ => ⟨_, _, rfl, F_ 7 _ _ rfl rfl, Below.refl _ _⟩) ?_
  rintro _ ⟨A30, c31, rfl, hle32⟩
  refine t_end ?_
  intro w33 hb34_ F35
  have hb34 := below_of_drew hb34_
  have hs_w33 := hb34.size
  have hRp := F35 8 _ _ rfl
  have hRq := F35 9 _ _ rfl
  refine w_weaken (G' := [(2, .int .i64 r), (3, .pointer (some ⟨g1, 0, none⟩)), (4, .pointer (some ⟨g7, 0, none⟩)), (6, .bool false), (7, .slice A27 1 c28), (8, .slice A30 1 c31)]) ⟨rfl, rfl, rfl, rfl, rfl, rfl, trivial⟩ ?_
  refine w_seq ?_
  refine w_seq ?_
  refine w_region ?_
  obtain ⟨ad36, hA37, he38, he39, he40⟩ := at31 (Kd.R_reads' hRp).2.2 
  subst hA37
  obtain ⟨ad41, hA42, he43, he44, he45⟩ := at31 (Kd.R_reads' hRq).2.2 
  subst hA42
  refine rw_val (v := .slice (some ad36) 1 c28) (w' := w33) rfl rfl rfl rfl rfl ?_
  refine rw_val (v := .int .i64 1) (w' := w33) rfl rfl rfl rfl (by simp [go_sem, sEv, sLook, nbeq]) ?_
  refine rw_val (v := .bool false) (w' := w33) rfl rfl rfl rfl (by simp [go_sem, sEv, sLook, nbeq]) ?_
  refine rw_val (v := .bool false) (w' := w33) rfl rfl rfl rfl rfl ?_
  refine rw_gval (c := false) (v := .slice (some ad41) 1 c31) (w' := w33) rfl rfl rfl rfl rfl rfl rfl (by rfl) ?_
  refine rw_gval (c := false) (v := .int .i64 1) (w' := w33) rfl rfl rfl rfl rfl rfl rfl (by simp [go_sem, sEv, sLook, nbeq]) ?_
  refine rw_gval (c := false) (v := .bool false) (w' := w33) rfl rfl rfl rfl rfl rfl rfl (by simp [go_sem, sEv, sLook, nbeq]) ?_
  refine rw_val (v := .bool false) (w' := w33) rfl rfl rfl rfl (by simp [go_sem, sEv, sLook, nbeq]) ?_
  refine rw_end ?_
  refine w_weaken (G' := [(2, .int .i64 r), (3, .pointer (some ⟨g1, 0, none⟩)), (4, .pointer (some ⟨g7, 0, none⟩)), (6, .bool false), (7, .slice (some ad36) 1 c28), (8, .slice (some ad41) 1 c31), (28, .bool false)]) ⟨rfl, rfl, rfl, rfl, rfl, rfl, rfl, trivial⟩ ?_
  refine w_cond_f rfl rfl rfl ?_
  refine w_skip ?_
  refine w_seq ?_
  rcases bcase (a3 == b3) with c46 | c46
  · refine w_draw (M := [0, 1, 3, 0, 8, 24, 63, 0, 128, 0, 512, 1920, 3968, 8064, 16256, 8064, 65408, 8064, 139136, 8064, 1048448, 2097024, 4194176, 8388607, 16777215, 33554431, 67108863, 134217727, 268435455, 536870911, 1073741823, 2147483647, 4294967295, 8589934591, 17179869183, 34359738367, 68719476735, 137438953471, 274877906943]) (ss := [Is (.slice (some ad36) 1 c28), Is (.pointer (some (ad36))), Is (.agg #[.int .i64 p.f0, .int .i64 p.f1.f0, .int .i64 p.f1.f1]), Is (.slice (some ad41) 1 c31), Is (.pointer (some (ad41))), Is (.agg #[.int .i64 q.f0, .int .i64 q.f1.f0, .int .i64 q.f1.f1]), Is (.bool (p.f0 == q.f0 && ((p.f1.f0 == q.f1.f0 && (p.f1.f1 == q.f1.f1))))), Is (.pointer (some ⟨g1, 3, none⟩)), Is (.int .i64 a3), Is (.pointer (some ⟨g7, 3, none⟩)), Is (.int .i64 b3), Is (.bool (a3 == b3)), Is (.bool (a3 == b3)), Is undef, Is undef, Is undef, Is undef, Is undef, Is undef, Is undef, Is undef, Is undef, Is (.bool false), Is (.bool ((p.f0 == q.f0 && ((p.f1.f0 == q.f1.f0 && (p.f1.f1 == q.f1.f1)))) == false)), Is (.bool ((p.f0 == q.f0 && ((p.f1.f0 == q.f1.f0 && (p.f1.f1 == q.f1.f1)))) == false)), Is (.slice (some ad36) 1 c28), Is (.pointer (some (ad36))), Is (.pointer (some (ad36))), Is (.int .i64 p.f0), Is (.bool (decide (0 ≤ p.f0))), Is (.bool (decide (0 ≤ p.f0))), Is (.bool (decide (0 ≤ p.f0))), Is (.slice (some ad36) 1 c28), Is (.pointer (some (ad36))), Is (.pointer (some (ad36))), Is (.int .i64 p.f0), Is (.bool (decide (p.f0 < 3))), Is (.bool (decide (p.f0 < 3))), Is (.bool (decide (p.f0 < 3)))]) rfl (by decide +kernel) ?_
    refine t_is (.slice (some ad36) 1 c28) rfl rfl rfl rfl (fun W_ hW_ F_ => rfl) ?_
    refine t_is (.pointer (some (ad36))) rfl rfl rfl rfl (fun W_ hW_ F_ => by simp [go_sem, sEv, sLook, nbeq, Try.underlying25]) ?_
    refine t_is (.agg #[.int .i64 p.f0, .int .i64 p.f1.f0, .int .i64 p.f1.f1]) rfl rfl rfl rfl (fun W_ hW_ F_ => by have e0_ := cellOn he38 (below_of_drew hW_); have e1_ := cellOn he39 (below_of_drew hW_); have e2_ := cellOn he40 (below_of_drew hW_); simp [go_sem, sEv, sLook, nbeq, e0_, e1_, e2_, Try.underlying31]) ?_
    refine t_is (.slice (some ad41) 1 c31) rfl rfl rfl rfl (fun W_ hW_ F_ => rfl) ?_
    refine t_is (.pointer (some (ad41))) rfl rfl rfl rfl (fun W_ hW_ F_ => by simp [go_sem, sEv, sLook, nbeq, Try.underlying25]) ?_
    refine t_is (.agg #[.int .i64 q.f0, .int .i64 q.f1.f0, .int .i64 q.f1.f1]) rfl rfl rfl rfl (fun W_ hW_ F_ => by have e0_ := cellOn he43 (below_of_drew hW_); have e1_ := cellOn he44 (below_of_drew hW_); have e2_ := cellOn he45 (below_of_drew hW_); simp [go_sem, sEv, sLook, nbeq, e0_, e1_, e2_, Try.underlying31]) ?_
    refine t_is (.bool (p.f0 == q.f0 && ((p.f1.f0 == q.f1.f0 && (p.f1.f1 == q.f1.f1))))) rfl rfl rfl rfl (fun W_ hW_ F_ => by simp [go_sem, sEv, sLook, nbeq, eqA31]) ?_
    refine t_is (.pointer (some ⟨g1, 3, none⟩)) rfl rfl rfl rfl (fun W_ hW_ F_ => by simp [go_sem, sEv, sLook, nbeq, Try.underlying23]) ?_
    refine t_is (.int .i64 a3) rfl rfl rfl rfl (fun W_ hW_ F_ => by have eb_ := ((((hk4.on hb9).on hb14).on hb34).on (below_of_drew hW_)); have e0_ := eb_.cellv (i := 3) (v := (.int .i64 a3 : Value)) rfl; simp [go_sem, sEv, sLook, nbeq, e0_]) ?_
    refine t_is (.pointer (some ⟨g7, 3, none⟩)) rfl rfl rfl rfl (fun W_ hW_ F_ => by simp [go_sem, sEv, sLook, nbeq, Try.underlying23]) ?_
    refine t_is (.int .i64 b3) rfl rfl rfl rfl (fun W_ hW_ F_ => by have eb_ := (((hk10.on hb14).on hb34).on (below_of_drew hW_)); have e0_ := eb_.cellv (i := 3) (v := (.int .i64 b3 : Value)) rfl; simp [go_sem, sEv, sLook, nbeq, e0_]) ?_
    refine t_is (.bool (a3 == b3)) rfl rfl rfl rfl (fun W_ hW_ F_ => by simp [go_sem, sEv, sLook, nbeq]) ?_
    refine t_is (.bool (a3 == b3)) rfl rfl rfl rfl (fun W_ hW_ F_ => rfl) ?_
    refine t_off (c := (a3 == b3)) rfl rfl rfl (by simp [c46]) rfl rfl ?_
    refine t_off (c := (a3 == b3)) rfl rfl rfl (by simp [c46]) rfl rfl ?_
    refine t_off (c := (a3 == b3)) rfl rfl rfl (by simp [c46]) rfl rfl ?_
    refine t_off (c := (a3 == b3)) rfl rfl rfl (by simp [c46]) rfl rfl ?_
    refine t_off (c := (a3 == b3)) rfl rfl rfl (by simp [c46]) rfl rfl ?_
    refine t_off (c := (a3 == b3)) rfl rfl rfl (by simp [c46]) rfl rfl ?_
    refine t_off (c := (a3 == b3)) rfl rfl rfl (by simp [c46]) rfl rfl ?_
    refine t_off (c := (a3 == b3)) rfl rfl rfl (by simp [c46]) rfl rfl ?_
    refine t_off (c := (a3 == b3)) rfl rfl rfl (by simp [c46]) rfl rfl ?_
    refine t_is (.bool false) rfl rfl rfl rfl (fun W_ hW_ F_ => by simp [go_sem, sEv, sLook, nbeq, c46]) ?_
    refine t_is (.bool ((p.f0 == q.f0 && ((p.f1.f0 == q.f1.f0 && (p.f1.f1 == q.f1.f1)))) == false)) rfl rfl rfl rfl (fun W_ hW_ F_ => by first | (simp [go_sem, sEv, sLook, nbeq]; done) | (simp [go_sem, sEv, sLook, nbeq] <;> cases h0_ : (p.f0 == q.f0 && ((p.f1.f0 == q.f1.f0 && (p.f1.f1 == q.f1.f1)))) <;> rfl)) ?_
    refine t_is (.bool ((p.f0 == q.f0 && ((p.f1.f0 == q.f1.f0 && (p.f1.f1 == q.f1.f1)))) == false)) rfl rfl rfl rfl (fun W_ hW_ F_ => rfl) ?_
    refine t_gis (c := ((p.f0 == q.f0 && ((p.f1.f0 == q.f1.f0 && (p.f1.f1 == q.f1.f1)))) == false)) (.slice (some ad36) 1 c28) rfl rfl rfl (by simp [(hE0 c46)]) rfl rfl rfl (fun W_ hW_ F_ => rfl) ?_
    refine t_gis (c := ((p.f0 == q.f0 && ((p.f1.f0 == q.f1.f0 && (p.f1.f1 == q.f1.f1)))) == false)) (.pointer (some (ad36))) rfl rfl rfl (by simp [(hE0 c46)]) rfl rfl rfl (fun W_ hW_ F_ => by simp [go_sem, sEv, sLook, nbeq, Try.underlying25]) ?_
    refine t_gis (c := ((p.f0 == q.f0 && ((p.f1.f0 == q.f1.f0 && (p.f1.f1 == q.f1.f1)))) == false)) (.pointer (some (ad36))) rfl rfl rfl (by simp [(hE0 c46)]) rfl rfl rfl (fun W_ hW_ F_ => by simp [go_sem, sEv, sLook, nbeq, Try.underlying31]) ?_
    refine t_gis (c := ((p.f0 == q.f0 && ((p.f1.f0 == q.f1.f0 && (p.f1.f1 == q.f1.f1)))) == false)) (.int .i64 p.f0) rfl rfl rfl (by simp [(hE0 c46)]) rfl rfl rfl (fun W_ hW_ F_ => by have e0_ := cellOn he38 (below_of_drew hW_); simp [go_sem, sEv, sLook, nbeq, e0_]) ?_
    refine t_gis (c := ((p.f0 == q.f0 && ((p.f1.f0 == q.f1.f0 && (p.f1.f1 == q.f1.f1)))) == false)) (.bool (decide (0 ≤ p.f0))) rfl rfl rfl (by simp [(hE0 c46)]) rfl rfl rfl (fun W_ hW_ F_ => by simp [go_sem, sEv, sLook, nbeq]) ?_
    refine t_is (.bool (decide (0 ≤ p.f0))) rfl rfl rfl rfl (fun W_ hW_ F_ => by simp [go_sem, sEv, sLook, nbeq, (hE0 c46)]) ?_
    refine t_is (.bool (decide (0 ≤ p.f0))) rfl rfl rfl rfl (fun W_ hW_ F_ => rfl) ?_
    refine t_gis (c := decide (0 ≤ p.f0)) (.slice (some ad36) 1 c28) rfl rfl rfl (by simp [hlo]) rfl rfl rfl (fun W_ hW_ F_ => rfl) ?_
    refine t_gis (c := decide (0 ≤ p.f0)) (.pointer (some (ad36))) rfl rfl rfl (by simp [hlo]) rfl rfl rfl (fun W_ hW_ F_ => by simp [go_sem, sEv, sLook, nbeq, Try.underlying25]) ?_
    refine t_gis (c := decide (0 ≤ p.f0)) (.pointer (some (ad36))) rfl rfl rfl (by simp [hlo]) rfl rfl rfl (fun W_ hW_ F_ => by simp [go_sem, sEv, sLook, nbeq, Try.underlying31]) ?_
    refine t_gis (c := decide (0 ≤ p.f0)) (.int .i64 p.f0) rfl rfl rfl (by simp [hlo]) rfl rfl rfl (fun W_ hW_ F_ => by have e0_ := cellOn he38 (below_of_drew hW_); simp [go_sem, sEv, sLook, nbeq, e0_]) ?_
    refine t_gis (c := decide (0 ≤ p.f0)) (.bool (decide (p.f0 < 3))) rfl rfl rfl (by simp [hlo]) rfl rfl rfl (fun W_ hW_ F_ => by simp [go_sem, sEv, sLook, nbeq]) ?_
    refine t_is (.bool (decide (p.f0 < 3))) rfl rfl rfl rfl (fun W_ hW_ F_ => by simp [go_sem, sEv, sLook, nbeq, hlo]) ?_
    refine t_is (.bool (decide (p.f0 < 3))) rfl rfl rfl rfl (fun W_ hW_ F_ => rfl) ?_
    refine t_end ?_
    intro w47 hb48_ F49
    have hb48 := below_of_drew hb48_
    have hs_w47 := hb48.size
    refine w_weaken (G' := [(6, .bool (decide (p.f0 < 3)))]) ⟨rfl, trivial⟩ ?_
    refine w_ret (post_ret1 rfl rfl ?_)
    exact ⟨by rw [hhi], (chain (chain (chain (chain hb3 hb9) hb14) hb34) hb48)⟩
  · refine w_draw (M := [0, 1, 3, 0, 8, 24, 63, 0, 128, 0, 512, 1920, 3968, 8064, 16256, 8064, 65408, 8064, 139136, 8064, 1048448, 2097024, 4194176, 8388607, 16777215, 33554431, 67108863, 134217727, 268435455, 536870911, 1073741823, 2147483647, 4294967295, 8589934591, 17179869183, 34359738367, 68719476735, 137438953471, 274877906943]) (ss := [Is (.slice (some ad36) 1 c28), Is (.pointer (some (ad36))), Is (.agg #[.int .i64 p.f0, .int .i64 p.f1.f0, .int .i64 p.f1.f1]), Is (.slice (some ad41) 1 c31), Is (.pointer (some (ad41))), Is (.agg #[.int .i64 q.f0, .int .i64 q.f1.f0, .int .i64 q.f1.f1]), Is (.bool (p.f0 == q.f0 && ((p.f1.f0 == q.f1.f0 && (p.f1.f1 == q.f1.f1))))), Is (.pointer (some ⟨g1, 3, none⟩)), Is (.int .i64 a3), Is (.pointer (some ⟨g7, 3, none⟩)), Is (.int .i64 b3), Is (.bool (a3 == b3)), Is (.bool (a3 == b3)), Is (.pointer (some ⟨g1, 2, none⟩)), Is (.int .i64 a2), Is (.int .i64 r), (Is (.int .i64 da)), Is (.pointer (some ⟨g7, 2, none⟩)), Is (.int .i64 b2), Is (.int .i64 r), (Is (.int .i64 db)), Is (.bool (da == db)), Is (.bool (da == db)), Is (.bool ((p.f0 == q.f0 && ((p.f1.f0 == q.f1.f0 && (p.f1.f1 == q.f1.f1)))) == (da == db))), Is (.bool ((p.f0 == q.f0 && ((p.f1.f0 == q.f1.f0 && (p.f1.f1 == q.f1.f1)))) == (da == db))), Is (.slice (some ad36) 1 c28), Is (.pointer (some (ad36))), Is (.pointer (some (ad36))), Is (.int .i64 p.f0), Is (.bool (decide (0 ≤ p.f0))), Is (.bool (decide (0 ≤ p.f0))), Is (.bool (decide (0 ≤ p.f0))), Is (.slice (some ad36) 1 c28), Is (.pointer (some (ad36))), Is (.pointer (some (ad36))), Is (.int .i64 p.f0), Is (.bool (decide (p.f0 < 3))), Is (.bool (decide (p.f0 < 3))), Is (.bool (decide (p.f0 < 3)))]) rfl (by decide +kernel) ?_
    refine t_is (.slice (some ad36) 1 c28) rfl rfl rfl rfl (fun W_ hW_ F_ => rfl) ?_
    refine t_is (.pointer (some (ad36))) rfl rfl rfl rfl (fun W_ hW_ F_ => by simp [go_sem, sEv, sLook, nbeq, Try.underlying25]) ?_
    refine t_is (.agg #[.int .i64 p.f0, .int .i64 p.f1.f0, .int .i64 p.f1.f1]) rfl rfl rfl rfl (fun W_ hW_ F_ => by have e0_ := cellOn he38 (below_of_drew hW_); have e1_ := cellOn he39 (below_of_drew hW_); have e2_ := cellOn he40 (below_of_drew hW_); simp [go_sem, sEv, sLook, nbeq, e0_, e1_, e2_, Try.underlying31]) ?_
    refine t_is (.slice (some ad41) 1 c31) rfl rfl rfl rfl (fun W_ hW_ F_ => rfl) ?_
    refine t_is (.pointer (some (ad41))) rfl rfl rfl rfl (fun W_ hW_ F_ => by simp [go_sem, sEv, sLook, nbeq, Try.underlying25]) ?_
    refine t_is (.agg #[.int .i64 q.f0, .int .i64 q.f1.f0, .int .i64 q.f1.f1]) rfl rfl rfl rfl (fun W_ hW_ F_ => by have e0_ := cellOn he43 (below_of_drew hW_); have e1_ := cellOn he44 (below_of_drew hW_); have e2_ := cellOn he45 (below_of_drew hW_); simp [go_sem, sEv, sLook, nbeq, e0_, e1_, e2_, Try.underlying31]) ?_
    refine t_is (.bool (p.f0 == q.f0 && ((p.f1.f0 == q.f1.f0 && (p.f1.f1 == q.f1.f1))))) rfl rfl rfl rfl (fun W_ hW_ F_ => by simp [go_sem, sEv, sLook, nbeq, eqA31]) ?_
    refine t_is (.pointer (some ⟨g1, 3, none⟩)) rfl rfl rfl rfl (fun W_ hW_ F_ => by simp [go_sem, sEv, sLook, nbeq, Try.underlying23]) ?_
    refine t_is (.int .i64 a3) rfl rfl rfl rfl (fun W_ hW_ F_ => by have eb_ := ((((hk4.on hb9).on hb14).on hb34).on (below_of_drew hW_)); have e0_ := eb_.cellv (i := 3) (v := (.int .i64 a3 : Value)) rfl; simp [go_sem, sEv, sLook, nbeq, e0_]) ?_
    refine t_is (.pointer (some ⟨g7, 3, none⟩)) rfl rfl rfl rfl (fun W_ hW_ F_ => by simp [go_sem, sEv, sLook, nbeq, Try.underlying23]) ?_
    refine t_is (.int .i64 b3) rfl rfl rfl rfl (fun W_ hW_ F_ => by have eb_ := (((hk10.on hb14).on hb34).on (below_of_drew hW_)); have e0_ := eb_.cellv (i := 3) (v := (.int .i64 b3 : Value)) rfl; simp [go_sem, sEv, sLook, nbeq, e0_]) ?_
    refine t_is (.bool (a3 == b3)) rfl rfl rfl rfl (fun W_ hW_ F_ => by simp [go_sem, sEv, sLook, nbeq]) ?_
    refine t_is (.bool (a3 == b3)) rfl rfl rfl rfl (fun W_ hW_ F_ => rfl) ?_
    refine t_gis (c := (a3 == b3)) (.pointer (some ⟨g1, 2, none⟩)) rfl rfl rfl (by simp [c46]) rfl rfl rfl (fun W_ hW_ F_ => by simp [go_sem, sEv, sLook, nbeq, Try.underlying23]) ?_
    refine t_gis (c := (a3 == b3)) (.int .i64 a2) rfl rfl rfl (by simp [c46]) rfl rfl rfl (fun W_ hW_ F_ => by have eb_ := ((((hk4.on hb9).on hb14).on hb34).on (below_of_drew hW_)); have e0_ := eb_.cellv (i := 2) (v := (.int .i64 a2 : Value)) rfl; simp [go_sem, sEv, sLook, nbeq, e0_]) ?_
    refine t_gis (c := (a3 == b3)) (.int .i64 r) rfl rfl rfl (by simp [c46]) rfl rfl rfl (fun W_ hW_ F_ => rfl) ?_
    refine t_gcall (c := (a3 == b3)) (f := 12) (args := #[.int .i64 a2, .int .i64 r]) (Is (.int .i64 da)) rfl rfl rfl (by simp [c46]) rfl rfl rfl (fun W_ => by simp [go_sem, sEv, sLook, nbeq]) (fun W_ hW_ F_ => ?_) ?_
    · refine (estuaryref01_Div.calls a2 r da W_ hDa).mono ?_
      rintro e_ w_ ⟨rfl, hd_⟩
      exact ⟨_, rfl, rfl, hd_.below⟩
    rintro _ rfl
    refine t_gis (c := (a3 == b3)) (.pointer (some ⟨g7, 2, none⟩)) rfl rfl rfl (by simp [c46]) rfl rfl rfl (fun W_ hW_ F_ => by simp [go_sem, sEv, sLook, nbeq, Try.underlying23]) ?_
    refine t_gis (c := (a3 == b3)) (.int .i64 b2) rfl rfl rfl (by simp [c46]) rfl rfl rfl (fun W_ hW_ F_ => by have eb_ := (((hk10.on hb14).on hb34).on (below_of_drew hW_)); have e0_ := eb_.cellv (i := 2) (v := (.int .i64 b2 : Value)) rfl; simp [go_sem, sEv, sLook, nbeq, e0_]) ?_
    refine t_gis (c := (a3 == b3)) (.int .i64 r) rfl rfl rfl (by simp [c46]) rfl rfl rfl (fun W_ hW_ F_ => rfl) ?_
    refine t_gcall (c := (a3 == b3)) (f := 12) (args := #[.int .i64 b2, .int .i64 r]) (Is (.int .i64 db)) rfl rfl rfl (by simp [c46]) rfl rfl rfl (fun W_ => by simp [go_sem, sEv, sLook, nbeq]) (fun W_ hW_ F_ => ?_) ?_
    · refine (estuaryref01_Div.calls b2 r db W_ hDb).mono ?_
      rintro e_ w_ ⟨rfl, hd_⟩
      exact ⟨_, rfl, rfl, hd_.below⟩
    rintro _ rfl
    refine t_gis (c := (a3 == b3)) (.bool (da == db)) rfl rfl rfl (by simp [c46]) rfl rfl rfl (fun W_ hW_ F_ => by simp [go_sem, sEv, sLook, nbeq]) ?_
    refine t_is (.bool (da == db)) rfl rfl rfl rfl (fun W_ hW_ F_ => by simp [go_sem, sEv, sLook, nbeq, c46]) ?_
    refine t_is (.bool ((p.f0 == q.f0 && ((p.f1.f0 == q.f1.f0 && (p.f1.f1 == q.f1.f1)))) == (da == db))) rfl rfl rfl rfl (fun W_ hW_ F_ => by first | (simp [go_sem, sEv, sLook, nbeq]; done) | (simp [go_sem, sEv, sLook, nbeq] <;> cases h0_ : (p.f0 == q.f0 && ((p.f1.f0 == q.f1.f0 && (p.f1.f1 == q.f1.f1)))) <;> cases h1_ : (da == db) <;> rfl)) ?_
    refine t_is (.bool ((p.f0 == q.f0 && ((p.f1.f0 == q.f1.f0 && (p.f1.f1 == q.f1.f1)))) == (da == db))) rfl rfl rfl rfl (fun W_ hW_ F_ => rfl) ?_
    refine t_gis (c := ((p.f0 == q.f0 && ((p.f1.f0 == q.f1.f0 && (p.f1.f1 == q.f1.f1)))) == (da == db))) (.slice (some ad36) 1 c28) rfl rfl rfl (by simp [(hE1 c46)]) rfl rfl rfl (fun W_ hW_ F_ => rfl) ?_
    refine t_gis (c := ((p.f0 == q.f0 && ((p.f1.f0 == q.f1.f0 && (p.f1.f1 == q.f1.f1)))) == (da == db))) (.pointer (some (ad36))) rfl rfl rfl (by simp [(hE1 c46)]) rfl rfl rfl (fun W_ hW_ F_ => by simp [go_sem, sEv, sLook, nbeq, Try.underlying25]) ?_
    refine t_gis (c := ((p.f0 == q.f0 && ((p.f1.f0 == q.f1.f0 && (p.f1.f1 == q.f1.f1)))) == (da == db))) (.pointer (some (ad36))) rfl rfl rfl (by simp [(hE1 c46)]) rfl rfl rfl (fun W_ hW_ F_ => by simp [go_sem, sEv, sLook, nbeq, Try.underlying31]) ?_
    refine t_gis (c := ((p.f0 == q.f0 && ((p.f1.f0 == q.f1.f0 && (p.f1.f1 == q.f1.f1)))) == (da == db))) (.int .i64 p.f0) rfl rfl rfl (by simp [(hE1 c46)]) rfl rfl rfl (fun W_ hW_ F_ => by have e0_ := cellOn he38 (below_of_drew hW_); simp [go_sem, sEv, sLook, nbeq, e0_]) ?_
    refine t_gis (c := ((p.f0 == q.f0 && ((p.f1.f0 == q.f1.f0 && (p.f1.f1 == q.f1.f1)))) == (da == db))) (.bool (decide (0 ≤ p.f0))) rfl rfl rfl (by simp [(hE1 c46)]) rfl rfl rfl (fun W_ hW_ F_ => by simp [go_sem, sEv, sLook, nbeq]) ?_
    refine t_is (.bool (decide (0 ≤ p.f0))) rfl rfl rfl rfl (fun W_ hW_ F_ => by simp [go_sem, sEv, sLook, nbeq, (hE1 c46)]) ?_
    refine t_is (.bool (decide (0 ≤ p.f0))) rfl rfl rfl rfl (fun W_ hW_ F_ => rfl) ?_
    refine t_gis (c := decide (0 ≤ p.f0)) (.slice (some ad36) 1 c28) rfl rfl rfl (by simp [hlo]) rfl rfl rfl (fun W_ hW_ F_ => rfl) ?_
    refine t_gis (c := decide (0 ≤ p.f0)) (.pointer (some (ad36))) rfl rfl rfl (by simp [hlo]) rfl rfl rfl (fun W_ hW_ F_ => by simp [go_sem, sEv, sLook, nbeq, Try.underlying25]) ?_
    refine t_gis (c := decide (0 ≤ p.f0)) (.pointer (some (ad36))) rfl rfl rfl (by simp [hlo]) rfl rfl rfl (fun W_ hW_ F_ => by simp [go_sem, sEv, sLook, nbeq, Try.underlying31]) ?_
    refine t_gis (c := decide (0 ≤ p.f0)) (.int .i64 p.f0) rfl rfl rfl (by simp [hlo]) rfl rfl rfl (fun W_ hW_ F_ => by have e0_ := cellOn he38 (below_of_drew hW_); simp [go_sem, sEv, sLook, nbeq, e0_]) ?_
    refine t_gis (c := decide (0 ≤ p.f0)) (.bool (decide (p.f0 < 3))) rfl rfl rfl (by simp [hlo]) rfl rfl rfl (fun W_ hW_ F_ => by simp [go_sem, sEv, sLook, nbeq]) ?_
    refine t_is (.bool (decide (p.f0 < 3))) rfl rfl rfl rfl (fun W_ hW_ F_ => by simp [go_sem, sEv, sLook, nbeq, hlo]) ?_
    refine t_is (.bool (decide (p.f0 < 3))) rfl rfl rfl rfl (fun W_ hW_ F_ => rfl) ?_
    refine t_end ?_
    intro w50 hb51_ F52
    have hb51 := below_of_drew hb51_
    have hs_w50 := hb51.size
    refine w_weaken (G' := [(6, .bool (decide (p.f0 < 3)))]) ⟨rfl, trivial⟩ ?_
    refine w_ret (post_ret1 rfl rfl ?_)
    exact ⟨by rw [hhi], (chain (chain (chain (chain hb3 hb9) hb14) hb34) hb51)⟩
theorem shares_calls_low (a0 a1 a2 a3 a4 b0 b1 b2 b3 b4 r : Int) (w : World)
   (hal : estuarylaw03_alive.f 3 = some true) (hr : decide (r < 1) = true) :
    Calls Try.prog 3 #[.agg #[.int .i64 a0, .int .i64 a1, .int .i64 a2, .int .i64 a3, .int .i64 a4], .agg #[.int .i64 b0, .int .i64 b1, .int .i64 b2, .int .i64 b3, .int .i64 b4], .int .i64 r] w fun e w' => e = .returned (.bool true) ∧ Below w.heap.size w w' := by
  refine calls_flow Try.func3 rfl 67 rfl (Nat.le_of_ble_eq_true rfl) [(0, .agg #[.int .i64 a0, .int .i64 a1, .int .i64 a2, .int .i64 a3, .int .i64 a4]), (1, .agg #[.int .i64 b0, .int .i64 b1, .int .i64 b2, .int .i64 b3, .int .i64 b4]), (2, .int .i64 r)] ?_ ?_
  · intro t v h; exact args_look rfl t v h
  refine w_seq ?_
  refine w_region ?_
  refine rw_new (cs := #[.int .i64 a0, .int .i64 a1, .int .i64 a2, .int .i64 a3, .int .i64 a4]) (t := 23) (fun g => .pointer (some ⟨g, 0, none⟩)) rfl rfl rfl rfl (by simp [go_sem, sEv, sLook, nbeq]) ?_
  intro g1 w2 hg6 hz5 hb3 hk4
  have hs_w2 := hb3.size
  refine rw_new (cs := #[.int .i64 b0, .int .i64 b1, .int .i64 b2, .int .i64 b3, .int .i64 b4]) (t := 23) (fun g => .pointer (some ⟨g, 0, none⟩)) rfl rfl rfl rfl (by simp [go_sem, sEv, sLook, nbeq]) ?_
  intro g7 w8 hg12 hz11 hb9 hk10
  have hs_w8 := hb9.size
  refine rw_val (v := .bool false) (w' := w8) rfl rfl rfl rfl rfl ?_
  refine rw_end ?_
  refine w_seq ?_
  refine w_seq ?_
  refine w_region ?_
  refine rw_call rfl rfl rfl rfl (by simp [go_sem, sEv, sLook, nbeq]) (estuarylaw03_alive.calls 3 true _ hal) ?_
  rintro e_ w13 ⟨rfl, hb14⟩
  refine ⟨_, rfl, ?_⟩
  have hs_w13 := hb14.size
  refine rw_val (v := .bool false) (w' := w13) rfl rfl rfl rfl (by simp [go_sem, sEv, sLook, nbeq]) ?_
  refine rw_end ?_
  refine w_cond_f rfl rfl rfl ?_
  refine w_skip ?_
  refine w_seq ?_
  refine w_seq ?_
  refine w_region ?_
  refine rw_val (v := .int .i64 r) (w' := w13) rfl rfl rfl rfl rfl ?_
  refine rw_val (v := .bool (decide (r < 1))) (w' := w13) rfl rfl rfl rfl (by simp [go_sem, sEv, sLook, nbeq]) ?_
  refine rw_end ?_
  refine w_cond_t rfl rfl hr ?_
  refine w_seq ?_
  refine w_region ?_
  refine rw_val (v := .bool true) (w' := w13) rfl rfl rfl rfl rfl ?_
  refine rw_end ?_
  refine w_ret (post_ret1 rfl rfl ?_)
  exact ⟨rfl, (chain (chain hb3 hb9) hb14)⟩
end Go.Proofs.Ytgedckgkddpkkaa.PPlaceShares
