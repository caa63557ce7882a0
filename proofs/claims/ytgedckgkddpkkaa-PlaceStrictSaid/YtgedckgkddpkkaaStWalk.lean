/- The walk of PlaceStrict. -/
import Derived.Test.YtgedckgkddpkkaaStPure
import Derived.Test.YtgedckgkddpkkaaFlowC
namespace Go.Proofs.Ytgedckgkddpkkaa.PPlaceOrders
open Go.RowKit Go.Proofs.YtgedckgkddpkkaaW.PrintWords Go.Proofs.YtgedckgkddpkkaaW.PrintLast Go.Proofs.YtgedckgkddpkkaaW.PrintMore
open Go.Proofs.Ytgedckgkddpkkaa.Flow
set_option linter.unusedVariables false
set_option linter.unusedSimpArgs false

theorem s_zero : (1 : Nat) = 1 := rfl
set_option maxHeartbeats 4000000 in
theorem strict_calls (p0 p1 a0 a1 b0 b1 n0 n1 : Int) (nb : Bool) (hn : nxt p0 p1 = (n0, n1, nb)) (hp0 : -9223372036854775808 ≤ p0 ∧ p0 ≤ 9223372036854775807) (hp1 : -9223372036854775808 ≤ p1 ∧ p1 ≤ 9223372036854775807) (ha0 : -9223372036854775808 ≤ a0 ∧ a0 ≤ 9223372036854775807) (ha1 : -9223372036854775808 ≤ a1 ∧ a1 ≤ 9223372036854775807) (w : World) :
    Calls Try.prog 7 #[.agg #[.int .i64 p0, .int .i64 p1], .agg #[.int .i64 a0, .int .i64 a1], .agg #[.int .i64 b0, .int .i64 b1]] w fun e w' => e = .returned (.bool true) ∧ Below w.heap.size w w' := by
  refine calls_flow Try.func7 rfl 93 rfl (Nat.le_of_ble_eq_true rfl) [(0, .agg #[.int .i64 p0, .int .i64 p1]), (1, .agg #[.int .i64 a0, .int .i64 a1]), (2, .agg #[.int .i64 b0, .int .i64 b1])] ?_ ?_
  · intro t v h; exact args_look rfl t v h
  refine w_seq ?_
  refine w_region ?_
  refine rw_new (cs := #[.int .i64 p0, .int .i64 p1]) (t := 29) (fun g => .pointer (some ⟨g, 0, none⟩)) rfl rfl rfl rfl (by simp [go_sem, sEv, sLook, nbeq]) ?_
  intro g1 w2 hg6 hz5 hb3 hk4
  have hs_w2 := hb3.size
  refine rw_new (cs := #[.int .i64 a0, .int .i64 a1]) (t := 29) (fun g => .pointer (some ⟨g, 0, none⟩)) rfl rfl rfl rfl (by simp [go_sem, sEv, sLook, nbeq]) ?_
  intro g7 w8 hg12 hz11 hb9 hk10
  have hs_w8 := hb9.size
  refine rw_new (cs := #[.int .i64 b0, .int .i64 b1]) (t := 29) (fun g => .pointer (some ⟨g, 0, none⟩)) rfl rfl rfl rfl (by simp [go_sem, sEv, sLook, nbeq]) ?_
  intro g13 w14 hg18 hz17 hb15 hk16
  have hs_w14 := hb15.size
  refine rw_val (v := .bool false) (w' := w14) rfl rfl rfl rfl rfl ?_
  refine rw_end ?_
  refine w_weaken (G' := [(3, .pointer (some ⟨g1, 0, none⟩)), (4, .pointer (some ⟨g7, 0, none⟩)), (5, .pointer (some ⟨g13, 0, none⟩)), (6, .bool false)]) ⟨rfl, rfl, rfl, rfl, trivial⟩ ?_
  refine w_seq ?_
  refine w_seq ?_
  refine w_region ?_
  refine rw_call rfl rfl rfl rfl (by simp [go_sem, sEv, sLook, nbeq]) (estuarylaw03_alive.calls 3 true w14 alive_true) ?_
  rintro e_ w19 ⟨rfl, hb20⟩
  refine ⟨_, rfl, ?_⟩
  have hs_w19 := hb20.size
  refine rw_val (v := .bool false) (w' := w19) rfl rfl rfl rfl (by simp [go_sem, sEv, sLook, nbeq]) ?_
  refine rw_end ?_
  refine w_cond_f rfl rfl rfl ?_
  refine w_skip ?_
  refine w_seq ?_
  refine w_draw (M := [0, 0, 3, 0, 0, 31, 63, 127]) (ss := [Is (.agg #[.int .i64 a0, .int .i64 a1]), Is (.agg #[.int .i64 b0, .int .i64 b1]), (Is (.bool (lexLt a0 a1 b0 b1))), Is (.agg #[.int .i64 b0, .int .i64 b1]), Is (.agg #[.int .i64 a0, .int .i64 a1]), (Is (.bool (lexLt b0 b1 a0 a1))), Is (.bool (lexLt a0 a1 b0 b1)), Is (.bool (lexLt b0 b1 a0 a1))]) rfl (by decide +kernel) ?_
  refine t_is (.agg #[.int .i64 a0, .int .i64 a1]) rfl rfl rfl rfl (fun W_ hW_ F_ => by have eb_ := (((hk10.on hb15).on hb20).on (below_of_drew hW_)); have e0_ := eb_.cellv (i := 0) (v := (.int .i64 a0 : Value)) rfl; have e1_ := eb_.cellv (i := 1) (v := (.int .i64 a1 : Value)) rfl; simp [go_sem, sEv, sLook, nbeq, e0_, e1_, Try.underlying29]) ?_
  refine t_is (.agg #[.int .i64 b0, .int .i64 b1]) rfl rfl rfl rfl (fun W_ hW_ F_ => by have eb_ := ((hk16.on hb20).on (below_of_drew hW_)); have e0_ := eb_.cellv (i := 0) (v := (.int .i64 b0 : Value)) rfl; have e1_ := eb_.cellv (i := 1) (v := (.int .i64 b1 : Value)) rfl; simp [go_sem, sEv, sLook, nbeq, e0_, e1_, Try.underlying29]) ?_
  refine t_call (f := 17) (args := #[.agg #[.int .i64 a0, .int .i64 a1], .agg #[.int .i64 b0, .int .i64 b1]]) (Is (.bool (lexLt a0 a1 b0 b1))) rfl rfl rfl rfl (fun W_ => by simp [go_sem, sEv, sLook, nbeq]) (fun W_ hW_ F_ => ?_) ?_
  · refine (place_Less.calls 3 a0 a1 b0 b1 _ W_ (less_lex _ _ _ _)).mono ?_
    rintro e_ w_ ⟨rfl, hd_⟩
    exact ⟨_, rfl, rfl, hd_⟩
  rintro _ rfl
  refine t_is (.agg #[.int .i64 b0, .int .i64 b1]) rfl rfl rfl rfl (fun W_ hW_ F_ => by have eb_ := ((hk16.on hb20).on (below_of_drew hW_)); have e0_ := eb_.cellv (i := 0) (v := (.int .i64 b0 : Value)) rfl; have e1_ := eb_.cellv (i := 1) (v := (.int .i64 b1 : Value)) rfl; simp [go_sem, sEv, sLook, nbeq, e0_, e1_, Try.underlying29]) ?_
  refine t_is (.agg #[.int .i64 a0, .int .i64 a1]) rfl rfl rfl rfl (fun W_ hW_ F_ => by have eb_ := (((hk10.on hb15).on hb20).on (below_of_drew hW_)); have e0_ := eb_.cellv (i := 0) (v := (.int .i64 a0 : Value)) rfl; have e1_ := eb_.cellv (i := 1) (v := (.int .i64 a1 : Value)) rfl; simp [go_sem, sEv, sLook, nbeq, e0_, e1_, Try.underlying29]) ?_
  refine t_call (f := 17) (args := #[.agg #[.int .i64 b0, .int .i64 b1], .agg #[.int .i64 a0, .int .i64 a1]]) (Is (.bool (lexLt b0 b1 a0 a1))) rfl rfl rfl rfl (fun W_ => by simp [go_sem, sEv, sLook, nbeq]) (fun W_ hW_ F_ => ?_) ?_
  · refine (place_Less.calls 3 b0 b1 a0 a1 _ W_ (less_lex _ _ _ _)).mono ?_
    rintro e_ w_ ⟨rfl, hd_⟩
    exact ⟨_, rfl, rfl, hd_⟩
  rintro _ rfl
  refine t_is (.bool (lexLt a0 a1 b0 b1)) rfl rfl rfl rfl (fun W_ hW_ F_ => rfl) ?_
  refine t_is (.bool (lexLt b0 b1 a0 a1)) rfl rfl rfl rfl (fun W_ hW_ F_ => rfl) ?_
  refine t_end ?_
  intro w21 hb22_ F23
  have hb22 := below_of_drew hb22_
  have hs_w21 := hb22.size
  refine w_weaken (G' := [(3, .pointer (some ⟨g1, 0, none⟩)), (4, .pointer (some ⟨g7, 0, none⟩)), (5, .pointer (some ⟨g13, 0, none⟩)), (6, .bool false), (7, .bool (lexLt a0 a1 b0 b1)), (8, .bool (lexLt b0 b1 a0 a1))]) ⟨rfl, rfl, rfl, rfl, rfl, rfl, trivial⟩ ?_
  refine w_seq ?_
  refine w_seq ?_
  rcases bcase (lexLt a0 a1 b0 b1) with c24 | c24
  · refine w_draw (M := [0, 1, 3, 7, 15, 31, 63, 127, 255, 511, 255, 255, 3327, 8191, 16383, 32767, 65535, 131071, 131071, 524287, 1048575, 2097151, 4194303, 4194303, 16777215, 33554431]) (ss := [Is (.bool (lexLt a0 a1 b0 b1)), Is (.bool (lexLt a0 a1 b0 b1)), Is undef, Is (.bool false), Is (.bool false), Is (.bool (lexLt a0 a1 b0 b1)), Is (.bool (!(lexLt a0 a1 b0 b1))), Is (.bool (!(lexLt a0 a1 b0 b1))), Is (.bool (lexLt b0 b1 a0 a1)), Is (.bool (!(lexLt b0 b1 a0 a1))), Is (.agg #[.int .i64 a0, .int .i64 a1]), Is (.agg #[.int .i64 b0, .int .i64 b1]), Is (.bool (a0 == b0 && (a1 == b1))), Is (.bool ((!(lexLt b0 b1 a0 a1)) != (a0 == b0 && (a1 == b1)))), Is (.bool ((!(lexLt b0 b1 a0 a1)) != (a0 == b0 && (a1 == b1)))), Is (.bool ((!(lexLt b0 b1 a0 a1)) != (a0 == b0 && (a1 == b1)))), Is (.bool ((!(lexLt b0 b1 a0 a1)) != (a0 == b0 && (a1 == b1)))), Is (.agg #[.int .i64 a0, .int .i64 a1]), Is (.agg #[.int .i64 a0, .int .i64 a1]), (Is (.bool (lexLt a0 a1 a0 a1))), Is (.bool (lexLt a0 a1 a0 a1)), Is (.bool (lexLt a0 a1 a0 a1)), Is (.agg #[.int .i64 a0, .int .i64 a1]), (Is (.agg #[.int .i64 (-9223372036854775808), .int .i64 (-9223372036854775808)])), (Is (.bool (lexLt a0 a1 (-9223372036854775808) (-9223372036854775808)))), Is (.bool (lexLt a0 a1 (-9223372036854775808) (-9223372036854775808)))]) rfl (by decide +kernel) ?_
    refine t_is (.bool (lexLt a0 a1 b0 b1)) rfl rfl rfl rfl (fun W_ hW_ F_ => rfl) ?_
    refine t_is (.bool (lexLt a0 a1 b0 b1)) rfl rfl rfl rfl (fun W_ hW_ F_ => rfl) ?_
    refine t_off (c := (lexLt a0 a1 b0 b1)) rfl rfl rfl (by simp [c24]) rfl rfl ?_
    refine t_is (.bool false) rfl rfl rfl rfl (fun W_ hW_ F_ => by simp [go_sem, sEv, sLook, nbeq, c24]) ?_
    refine t_is (.bool false) rfl rfl rfl rfl (fun W_ hW_ F_ => rfl) ?_
    refine t_gis (c := false) (.bool (lexLt a0 a1 b0 b1)) rfl rfl rfl rfl rfl rfl rfl (fun W_ hW_ F_ => rfl) ?_
    refine t_gis (c := false) (.bool (!(lexLt a0 a1 b0 b1))) rfl rfl rfl rfl rfl rfl rfl (fun W_ hW_ F_ => by simp [go_sem, sEv, sLook, nbeq]) ?_
    refine t_gis (c := false) (.bool (!(lexLt a0 a1 b0 b1))) rfl rfl rfl rfl rfl rfl rfl (fun W_ hW_ F_ => rfl) ?_
    have hq25 : (!(lexLt a0 a1 b0 b1)) = true := by simp [c24]
    refine t_gis (c := !(lexLt a0 a1 b0 b1)) (.bool (lexLt b0 b1 a0 a1)) rfl rfl rfl (by simp [hq25]) rfl rfl rfl (fun W_ hW_ F_ => rfl) ?_
    refine t_gis (c := !(lexLt a0 a1 b0 b1)) (.bool (!(lexLt b0 b1 a0 a1))) rfl rfl rfl (by simp [hq25]) rfl rfl rfl (fun W_ hW_ F_ => by simp [go_sem, sEv, sLook, nbeq]) ?_
    refine t_gis (c := !(lexLt a0 a1 b0 b1)) (.agg #[.int .i64 a0, .int .i64 a1]) rfl rfl rfl (by simp [hq25]) rfl rfl rfl (fun W_ hW_ F_ => by have eb_ := ((((hk10.on hb15).on hb20).on hb22).on (below_of_drew hW_)); have e0_ := eb_.cellv (i := 0) (v := (.int .i64 a0 : Value)) rfl; have e1_ := eb_.cellv (i := 1) (v := (.int .i64 a1 : Value)) rfl; simp [go_sem, sEv, sLook, nbeq, e0_, e1_, Try.underlying29]) ?_
    refine t_gis (c := !(lexLt a0 a1 b0 b1)) (.agg #[.int .i64 b0, .int .i64 b1]) rfl rfl rfl (by simp [hq25]) rfl rfl rfl (fun W_ hW_ F_ => by have eb_ := (((hk16.on hb20).on hb22).on (below_of_drew hW_)); have e0_ := eb_.cellv (i := 0) (v := (.int .i64 b0 : Value)) rfl; have e1_ := eb_.cellv (i := 1) (v := (.int .i64 b1 : Value)) rfl; simp [go_sem, sEv, sLook, nbeq, e0_, e1_, Try.underlying29]) ?_
    refine t_gis (c := !(lexLt a0 a1 b0 b1)) (.bool (a0 == b0 && (a1 == b1))) rfl rfl rfl (by simp [hq25]) rfl rfl rfl (fun W_ hW_ F_ => by simp [go_sem, sEv, sLook, nbeq, eqA29]) ?_
    refine t_gis (c := !(lexLt a0 a1 b0 b1)) (.bool ((!(lexLt b0 b1 a0 a1)) != (a0 == b0 && (a1 == b1)))) rfl rfl rfl (by simp [hq25]) rfl rfl rfl (fun W_ hW_ F_ => by first | (simp [go_sem, sEv, sLook, nbeq]; done) | (simp [go_sem, sEv, sLook, nbeq] <;> cases h0_ : (lexLt b0 b1 a0 a1) <;> cases h1_ : (a0 == b0 && (a1 == b1)) <;> rfl)) ?_
    refine t_gis (c := false) (.bool ((!(lexLt b0 b1 a0 a1)) != (a0 == b0 && (a1 == b1)))) rfl rfl rfl rfl rfl rfl rfl (fun W_ hW_ F_ => by simp [go_sem, sEv, sLook, nbeq, hq25]) ?_
    refine t_is (.bool ((!(lexLt b0 b1 a0 a1)) != (a0 == b0 && (a1 == b1)))) rfl rfl rfl rfl (fun W_ hW_ F_ => by simp [go_sem, sEv, sLook, nbeq]) ?_
    refine t_is (.bool ((!(lexLt b0 b1 a0 a1)) != (a0 == b0 && (a1 == b1)))) rfl rfl rfl rfl (fun W_ hW_ F_ => rfl) ?_
    refine t_gis (c := ((!(lexLt b0 b1 a0 a1)) != (a0 == b0 && (a1 == b1)))) (.agg #[.int .i64 a0, .int .i64 a1]) rfl rfl rfl (by simp [(lex_tri c24)]) rfl rfl rfl (fun W_ hW_ F_ => by have eb_ := ((((hk10.on hb15).on hb20).on hb22).on (below_of_drew hW_)); have e0_ := eb_.cellv (i := 0) (v := (.int .i64 a0 : Value)) rfl; have e1_ := eb_.cellv (i := 1) (v := (.int .i64 a1 : Value)) rfl; simp [go_sem, sEv, sLook, nbeq, e0_, e1_, Try.underlying29]) ?_
    refine t_gis (c := ((!(lexLt b0 b1 a0 a1)) != (a0 == b0 && (a1 == b1)))) (.agg #[.int .i64 a0, .int .i64 a1]) rfl rfl rfl (by simp [(lex_tri c24)]) rfl rfl rfl (fun W_ hW_ F_ => by have eb_ := ((((hk10.on hb15).on hb20).on hb22).on (below_of_drew hW_)); have e0_ := eb_.cellv (i := 0) (v := (.int .i64 a0 : Value)) rfl; have e1_ := eb_.cellv (i := 1) (v := (.int .i64 a1 : Value)) rfl; simp [go_sem, sEv, sLook, nbeq, e0_, e1_, Try.underlying29]) ?_
    refine t_gcall (c := ((!(lexLt b0 b1 a0 a1)) != (a0 == b0 && (a1 == b1)))) (f := 17) (args := #[.agg #[.int .i64 a0, .int .i64 a1], .agg #[.int .i64 a0, .int .i64 a1]]) (Is (.bool (lexLt a0 a1 a0 a1))) rfl rfl rfl (by simp [(lex_tri c24)]) rfl rfl rfl (fun W_ => by simp [go_sem, sEv, sLook, nbeq]) (fun W_ hW_ F_ => ?_) ?_
    · refine (place_Less.calls 3 a0 a1 a0 a1 _ W_ (less_lex _ _ _ _)).mono ?_
      rintro e_ w_ ⟨rfl, hd_⟩
      exact ⟨_, rfl, rfl, hd_⟩
    rintro _ rfl
    refine t_is (.bool (lexLt a0 a1 a0 a1)) rfl rfl rfl rfl (fun W_ hW_ F_ => by simp [go_sem, sEv, sLook, nbeq, (lex_tri c24)]) ?_
    refine t_is (.bool (lexLt a0 a1 a0 a1)) rfl rfl rfl rfl (fun W_ hW_ F_ => rfl) ?_
    refine t_gis (c := (lexLt a0 a1 a0 a1)) (.agg #[.int .i64 a0, .int .i64 a1]) rfl rfl rfl (by simp [(lex_irr a0 a1)]) rfl rfl rfl (fun W_ hW_ F_ => by have eb_ := ((((hk10.on hb15).on hb20).on hb22).on (below_of_drew hW_)); have e0_ := eb_.cellv (i := 0) (v := (.int .i64 a0 : Value)) rfl; have e1_ := eb_.cellv (i := 1) (v := (.int .i64 a1 : Value)) rfl; simp [go_sem, sEv, sLook, nbeq, e0_, e1_, Try.underlying29]) ?_
    refine t_gcall (c := (lexLt a0 a1 a0 a1)) (f := 23) (args := #[]) (Is (.agg #[.int .i64 (-9223372036854775808), .int .i64 (-9223372036854775808)])) rfl rfl rfl (by simp [(lex_irr a0 a1)]) rfl rfl rfl (fun W_ => by simp [go_sem, sEv, sLook, nbeq]) (fun W_ hW_ F_ => ?_) ?_
    · refine (place_Least.calls (-9223372036854775808) (-9223372036854775808) W_ rfl).mono ?_
      rintro e_ w_ ⟨rfl, hd_⟩
      exact ⟨_, rfl, rfl, hd_⟩
    rintro _ rfl
    refine t_gcall (c := (lexLt a0 a1 a0 a1)) (f := 17) (args := #[.agg #[.int .i64 a0, .int .i64 a1], .agg #[.int .i64 (-9223372036854775808), .int .i64 (-9223372036854775808)]]) (Is (.bool (lexLt a0 a1 (-9223372036854775808) (-9223372036854775808)))) rfl rfl rfl (by simp [(lex_irr a0 a1)]) rfl rfl rfl (fun W_ => by simp [go_sem, sEv, sLook, nbeq]) (fun W_ hW_ F_ => ?_) ?_
    · refine (place_Less.calls 3 a0 a1 (-9223372036854775808) (-9223372036854775808) _ W_ (less_lex _ _ _ _)).mono ?_
      rintro e_ w_ ⟨rfl, hd_⟩
      exact ⟨_, rfl, rfl, hd_⟩
    rintro _ rfl
    refine t_is (.bool (lexLt a0 a1 (-9223372036854775808) (-9223372036854775808))) rfl rfl rfl rfl (fun W_ hW_ F_ => by simp [go_sem, sEv, sLook, nbeq, (lex_irr a0 a1)]) ?_
    refine t_end ?_
    intro w26 hb27_ F28
    have hb27 := below_of_drew hb27_
    have hs_w26 := hb27.size
    refine w_weaken (G' := [(3, .pointer (some ⟨g1, 0, none⟩)), (4, .pointer (some ⟨g7, 0, none⟩)), (5, .pointer (some ⟨g13, 0, none⟩)), (6, .bool false), (7, .bool (lexLt a0 a1 b0 b1)), (44, .bool (lexLt a0 a1 (-9223372036854775808) (-9223372036854775808)))]) ⟨rfl, rfl, rfl, rfl, rfl, rfl, trivial⟩ ?_
    refine w_cond_f rfl rfl (lex_least ha0.1 ha1.1) ?_
    refine w_skip ?_
    refine w_seq ?_
    refine w_seq ?_
    refine w_region ?_
    refine rw_val (v := .agg #[.int .i64 p0, .int .i64 p1]) (w' := w26) rfl rfl rfl rfl (by have eb_ := (((((hk4.on hb9).on hb15).on hb20).on hb22).on hb27); have e0_ := eb_.cellv (i := 0) (v := (.int .i64 p0 : Value)) rfl; have e1_ := eb_.cellv (i := 1) (v := (.int .i64 p1 : Value)) rfl; simp [go_sem, sEv, sLook, nbeq, e0_, e1_, Try.underlying29]) ?_
    refine rw_val (v := .agg #[.int .i64 a0, .int .i64 a1]) (w' := w26) rfl rfl rfl rfl (by have eb_ := ((((hk10.on hb15).on hb20).on hb22).on hb27); have e0_ := eb_.cellv (i := 0) (v := (.int .i64 a0 : Value)) rfl; have e1_ := eb_.cellv (i := 1) (v := (.int .i64 a1 : Value)) rfl; simp [go_sem, sEv, sLook, nbeq, e0_, e1_, Try.underlying29]) ?_
    refine rw_call rfl rfl rfl rfl (by simp [go_sem, sEv, sLook, nbeq]) (place_Less.calls 3 p0 p1 a0 a1 _ w26 (less_lex _ _ _ _)) ?_
    rintro e_ w29 ⟨rfl, hb30⟩
    refine ⟨_, rfl, ?_⟩
    have hs_w29 := hb30.size
    refine rw_val (v := .bool (lexLt p0 p1 a0 a1)) (w' := w29) rfl rfl rfl rfl rfl ?_
    rcases bcase (lexLt p0 p1 a0 a1) with c31 | c31
    · refine rw_off (c := (lexLt p0 p1 a0 a1)) rfl rfl rfl (by simp [c31]) rfl rfl ?_
      refine rw_val (v := .bool false) (w' := w29) rfl rfl rfl rfl (by simp [go_sem, sEv, sLook, nbeq, c31]) ?_
      refine rw_val (v := .bool false) (w' := w29) rfl rfl rfl rfl rfl ?_
      refine rw_off (c := false) rfl rfl rfl rfl rfl rfl ?_
      refine rw_off (c := false) rfl rfl rfl rfl rfl rfl ?_
      refine rw_off (c := false) rfl rfl rfl rfl rfl rfl ?_
      refine rw_off (c := false) rfl rfl rfl rfl rfl rfl ?_
      refine rw_val (v := .bool false) (w' := w29) rfl rfl rfl rfl (by simp [go_sem, sEv, sLook, nbeq]) ?_
      refine rw_end ?_
      refine w_weaken (G' := [(3, .pointer (some ⟨g1, 0, none⟩)), (4, .pointer (some ⟨g7, 0, none⟩)), (6, .bool false), (56, .bool false)]) ⟨rfl, rfl, rfl, rfl, trivial⟩ ?_
      refine w_cond_f rfl rfl rfl ?_
      refine w_skip ?_
      refine w_seq ?_
      refine w_region ?_
      refine rw_val (v := .agg #[.int .i64 p0, .int .i64 p1]) (w' := w29) rfl rfl rfl rfl (by have eb_ := ((((((hk4.on hb9).on hb15).on hb20).on hb22).on hb27).on hb30); have e0_ := eb_.cellv (i := 0) (v := (.int .i64 p0 : Value)) rfl; have e1_ := eb_.cellv (i := 1) (v := (.int .i64 p1 : Value)) rfl; simp [go_sem, sEv, sLook, nbeq, e0_, e1_, Try.underlying29]) ?_
      refine rw_call rfl rfl rfl rfl (by simp [go_sem, sEv, sLook, nbeq]) (place_After.calls p0 p1 n0 n1 nb w29 ((after_nxt p0 p1 hp0 hp1).trans (congrArg some hn))) ?_
      rintro e_ w32 ⟨rfl, hb33⟩
      refine ⟨_, rfl, ?_⟩
      have hs_w32 := hb33.size
      refine rw_val (v := .tuple #[.agg #[.int .i64 n0, .int .i64 n1], .bool nb]) (w' := w32) rfl rfl rfl rfl rfl ?_
      refine rw_val (v := .agg #[.int .i64 n0, .int .i64 n1]) (w' := w32) rfl rfl rfl rfl (by simp [go_sem, sEv, sLook, nbeq]) ?_
      refine rw_val (v := .bool nb) (w' := w32) rfl rfl rfl rfl (by simp [go_sem, sEv, sLook, nbeq]) ?_
      refine rw_new (cs := #[.int .i64 0, .int .i64 0]) (t := 29) (fun g => .pointer (some ⟨g, 0, none⟩)) rfl rfl rfl rfl (by simp [go_sem, sEv, sLook, nbeq, s_zero]) ?_
      intro g34 w35 hg39 hz38 hb36 hk37
      have hs_w35 := hb36.size
      have hb43 := hk37
      refine rw_store (g := g34) (i := 0) (l := [.int .i64 n0, .int .i64 n1]) (cs' := #[.int .i64 n0, .int .i64 n1]) rfl rfl rfl hb43 rfl (by have e0_ := hb43.cellv (i := 0) (v := (.int .i64 0 : Value)) rfl; have f0_ := hb43.frozen 0; have e1_ := hb43.cellv (i := 1) (v := (.int .i64 0 : Value)) rfl; have f1_ := hb43.frozen 1; simp [go_sem, sEv, sLook, nbeq, putCells, e0_, f0_, e1_, f1_, Try.underlying29]) ?_
      intro w40 hk41 hk42
      have hs_w40 := hk41.size
      refine rw_val (v := .bool nb) (w' := w40) rfl rfl rfl rfl rfl ?_
      refine rw_end ?_
      refine w_weaken (G' := [(3, .pointer (some ⟨g1, 0, none⟩)), (4, .pointer (some ⟨g7, 0, none⟩)), (6, .bool false), (9, .pointer (some ⟨g34, 0, none⟩)), (10, .bool nb)]) ⟨rfl, rfl, rfl, rfl, rfl, trivial⟩ ?_
      refine w_seq ?_
      refine w_seq ?_
      refine w_region ?_
      refine rw_val (v := .bool nb) (w' := w40) rfl rfl rfl rfl rfl ?_
      refine rw_val (v := .bool (!nb)) (w' := w40) rfl rfl rfl rfl (by simp [go_sem, sEv, sLook, nbeq]) ?_
      refine rw_end ?_
      refine w_cond rfl rfl (fun c44 => ?_) (fun c44 => ?_)
      · refine w_seq ?_
        refine w_region ?_
        refine rw_val (v := .agg #[.int .i64 n0, .int .i64 n1]) (w' := w40) rfl rfl rfl rfl (by have eb_ := hk42; have e0_ := eb_.cellv (i := 0) (v := (.int .i64 n0 : Value)) rfl; have e1_ := eb_.cellv (i := 1) (v := (.int .i64 n1 : Value)) rfl; simp [go_sem, sEv, sLook, nbeq, e0_, e1_, Try.underlying29]) ?_
        refine rw_val (v := .agg #[.int .i64 p0, .int .i64 p1]) (w' := w40) rfl rfl rfl rfl (by have eb_ := (((((((((hk4.on hb9).on hb15).on hb20).on hb22).on hb27).on hb30).on hb33).on hb36).keep hk41 (by omega)); have e0_ := eb_.cellv (i := 0) (v := (.int .i64 p0 : Value)) rfl; have e1_ := eb_.cellv (i := 1) (v := (.int .i64 p1 : Value)) rfl; simp [go_sem, sEv, sLook, nbeq, e0_, e1_, Try.underlying29]) ?_
        refine rw_val (v := .bool (n0 == p0 && (n1 == p1))) (w' := w40) rfl rfl rfl rfl (by simp [go_sem, sEv, sLook, nbeq, eqA29]) ?_
        refine rw_val (v := .bool (n0 == p0 && (n1 == p1))) (w' := w40) rfl rfl rfl rfl rfl ?_
        refine rw_gval (c := (n0 == p0 && (n1 == p1))) (v := .agg #[.int .i64 p0, .int .i64 p1]) (w' := w40) rfl rfl rfl (by simp [(nxt_no hn (not_true c44))]) rfl rfl rfl (by have eb_ := (((((((((hk4.on hb9).on hb15).on hb20).on hb22).on hb27).on hb30).on hb33).on hb36).keep hk41 (by omega)); have e0_ := eb_.cellv (i := 0) (v := (.int .i64 p0 : Value)) rfl; have e1_ := eb_.cellv (i := 1) (v := (.int .i64 p1 : Value)) rfl; simp [go_sem, sEv, sLook, nbeq, e0_, e1_, Try.underlying29]) ?_
        refine rw_gval (c := (n0 == p0 && (n1 == p1))) (v := .agg #[.int .i64 a0, .int .i64 a1]) (w' := w40) rfl rfl rfl (by simp [(nxt_no hn (not_true c44))]) rfl rfl rfl (by have eb_ := ((((((((hk10.on hb15).on hb20).on hb22).on hb27).on hb30).on hb33).on hb36).keep hk41 (by omega)); have e0_ := eb_.cellv (i := 0) (v := (.int .i64 a0 : Value)) rfl; have e1_ := eb_.cellv (i := 1) (v := (.int .i64 a1 : Value)) rfl; simp [go_sem, sEv, sLook, nbeq, e0_, e1_, Try.underlying29]) ?_
        refine rw_gcall (c := (n0 == p0 && (n1 == p1))) rfl rfl rfl (by simp [(nxt_no hn (not_true c44))]) rfl rfl rfl (by simp [go_sem, sEv, sLook, nbeq]) (place_Less.calls 3 p0 p1 a0 a1 _ w40 (less_lex _ _ _ _)) ?_
        rintro e_ w45 ⟨rfl, hb46⟩
        refine ⟨_, rfl, ?_⟩
        have hs_w45 := hb46.size
        refine rw_gval (c := (n0 == p0 && (n1 == p1))) (v := .bool (!(lexLt p0 p1 a0 a1))) (w' := w45) rfl rfl rfl (by simp [(nxt_no hn (not_true c44))]) rfl rfl rfl (by simp [go_sem, sEv, sLook, nbeq]) ?_
        refine rw_val (v := .bool (!(lexLt p0 p1 a0 a1))) (w' := w45) rfl rfl rfl rfl (by simp [go_sem, sEv, sLook, nbeq, (nxt_no hn (not_true c44))]) ?_
        refine rw_val (v := .bool (!(lexLt p0 p1 a0 a1))) (w' := w45) rfl rfl rfl rfl rfl ?_
        refine rw_end ?_
        refine w_weaken (G' := [(3, .pointer (some ⟨g1, 0, none⟩)), (4, .pointer (some ⟨g7, 0, none⟩)), (6, .bool (!(lexLt p0 p1 a0 a1))), (9, .pointer (some ⟨g34, 0, none⟩))]) ⟨rfl, rfl, rfl, rfl, trivial⟩ ?_
        refine w_ret (post_ret1 rfl rfl ?_)
        have hq47 : (!(lexLt p0 p1 a0 a1)) = true := by simp [c31]
        exact ⟨by rw [hq47], (chain (hk41.below (by omega) (chain (chain (chain (chain (chain (chain (chain (chain hb3 hb9) hb15) hb20) hb22) hb27) hb30) hb33) hb36)) hb46)⟩
      · refine w_skip ?_
        refine w_seq ?_
        refine w_region ?_
        refine rw_val (v := .agg #[.int .i64 p0, .int .i64 p1]) (w' := w40) rfl rfl rfl rfl (by have eb_ := (((((((((hk4.on hb9).on hb15).on hb20).on hb22).on hb27).on hb30).on hb33).on hb36).keep hk41 (by omega)); have e0_ := eb_.cellv (i := 0) (v := (.int .i64 p0 : Value)) rfl; have e1_ := eb_.cellv (i := 1) (v := (.int .i64 p1 : Value)) rfl; simp [go_sem, sEv, sLook, nbeq, e0_, e1_, Try.underlying29]) ?_
        refine rw_val (v := .agg #[.int .i64 n0, .int .i64 n1]) (w' := w40) rfl rfl rfl rfl (by have eb_ := hk42; have e0_ := eb_.cellv (i := 0) (v := (.int .i64 n0 : Value)) rfl; have e1_ := eb_.cellv (i := 1) (v := (.int .i64 n1 : Value)) rfl; simp [go_sem, sEv, sLook, nbeq, e0_, e1_, Try.underlying29]) ?_
        refine rw_call rfl rfl rfl rfl (by simp [go_sem, sEv, sLook, nbeq]) (place_Less.calls 3 p0 p1 n0 n1 _ w40 (less_lex _ _ _ _)) ?_
        rintro e_ w48 ⟨rfl, hb49⟩
        refine ⟨_, rfl, ?_⟩
        have hs_w48 := hb49.size
        refine rw_val (v := .bool (lexLt p0 p1 n0 n1)) (w' := w48) rfl rfl rfl rfl rfl ?_
        refine rw_gval (c := (lexLt p0 p1 n0 n1)) (v := .agg #[.int .i64 p0, .int .i64 p1]) (w' := w48) rfl rfl rfl (by simp [(nxt_lt hn (not_false c44))]) rfl rfl rfl (by have eb_ := ((((((((((hk4.on hb9).on hb15).on hb20).on hb22).on hb27).on hb30).on hb33).on hb36).keep hk41 (by omega)).on hb49); have e0_ := eb_.cellv (i := 0) (v := (.int .i64 p0 : Value)) rfl; have e1_ := eb_.cellv (i := 1) (v := (.int .i64 p1 : Value)) rfl; simp [go_sem, sEv, sLook, nbeq, e0_, e1_, Try.underlying29]) ?_
        refine rw_gval (c := (lexLt p0 p1 n0 n1)) (v := .agg #[.int .i64 a0, .int .i64 a1]) (w' := w48) rfl rfl rfl (by simp [(nxt_lt hn (not_false c44))]) rfl rfl rfl (by have eb_ := (((((((((hk10.on hb15).on hb20).on hb22).on hb27).on hb30).on hb33).on hb36).keep hk41 (by omega)).on hb49); have e0_ := eb_.cellv (i := 0) (v := (.int .i64 a0 : Value)) rfl; have e1_ := eb_.cellv (i := 1) (v := (.int .i64 a1 : Value)) rfl; simp [go_sem, sEv, sLook, nbeq, e0_, e1_, Try.underlying29]) ?_
        refine rw_gcall (c := (lexLt p0 p1 n0 n1)) rfl rfl rfl (by simp [(nxt_lt hn (not_false c44))]) rfl rfl rfl (by simp [go_sem, sEv, sLook, nbeq]) (place_Less.calls 3 p0 p1 a0 a1 _ w48 (less_lex _ _ _ _)) ?_
        rintro e_ w50 ⟨rfl, hb51⟩
        refine ⟨_, rfl, ?_⟩
        have hs_w50 := hb51.size
        refine rw_gval (c := (lexLt p0 p1 n0 n1)) (v := .bool (lexLt p0 p1 a0 a1)) (w' := w50) rfl rfl rfl (by simp [(nxt_lt hn (not_false c44))]) rfl rfl rfl (by rfl) ?_
        refine rw_off (c := (lexLt p0 p1 a0 a1)) rfl rfl rfl (by simp [c31]) rfl rfl ?_
        refine rw_off (c := (lexLt p0 p1 a0 a1)) rfl rfl rfl (by simp [c31]) rfl rfl ?_
        refine rw_off (c := (lexLt p0 p1 a0 a1)) rfl rfl rfl (by simp [c31]) rfl rfl ?_
        refine rw_gval (c := (lexLt p0 p1 n0 n1)) (v := .bool false) (w' := w50) rfl rfl rfl (by simp [(nxt_lt hn (not_false c44))]) rfl rfl rfl (by simp [go_sem, sEv, sLook, nbeq, c31]) ?_
        refine rw_gval (c := (lexLt p0 p1 n0 n1)) (v := .bool true) (w' := w50) rfl rfl rfl (by simp [(nxt_lt hn (not_false c44))]) rfl rfl rfl (by simp [go_sem, sEv, sLook, nbeq]) ?_
        refine rw_val (v := .bool true) (w' := w50) rfl rfl rfl rfl (by simp [go_sem, sEv, sLook, nbeq, (nxt_lt hn (not_false c44))]) ?_
        refine rw_val (v := .bool true) (w' := w50) rfl rfl rfl rfl rfl ?_
        refine rw_gval (c := true) (v := .agg #[.int .i64 p0, .int .i64 p1]) (w' := w50) rfl rfl rfl rfl rfl rfl rfl (by have eb_ := (((((((((((hk4.on hb9).on hb15).on hb20).on hb22).on hb27).on hb30).on hb33).on hb36).keep hk41 (by omega)).on hb49).on hb51); have e0_ := eb_.cellv (i := 0) (v := (.int .i64 p0 : Value)) rfl; have e1_ := eb_.cellv (i := 1) (v := (.int .i64 p1 : Value)) rfl; simp [go_sem, sEv, sLook, nbeq, e0_, e1_, Try.underlying29]) ?_
        refine rw_gval (c := true) (v := .agg #[.int .i64 p0, .int .i64 p1]) (w' := w50) rfl rfl rfl rfl rfl rfl rfl (by have eb_ := (((((((((((hk4.on hb9).on hb15).on hb20).on hb22).on hb27).on hb30).on hb33).on hb36).keep hk41 (by omega)).on hb49).on hb51); have e0_ := eb_.cellv (i := 0) (v := (.int .i64 p0 : Value)) rfl; have e1_ := eb_.cellv (i := 1) (v := (.int .i64 p1 : Value)) rfl; simp [go_sem, sEv, sLook, nbeq, e0_, e1_, Try.underlying29]) ?_
        refine rw_gval (c := true) (v := .agg #[.int .i64 n0, .int .i64 n1]) (w' := w50) rfl rfl rfl rfl rfl rfl rfl (by have eb_ := ((hk42.on hb49).on hb51); have e0_ := eb_.cellv (i := 0) (v := (.int .i64 n0 : Value)) rfl; have e1_ := eb_.cellv (i := 1) (v := (.int .i64 n1 : Value)) rfl; simp [go_sem, sEv, sLook, nbeq, e0_, e1_, Try.underlying29]) ?_
        refine rw_gcall (c := true) rfl rfl rfl rfl rfl rfl rfl (by simp [go_sem, sEv, sLook, nbeq]) (place_Within.calls 3 p0 p1 p0 p1 n0 n1 _ w50 (within_lex _ _ _ _ _ _)) ?_
        rintro e_ w52 ⟨rfl, hb53⟩
        refine ⟨_, rfl, ?_⟩
        have hs_w52 := hb53.size
        refine rw_val (v := .bool (!lexLt p0 p1 p0 p1 && lexLt p0 p1 n0 n1)) (w' := w52) rfl rfl rfl rfl (by simp [go_sem, sEv, sLook, nbeq]) ?_
        refine rw_val (v := .bool (!lexLt p0 p1 p0 p1 && lexLt p0 p1 n0 n1)) (w' := w52) rfl rfl rfl rfl rfl ?_
        refine rw_end ?_
        refine w_weaken (G' := [(6, .bool (!lexLt p0 p1 p0 p1 && lexLt p0 p1 n0 n1))]) ⟨rfl, trivial⟩ ?_
        refine w_ret (post_ret1 rfl rfl ?_)
        exact ⟨by rw [(within_self (nxt_lt hn (not_false c44)))], (chain (chain (chain (hk41.below (by omega) (chain (chain (chain (chain (chain (chain (chain (chain hb3 hb9) hb15) hb20) hb22) hb27) hb30) hb33) hb36)) hb49) hb51) hb53)⟩
    · refine rw_gval (c := (lexLt p0 p1 a0 a1)) (v := .bool (lexLt a0 a1 b0 b1)) (w' := w29) rfl rfl rfl (by simp [c31]) rfl rfl rfl (by rfl) ?_
      refine rw_val (v := .bool (lexLt a0 a1 b0 b1)) (w' := w29) rfl rfl rfl rfl (by simp [go_sem, sEv, sLook, nbeq, c31]) ?_
      refine rw_val (v := .bool (lexLt a0 a1 b0 b1)) (w' := w29) rfl rfl rfl rfl rfl ?_
      refine rw_off (c := (lexLt a0 a1 b0 b1)) rfl rfl rfl (by simp [c24]) rfl rfl ?_
      refine rw_off (c := (lexLt a0 a1 b0 b1)) rfl rfl rfl (by simp [c24]) rfl rfl ?_
      refine rw_off (c := (lexLt a0 a1 b0 b1)) rfl rfl rfl (by simp [c24]) rfl rfl ?_
      refine rw_off (c := (lexLt a0 a1 b0 b1)) rfl rfl rfl (by simp [c24]) rfl rfl ?_
      refine rw_val (v := .bool false) (w' := w29) rfl rfl rfl rfl (by simp [go_sem, sEv, sLook, nbeq, c24]) ?_
      refine rw_end ?_
      refine w_weaken (G' := [(3, .pointer (some ⟨g1, 0, none⟩)), (4, .pointer (some ⟨g7, 0, none⟩)), (6, .bool false), (56, .bool false)]) ⟨rfl, rfl, rfl, rfl, trivial⟩ ?_
      refine w_cond_f rfl rfl rfl ?_
      refine w_skip ?_
      refine w_seq ?_
      refine w_region ?_
      refine rw_val (v := .agg #[.int .i64 p0, .int .i64 p1]) (w' := w29) rfl rfl rfl rfl (by have eb_ := ((((((hk4.on hb9).on hb15).on hb20).on hb22).on hb27).on hb30); have e0_ := eb_.cellv (i := 0) (v := (.int .i64 p0 : Value)) rfl; have e1_ := eb_.cellv (i := 1) (v := (.int .i64 p1 : Value)) rfl; simp [go_sem, sEv, sLook, nbeq, e0_, e1_, Try.underlying29]) ?_
      refine rw_call rfl rfl rfl rfl (by simp [go_sem, sEv, sLook, nbeq]) (place_After.calls p0 p1 n0 n1 nb w29 ((after_nxt p0 p1 hp0 hp1).trans (congrArg some hn))) ?_
      rintro e_ w54 ⟨rfl, hb55⟩
      refine ⟨_, rfl, ?_⟩
      have hs_w54 := hb55.size
      refine rw_val (v := .tuple #[.agg #[.int .i64 n0, .int .i64 n1], .bool nb]) (w' := w54) rfl rfl rfl rfl rfl ?_
      refine rw_val (v := .agg #[.int .i64 n0, .int .i64 n1]) (w' := w54) rfl rfl rfl rfl (by simp [go_sem, sEv, sLook, nbeq]) ?_
      refine rw_val (v := .bool nb) (w' := w54) rfl rfl rfl rfl (by simp [go_sem, sEv, sLook, nbeq]) ?_
      refine rw_new (cs := #[.int .i64 0, .int .i64 0]) (t := 29) (fun g => .pointer (some ⟨g, 0, none⟩)) rfl rfl rfl rfl (by simp [go_sem, sEv, sLook, nbeq, s_zero]) ?_
      intro g56 w57 hg61 hz60 hb58 hk59
      have hs_w57 := hb58.size
      have hb65 := hk59
      refine rw_store (g := g56) (i := 0) (l := [.int .i64 n0, .int .i64 n1]) (cs' := #[.int .i64 n0, .int .i64 n1]) rfl rfl rfl hb65 rfl (by have e0_ := hb65.cellv (i := 0) (v := (.int .i64 0 : Value)) rfl; have f0_ := hb65.frozen 0; have e1_ := hb65.cellv (i := 1) (v := (.int .i64 0 : Value)) rfl; have f1_ := hb65.frozen 1; simp [go_sem, sEv, sLook, nbeq, putCells, e0_, f0_, e1_, f1_, Try.underlying29]) ?_
      intro w62 hk63 hk64
      have hs_w62 := hk63.size
      refine rw_val (v := .bool nb) (w' := w62) rfl rfl rfl rfl rfl ?_
      refine rw_end ?_
      refine w_weaken (G' := [(3, .pointer (some ⟨g1, 0, none⟩)), (4, .pointer (some ⟨g7, 0, none⟩)), (6, .bool false), (9, .pointer (some ⟨g56, 0, none⟩)), (10, .bool nb)]) ⟨rfl, rfl, rfl, rfl, rfl, trivial⟩ ?_
      refine w_seq ?_
      refine w_seq ?_
      refine w_region ?_
      refine rw_val (v := .bool nb) (w' := w62) rfl rfl rfl rfl rfl ?_
      refine rw_val (v := .bool (!nb)) (w' := w62) rfl rfl rfl rfl (by simp [go_sem, sEv, sLook, nbeq]) ?_
      refine rw_end ?_
      have hq66 : (!nb) = false := by simp [(nxt_ex hn ha0.2 ha1.2 c31)]
      refine w_cond_f rfl rfl hq66 ?_
      refine w_skip ?_
      refine w_seq ?_
      refine w_region ?_
      refine rw_val (v := .agg #[.int .i64 p0, .int .i64 p1]) (w' := w62) rfl rfl rfl rfl (by have eb_ := (((((((((hk4.on hb9).on hb15).on hb20).on hb22).on hb27).on hb30).on hb55).on hb58).keep hk63 (by omega)); have e0_ := eb_.cellv (i := 0) (v := (.int .i64 p0 : Value)) rfl; have e1_ := eb_.cellv (i := 1) (v := (.int .i64 p1 : Value)) rfl; simp [go_sem, sEv, sLook, nbeq, e0_, e1_, Try.underlying29]) ?_
      refine rw_val (v := .agg #[.int .i64 n0, .int .i64 n1]) (w' := w62) rfl rfl rfl rfl (by have eb_ := hk64; have e0_ := eb_.cellv (i := 0) (v := (.int .i64 n0 : Value)) rfl; have e1_ := eb_.cellv (i := 1) (v := (.int .i64 n1 : Value)) rfl; simp [go_sem, sEv, sLook, nbeq, e0_, e1_, Try.underlying29]) ?_
      refine rw_call rfl rfl rfl rfl (by simp [go_sem, sEv, sLook, nbeq]) (place_Less.calls 3 p0 p1 n0 n1 _ w62 (less_lex _ _ _ _)) ?_
      rintro e_ w67 ⟨rfl, hb68⟩
      refine ⟨_, rfl, ?_⟩
      have hs_w67 := hb68.size
      refine rw_val (v := .bool (lexLt p0 p1 n0 n1)) (w' := w67) rfl rfl rfl rfl rfl ?_
      refine rw_gval (c := (lexLt p0 p1 n0 n1)) (v := .agg #[.int .i64 p0, .int .i64 p1]) (w' := w67) rfl rfl rfl (by simp [(nxt_lt hn (nxt_ex hn ha0.2 ha1.2 c31))]) rfl rfl rfl (by have eb_ := ((((((((((hk4.on hb9).on hb15).on hb20).on hb22).on hb27).on hb30).on hb55).on hb58).keep hk63 (by omega)).on hb68); have e0_ := eb_.cellv (i := 0) (v := (.int .i64 p0 : Value)) rfl; have e1_ := eb_.cellv (i := 1) (v := (.int .i64 p1 : Value)) rfl; simp [go_sem, sEv, sLook, nbeq, e0_, e1_, Try.underlying29]) ?_
      refine rw_gval (c := (lexLt p0 p1 n0 n1)) (v := .agg #[.int .i64 a0, .int .i64 a1]) (w' := w67) rfl rfl rfl (by simp [(nxt_lt hn (nxt_ex hn ha0.2 ha1.2 c31))]) rfl rfl rfl (by have eb_ := (((((((((hk10.on hb15).on hb20).on hb22).on hb27).on hb30).on hb55).on hb58).keep hk63 (by omega)).on hb68); have e0_ := eb_.cellv (i := 0) (v := (.int .i64 a0 : Value)) rfl; have e1_ := eb_.cellv (i := 1) (v := (.int .i64 a1 : Value)) rfl; simp [go_sem, sEv, sLook, nbeq, e0_, e1_, Try.underlying29]) ?_
      refine rw_gcall (c := (lexLt p0 p1 n0 n1)) rfl rfl rfl (by simp [(nxt_lt hn (nxt_ex hn ha0.2 ha1.2 c31))]) rfl rfl rfl (by simp [go_sem, sEv, sLook, nbeq]) (place_Less.calls 3 p0 p1 a0 a1 _ w67 (less_lex _ _ _ _)) ?_
      rintro e_ w69 ⟨rfl, hb70⟩
      refine ⟨_, rfl, ?_⟩
      have hs_w69 := hb70.size
      refine rw_gval (c := (lexLt p0 p1 n0 n1)) (v := .bool (lexLt p0 p1 a0 a1)) (w' := w69) rfl rfl rfl (by simp [(nxt_lt hn (nxt_ex hn ha0.2 ha1.2 c31))]) rfl rfl rfl (by rfl) ?_
      refine rw_gval (c := (lexLt p0 p1 a0 a1)) (v := .agg #[.int .i64 a0, .int .i64 a1]) (w' := w69) rfl rfl rfl (by simp [c31]) rfl rfl rfl (by have eb_ := ((((((((((hk10.on hb15).on hb20).on hb22).on hb27).on hb30).on hb55).on hb58).keep hk63 (by omega)).on hb68).on hb70); have e0_ := eb_.cellv (i := 0) (v := (.int .i64 a0 : Value)) rfl; have e1_ := eb_.cellv (i := 1) (v := (.int .i64 a1 : Value)) rfl; simp [go_sem, sEv, sLook, nbeq, e0_, e1_, Try.underlying29]) ?_
      refine rw_gval (c := (lexLt p0 p1 a0 a1)) (v := .agg #[.int .i64 n0, .int .i64 n1]) (w' := w69) rfl rfl rfl (by simp [c31]) rfl rfl rfl (by have eb_ := ((hk64.on hb68).on hb70); have e0_ := eb_.cellv (i := 0) (v := (.int .i64 n0 : Value)) rfl; have e1_ := eb_.cellv (i := 1) (v := (.int .i64 n1 : Value)) rfl; simp [go_sem, sEv, sLook, nbeq, e0_, e1_, Try.underlying29]) ?_
      refine rw_gcall (c := (lexLt p0 p1 a0 a1)) rfl rfl rfl (by simp [c31]) rfl rfl rfl (by simp [go_sem, sEv, sLook, nbeq]) (place_Less.calls 3 a0 a1 n0 n1 _ w69 (less_lex _ _ _ _)) ?_
      rintro e_ w71 ⟨rfl, hb72⟩
      refine ⟨_, rfl, ?_⟩
      have hs_w71 := hb72.size
      refine rw_gval (c := (lexLt p0 p1 n0 n1)) (v := .bool (lexLt a0 a1 n0 n1)) (w' := w71) rfl rfl rfl (by simp [(nxt_lt hn (nxt_ex hn ha0.2 ha1.2 c31))]) rfl rfl rfl (by simp [go_sem, sEv, sLook, nbeq, c31]) ?_
      refine rw_gval (c := (lexLt p0 p1 n0 n1)) (v := .bool (!(lexLt a0 a1 n0 n1))) (w' := w71) rfl rfl rfl (by simp [(nxt_lt hn (nxt_ex hn ha0.2 ha1.2 c31))]) rfl rfl rfl (by simp [go_sem, sEv, sLook, nbeq]) ?_
      refine rw_val (v := .bool (!(lexLt a0 a1 n0 n1))) (w' := w71) rfl rfl rfl rfl (by simp [go_sem, sEv, sLook, nbeq, (nxt_lt hn (nxt_ex hn ha0.2 ha1.2 c31))]) ?_
      refine rw_val (v := .bool (!(lexLt a0 a1 n0 n1))) (w' := w71) rfl rfl rfl rfl rfl ?_
      have hq73 : (!(lexLt a0 a1 n0 n1)) = true := by simp [(nxt_gap hn (nxt_ex hn ha0.2 ha1.2 c31) hp1.2 ha1.1 ha1.2 c31)]
      refine rw_gval (c := !(lexLt a0 a1 n0 n1)) (v := .agg #[.int .i64 p0, .int .i64 p1]) (w' := w71) rfl rfl rfl (by simp [hq73]) rfl rfl rfl (by have eb_ := ((((((((((((hk4.on hb9).on hb15).on hb20).on hb22).on hb27).on hb30).on hb55).on hb58).keep hk63 (by omega)).on hb68).on hb70).on hb72); have e0_ := eb_.cellv (i := 0) (v := (.int .i64 p0 : Value)) rfl; have e1_ := eb_.cellv (i := 1) (v := (.int .i64 p1 : Value)) rfl; simp [go_sem, sEv, sLook, nbeq, e0_, e1_, Try.underlying29]) ?_
      refine rw_gval (c := !(lexLt a0 a1 n0 n1)) (v := .agg #[.int .i64 p0, .int .i64 p1]) (w' := w71) rfl rfl rfl (by simp [hq73]) rfl rfl rfl (by have eb_ := ((((((((((((hk4.on hb9).on hb15).on hb20).on hb22).on hb27).on hb30).on hb55).on hb58).keep hk63 (by omega)).on hb68).on hb70).on hb72); have e0_ := eb_.cellv (i := 0) (v := (.int .i64 p0 : Value)) rfl; have e1_ := eb_.cellv (i := 1) (v := (.int .i64 p1 : Value)) rfl; simp [go_sem, sEv, sLook, nbeq, e0_, e1_, Try.underlying29]) ?_
      refine rw_gval (c := !(lexLt a0 a1 n0 n1)) (v := .agg #[.int .i64 n0, .int .i64 n1]) (w' := w71) rfl rfl rfl (by simp [hq73]) rfl rfl rfl (by have eb_ := (((hk64.on hb68).on hb70).on hb72); have e0_ := eb_.cellv (i := 0) (v := (.int .i64 n0 : Value)) rfl; have e1_ := eb_.cellv (i := 1) (v := (.int .i64 n1 : Value)) rfl; simp [go_sem, sEv, sLook, nbeq, e0_, e1_, Try.underlying29]) ?_
      refine rw_gcall (c := !(lexLt a0 a1 n0 n1)) rfl rfl rfl (by simp [hq73]) rfl rfl rfl (by simp [go_sem, sEv, sLook, nbeq]) (place_Within.calls 3 p0 p1 p0 p1 n0 n1 _ w71 (within_lex _ _ _ _ _ _)) ?_
      rintro e_ w74 ⟨rfl, hb75⟩
      refine ⟨_, rfl, ?_⟩
      have hs_w74 := hb75.size
      refine rw_val (v := .bool (!lexLt p0 p1 p0 p1 && lexLt p0 p1 n0 n1)) (w' := w74) rfl rfl rfl rfl (by simp [go_sem, sEv, sLook, nbeq, hq73]) ?_
      refine rw_val (v := .bool (!lexLt p0 p1 p0 p1 && lexLt p0 p1 n0 n1)) (w' := w74) rfl rfl rfl rfl rfl ?_
      refine rw_end ?_
      refine w_weaken (G' := [(6, .bool (!lexLt p0 p1 p0 p1 && lexLt p0 p1 n0 n1))]) ⟨rfl, trivial⟩ ?_
      refine w_ret (post_ret1 rfl rfl ?_)
      exact ⟨by rw [(within_self (nxt_lt hn (nxt_ex hn ha0.2 ha1.2 c31)))], (chain (chain (chain (chain (hk63.below (by omega) (chain (chain (chain (chain (chain (chain (chain (chain hb3 hb9) hb15) hb20) hb22) hb27) hb30) hb55) hb58)) hb68) hb70) hb72) hb75)⟩
  · refine w_draw (M := [0, 1, 3, 7, 15, 31, 63, 127, 255, 511, 255, 255, 3327, 8191, 16383, 32767, 65535, 131071, 131071, 524287, 1048575, 2097151, 4194303, 4194303, 16777215, 33554431]) (ss := [Is (.bool (lexLt a0 a1 b0 b1)), Is (.bool (lexLt a0 a1 b0 b1)), Is (.bool (lexLt b0 b1 a0 a1)), Is (.bool (lexLt b0 b1 a0 a1)), Is (.bool (lexLt b0 b1 a0 a1)), Is (.bool (lexLt a0 a1 b0 b1)), Is (.bool (!(lexLt a0 a1 b0 b1))), Is (.bool (!(lexLt a0 a1 b0 b1))), Is undef, Is undef, Is undef, Is undef, Is undef, Is undef, Is (.bool false), Is (.bool false), Is (.bool false), Is (.agg #[.int .i64 a0, .int .i64 a1]), Is (.agg #[.int .i64 a0, .int .i64 a1]), (Is (.bool (lexLt a0 a1 a0 a1))), Is (.bool (lexLt a0 a1 a0 a1)), Is (.bool (lexLt a0 a1 a0 a1)), Is (.agg #[.int .i64 a0, .int .i64 a1]), (Is (.agg #[.int .i64 (-9223372036854775808), .int .i64 (-9223372036854775808)])), (Is (.bool (lexLt a0 a1 (-9223372036854775808) (-9223372036854775808)))), Is (.bool (lexLt a0 a1 (-9223372036854775808) (-9223372036854775808)))]) rfl (by decide +kernel) ?_
    refine t_is (.bool (lexLt a0 a1 b0 b1)) rfl rfl rfl rfl (fun W_ hW_ F_ => rfl) ?_
    refine t_is (.bool (lexLt a0 a1 b0 b1)) rfl rfl rfl rfl (fun W_ hW_ F_ => rfl) ?_
    refine t_gis (c := (lexLt a0 a1 b0 b1)) (.bool (lexLt b0 b1 a0 a1)) rfl rfl rfl (by simp [c24]) rfl rfl rfl (fun W_ hW_ F_ => rfl) ?_
    refine t_is (.bool (lexLt b0 b1 a0 a1)) rfl rfl rfl rfl (fun W_ hW_ F_ => by simp [go_sem, sEv, sLook, nbeq, c24]) ?_
    refine t_is (.bool (lexLt b0 b1 a0 a1)) rfl rfl rfl rfl (fun W_ hW_ F_ => rfl) ?_
    refine t_gis (c := (lexLt b0 b1 a0 a1)) (.bool (lexLt a0 a1 b0 b1)) rfl rfl rfl (by simp [(lex_asym c24)]) rfl rfl rfl (fun W_ hW_ F_ => rfl) ?_
    refine t_gis (c := (lexLt b0 b1 a0 a1)) (.bool (!(lexLt a0 a1 b0 b1))) rfl rfl rfl (by simp [(lex_asym c24)]) rfl rfl rfl (fun W_ hW_ F_ => by simp [go_sem, sEv, sLook, nbeq]) ?_
    refine t_gis (c := (lexLt b0 b1 a0 a1)) (.bool (!(lexLt a0 a1 b0 b1))) rfl rfl rfl (by simp [(lex_asym c24)]) rfl rfl rfl (fun W_ hW_ F_ => rfl) ?_
    have hq76 : (!(lexLt a0 a1 b0 b1)) = false := by simp [c24]
    refine t_off (c := !(lexLt a0 a1 b0 b1)) rfl rfl rfl (by simp [hq76]) rfl rfl ?_
    refine t_off (c := !(lexLt a0 a1 b0 b1)) rfl rfl rfl (by simp [hq76]) rfl rfl ?_
    refine t_off (c := !(lexLt a0 a1 b0 b1)) rfl rfl rfl (by simp [hq76]) rfl rfl ?_
    refine t_off (c := !(lexLt a0 a1 b0 b1)) rfl rfl rfl (by simp [hq76]) rfl rfl ?_
    refine t_off (c := !(lexLt a0 a1 b0 b1)) rfl rfl rfl (by simp [hq76]) rfl rfl ?_
    refine t_off (c := !(lexLt a0 a1 b0 b1)) rfl rfl rfl (by simp [hq76]) rfl rfl ?_
    refine t_gis (c := (lexLt b0 b1 a0 a1)) (.bool false) rfl rfl rfl (by simp [(lex_asym c24)]) rfl rfl rfl (fun W_ hW_ F_ => by simp [go_sem, sEv, sLook, nbeq, hq76]) ?_
    refine t_is (.bool false) rfl rfl rfl rfl (fun W_ hW_ F_ => by simp [go_sem, sEv, sLook, nbeq, (lex_asym c24)]) ?_
    refine t_is (.bool false) rfl rfl rfl rfl (fun W_ hW_ F_ => rfl) ?_
    refine t_gis (c := false) (.agg #[.int .i64 a0, .int .i64 a1]) rfl rfl rfl rfl rfl rfl rfl (fun W_ hW_ F_ => by have eb_ := ((((hk10.on hb15).on hb20).on hb22).on (below_of_drew hW_)); have e0_ := eb_.cellv (i := 0) (v := (.int .i64 a0 : Value)) rfl; have e1_ := eb_.cellv (i := 1) (v := (.int .i64 a1 : Value)) rfl; simp [go_sem, sEv, sLook, nbeq, e0_, e1_, Try.underlying29]) ?_
    refine t_gis (c := false) (.agg #[.int .i64 a0, .int .i64 a1]) rfl rfl rfl rfl rfl rfl rfl (fun W_ hW_ F_ => by have eb_ := ((((hk10.on hb15).on hb20).on hb22).on (below_of_drew hW_)); have e0_ := eb_.cellv (i := 0) (v := (.int .i64 a0 : Value)) rfl; have e1_ := eb_.cellv (i := 1) (v := (.int .i64 a1 : Value)) rfl; simp [go_sem, sEv, sLook, nbeq, e0_, e1_, Try.underlying29]) ?_
    refine t_gcall (c := false) (f := 17) (args := #[.agg #[.int .i64 a0, .int .i64 a1], .agg #[.int .i64 a0, .int .i64 a1]]) (Is (.bool (lexLt a0 a1 a0 a1))) rfl rfl rfl rfl rfl rfl rfl (fun W_ => by simp [go_sem, sEv, sLook, nbeq]) (fun W_ hW_ F_ => ?_) ?_
    · refine (place_Less.calls 3 a0 a1 a0 a1 _ W_ (less_lex _ _ _ _)).mono ?_
      rintro e_ w_ ⟨rfl, hd_⟩
      exact ⟨_, rfl, rfl, hd_⟩
    rintro _ rfl
    refine t_is (.bool (lexLt a0 a1 a0 a1)) rfl rfl rfl rfl (fun W_ hW_ F_ => by simp [go_sem, sEv, sLook, nbeq]) ?_
    refine t_is (.bool (lexLt a0 a1 a0 a1)) rfl rfl rfl rfl (fun W_ hW_ F_ => rfl) ?_
    refine t_gis (c := (lexLt a0 a1 a0 a1)) (.agg #[.int .i64 a0, .int .i64 a1]) rfl rfl rfl (by simp [(lex_irr a0 a1)]) rfl rfl rfl (fun W_ hW_ F_ => by have eb_ := ((((hk10.on hb15).on hb20).on hb22).on (below_of_drew hW_)); have e0_ := eb_.cellv (i := 0) (v := (.int .i64 a0 : Value)) rfl; have e1_ := eb_.cellv (i := 1) (v := (.int .i64 a1 : Value)) rfl; simp [go_sem, sEv, sLook, nbeq, e0_, e1_, Try.underlying29]) ?_
    refine t_gcall (c := (lexLt a0 a1 a0 a1)) (f := 23) (args := #[]) (Is (.agg #[.int .i64 (-9223372036854775808), .int .i64 (-9223372036854775808)])) rfl rfl rfl (by simp [(lex_irr a0 a1)]) rfl rfl rfl (fun W_ => by simp [go_sem, sEv, sLook, nbeq]) (fun W_ hW_ F_ => ?_) ?_
    · refine (place_Least.calls (-9223372036854775808) (-9223372036854775808) W_ rfl).mono ?_
      rintro e_ w_ ⟨rfl, hd_⟩
      exact ⟨_, rfl, rfl, hd_⟩
    rintro _ rfl
    refine t_gcall (c := (lexLt a0 a1 a0 a1)) (f := 17) (args := #[.agg #[.int .i64 a0, .int .i64 a1], .agg #[.int .i64 (-9223372036854775808), .int .i64 (-9223372036854775808)]]) (Is (.bool (lexLt a0 a1 (-9223372036854775808) (-9223372036854775808)))) rfl rfl rfl (by simp [(lex_irr a0 a1)]) rfl rfl rfl (fun W_ => by simp [go_sem, sEv, sLook, nbeq]) (fun W_ hW_ F_ => ?_) ?_
    · refine (place_Less.calls 3 a0 a1 (-9223372036854775808) (-9223372036854775808) _ W_ (less_lex _ _ _ _)).mono ?_
      rintro e_ w_ ⟨rfl, hd_⟩
      exact ⟨_, rfl, rfl, hd_⟩
    rintro _ rfl
    refine t_is (.bool (lexLt a0 a1 (-9223372036854775808) (-9223372036854775808))) rfl rfl rfl rfl (fun W_ hW_ F_ => by simp [go_sem, sEv, sLook, nbeq, (lex_irr a0 a1)]) ?_
    refine t_end ?_
    intro w77 hb78_ F79
    have hb78 := below_of_drew hb78_
    have hs_w77 := hb78.size
    refine w_weaken (G' := [(3, .pointer (some ⟨g1, 0, none⟩)), (4, .pointer (some ⟨g7, 0, none⟩)), (5, .pointer (some ⟨g13, 0, none⟩)), (6, .bool false), (7, .bool (lexLt a0 a1 b0 b1)), (44, .bool (lexLt a0 a1 (-9223372036854775808) (-9223372036854775808)))]) ⟨rfl, rfl, rfl, rfl, rfl, rfl, trivial⟩ ?_
    refine w_cond_f rfl rfl (lex_least ha0.1 ha1.1) ?_
    refine w_skip ?_
    refine w_seq ?_
    refine w_seq ?_
    refine w_region ?_
    refine rw_val (v := .agg #[.int .i64 p0, .int .i64 p1]) (w' := w77) rfl rfl rfl rfl (by have eb_ := (((((hk4.on hb9).on hb15).on hb20).on hb22).on hb78); have e0_ := eb_.cellv (i := 0) (v := (.int .i64 p0 : Value)) rfl; have e1_ := eb_.cellv (i := 1) (v := (.int .i64 p1 : Value)) rfl; simp [go_sem, sEv, sLook, nbeq, e0_, e1_, Try.underlying29]) ?_
    refine rw_val (v := .agg #[.int .i64 a0, .int .i64 a1]) (w' := w77) rfl rfl rfl rfl (by have eb_ := ((((hk10.on hb15).on hb20).on hb22).on hb78); have e0_ := eb_.cellv (i := 0) (v := (.int .i64 a0 : Value)) rfl; have e1_ := eb_.cellv (i := 1) (v := (.int .i64 a1 : Value)) rfl; simp [go_sem, sEv, sLook, nbeq, e0_, e1_, Try.underlying29]) ?_
    refine rw_call rfl rfl rfl rfl (by simp [go_sem, sEv, sLook, nbeq]) (place_Less.calls 3 p0 p1 a0 a1 _ w77 (less_lex _ _ _ _)) ?_
    rintro e_ w80 ⟨rfl, hb81⟩
    refine ⟨_, rfl, ?_⟩
    have hs_w80 := hb81.size
    refine rw_val (v := .bool (lexLt p0 p1 a0 a1)) (w' := w80) rfl rfl rfl rfl rfl ?_
    rcases bcase (lexLt p0 p1 a0 a1) with c82 | c82
    · refine rw_off (c := (lexLt p0 p1 a0 a1)) rfl rfl rfl (by simp [c82]) rfl rfl ?_
      refine rw_val (v := .bool false) (w' := w80) rfl rfl rfl rfl (by simp [go_sem, sEv, sLook, nbeq, c82]) ?_
      refine rw_val (v := .bool false) (w' := w80) rfl rfl rfl rfl rfl ?_
      refine rw_off (c := false) rfl rfl rfl rfl rfl rfl ?_
      refine rw_off (c := false) rfl rfl rfl rfl rfl rfl ?_
      refine rw_off (c := false) rfl rfl rfl rfl rfl rfl ?_
      refine rw_off (c := false) rfl rfl rfl rfl rfl rfl ?_
      refine rw_val (v := .bool false) (w' := w80) rfl rfl rfl rfl (by simp [go_sem, sEv, sLook, nbeq]) ?_
      refine rw_end ?_
      refine w_weaken (G' := [(3, .pointer (some ⟨g1, 0, none⟩)), (4, .pointer (some ⟨g7, 0, none⟩)), (6, .bool false), (56, .bool false)]) ⟨rfl, rfl, rfl, rfl, trivial⟩ ?_
      refine w_cond_f rfl rfl rfl ?_
      refine w_skip ?_
      refine w_seq ?_
      refine w_region ?_
      refine rw_val (v := .agg #[.int .i64 p0, .int .i64 p1]) (w' := w80) rfl rfl rfl rfl (by have eb_ := ((((((hk4.on hb9).on hb15).on hb20).on hb22).on hb78).on hb81); have e0_ := eb_.cellv (i := 0) (v := (.int .i64 p0 : Value)) rfl; have e1_ := eb_.cellv (i := 1) (v := (.int .i64 p1 : Value)) rfl; simp [go_sem, sEv, sLook, nbeq, e0_, e1_, Try.underlying29]) ?_
      refine rw_call rfl rfl rfl rfl (by simp [go_sem, sEv, sLook, nbeq]) (place_After.calls p0 p1 n0 n1 nb w80 ((after_nxt p0 p1 hp0 hp1).trans (congrArg some hn))) ?_
      rintro e_ w83 ⟨rfl, hb84⟩
      refine ⟨_, rfl, ?_⟩
      have hs_w83 := hb84.size
      refine rw_val (v := .tuple #[.agg #[.int .i64 n0, .int .i64 n1], .bool nb]) (w' := w83) rfl rfl rfl rfl rfl ?_
      refine rw_val (v := .agg #[.int .i64 n0, .int .i64 n1]) (w' := w83) rfl rfl rfl rfl (by simp [go_sem, sEv, sLook, nbeq]) ?_
      refine rw_val (v := .bool nb) (w' := w83) rfl rfl rfl rfl (by simp [go_sem, sEv, sLook, nbeq]) ?_
      refine rw_new (cs := #[.int .i64 0, .int .i64 0]) (t := 29) (fun g => .pointer (some ⟨g, 0, none⟩)) rfl rfl rfl rfl (by simp [go_sem, sEv, sLook, nbeq, s_zero]) ?_
      intro g85 w86 hg90 hz89 hb87 hk88
      have hs_w86 := hb87.size
      have hb94 := hk88
      refine rw_store (g := g85) (i := 0) (l := [.int .i64 n0, .int .i64 n1]) (cs' := #[.int .i64 n0, .int .i64 n1]) rfl rfl rfl hb94 rfl (by have e0_ := hb94.cellv (i := 0) (v := (.int .i64 0 : Value)) rfl; have f0_ := hb94.frozen 0; have e1_ := hb94.cellv (i := 1) (v := (.int .i64 0 : Value)) rfl; have f1_ := hb94.frozen 1; simp [go_sem, sEv, sLook, nbeq, putCells, e0_, f0_, e1_, f1_, Try.underlying29]) ?_
      intro w91 hk92 hk93
      have hs_w91 := hk92.size
      refine rw_val (v := .bool nb) (w' := w91) rfl rfl rfl rfl rfl ?_
      refine rw_end ?_
      refine w_weaken (G' := [(3, .pointer (some ⟨g1, 0, none⟩)), (4, .pointer (some ⟨g7, 0, none⟩)), (6, .bool false), (9, .pointer (some ⟨g85, 0, none⟩)), (10, .bool nb)]) ⟨rfl, rfl, rfl, rfl, rfl, trivial⟩ ?_
      refine w_seq ?_
      refine w_seq ?_
      refine w_region ?_
      refine rw_val (v := .bool nb) (w' := w91) rfl rfl rfl rfl rfl ?_
      refine rw_val (v := .bool (!nb)) (w' := w91) rfl rfl rfl rfl (by simp [go_sem, sEv, sLook, nbeq]) ?_
      refine rw_end ?_
      refine w_cond rfl rfl (fun c95 => ?_) (fun c95 => ?_)
      · refine w_seq ?_
        refine w_region ?_
        refine rw_val (v := .agg #[.int .i64 n0, .int .i64 n1]) (w' := w91) rfl rfl rfl rfl (by have eb_ := hk93; have e0_ := eb_.cellv (i := 0) (v := (.int .i64 n0 : Value)) rfl; have e1_ := eb_.cellv (i := 1) (v := (.int .i64 n1 : Value)) rfl; simp [go_sem, sEv, sLook, nbeq, e0_, e1_, Try.underlying29]) ?_
        refine rw_val (v := .agg #[.int .i64 p0, .int .i64 p1]) (w' := w91) rfl rfl rfl rfl (by have eb_ := (((((((((hk4.on hb9).on hb15).on hb20).on hb22).on hb78).on hb81).on hb84).on hb87).keep hk92 (by omega)); have e0_ := eb_.cellv (i := 0) (v := (.int .i64 p0 : Value)) rfl; have e1_ := eb_.cellv (i := 1) (v := (.int .i64 p1 : Value)) rfl; simp [go_sem, sEv, sLook, nbeq, e0_, e1_, Try.underlying29]) ?_
        refine rw_val (v := .bool (n0 == p0 && (n1 == p1))) (w' := w91) rfl rfl rfl rfl (by simp [go_sem, sEv, sLook, nbeq, eqA29]) ?_
        refine rw_val (v := .bool (n0 == p0 && (n1 == p1))) (w' := w91) rfl rfl rfl rfl rfl ?_
        refine rw_gval (c := (n0 == p0 && (n1 == p1))) (v := .agg #[.int .i64 p0, .int .i64 p1]) (w' := w91) rfl rfl rfl (by simp [(nxt_no hn (not_true c95))]) rfl rfl rfl (by have eb_ := (((((((((hk4.on hb9).on hb15).on hb20).on hb22).on hb78).on hb81).on hb84).on hb87).keep hk92 (by omega)); have e0_ := eb_.cellv (i := 0) (v := (.int .i64 p0 : Value)) rfl; have e1_ := eb_.cellv (i := 1) (v := (.int .i64 p1 : Value)) rfl; simp [go_sem, sEv, sLook, nbeq, e0_, e1_, Try.underlying29]) ?_
        refine rw_gval (c := (n0 == p0 && (n1 == p1))) (v := .agg #[.int .i64 a0, .int .i64 a1]) (w' := w91) rfl rfl rfl (by simp [(nxt_no hn (not_true c95))]) rfl rfl rfl (by have eb_ := ((((((((hk10.on hb15).on hb20).on hb22).on hb78).on hb81).on hb84).on hb87).keep hk92 (by omega)); have e0_ := eb_.cellv (i := 0) (v := (.int .i64 a0 : Value)) rfl; have e1_ := eb_.cellv (i := 1) (v := (.int .i64 a1 : Value)) rfl; simp [go_sem, sEv, sLook, nbeq, e0_, e1_, Try.underlying29]) ?_
        refine rw_gcall (c := (n0 == p0 && (n1 == p1))) rfl rfl rfl (by simp [(nxt_no hn (not_true c95))]) rfl rfl rfl (by simp [go_sem, sEv, sLook, nbeq]) (place_Less.calls 3 p0 p1 a0 a1 _ w91 (less_lex _ _ _ _)) ?_
        rintro e_ w96 ⟨rfl, hb97⟩
        refine ⟨_, rfl, ?_⟩
        have hs_w96 := hb97.size
        refine rw_gval (c := (n0 == p0 && (n1 == p1))) (v := .bool (!(lexLt p0 p1 a0 a1))) (w' := w96) rfl rfl rfl (by simp [(nxt_no hn (not_true c95))]) rfl rfl rfl (by simp [go_sem, sEv, sLook, nbeq]) ?_
        refine rw_val (v := .bool (!(lexLt p0 p1 a0 a1))) (w' := w96) rfl rfl rfl rfl (by simp [go_sem, sEv, sLook, nbeq, (nxt_no hn (not_true c95))]) ?_
        refine rw_val (v := .bool (!(lexLt p0 p1 a0 a1))) (w' := w96) rfl rfl rfl rfl rfl ?_
        refine rw_end ?_
        refine w_weaken (G' := [(3, .pointer (some ⟨g1, 0, none⟩)), (4, .pointer (some ⟨g7, 0, none⟩)), (6, .bool (!(lexLt p0 p1 a0 a1))), (9, .pointer (some ⟨g85, 0, none⟩))]) ⟨rfl, rfl, rfl, rfl, trivial⟩ ?_
        refine w_ret (post_ret1 rfl rfl ?_)
        have hq98 : (!(lexLt p0 p1 a0 a1)) = true := by simp [c82]
        exact ⟨by rw [hq98], (chain (hk92.below (by omega) (chain (chain (chain (chain (chain (chain (chain (chain hb3 hb9) hb15) hb20) hb22) hb78) hb81) hb84) hb87)) hb97)⟩
      · refine w_skip ?_
        refine w_seq ?_
        refine w_region ?_
        refine rw_val (v := .agg #[.int .i64 p0, .int .i64 p1]) (w' := w91) rfl rfl rfl rfl (by have eb_ := (((((((((hk4.on hb9).on hb15).on hb20).on hb22).on hb78).on hb81).on hb84).on hb87).keep hk92 (by omega)); have e0_ := eb_.cellv (i := 0) (v := (.int .i64 p0 : Value)) rfl; have e1_ := eb_.cellv (i := 1) (v := (.int .i64 p1 : Value)) rfl; simp [go_sem, sEv, sLook, nbeq, e0_, e1_, Try.underlying29]) ?_
        refine rw_val (v := .agg #[.int .i64 n0, .int .i64 n1]) (w' := w91) rfl rfl rfl rfl (by have eb_ := hk93; have e0_ := eb_.cellv (i := 0) (v := (.int .i64 n0 : Value)) rfl; have e1_ := eb_.cellv (i := 1) (v := (.int .i64 n1 : Value)) rfl; simp [go_sem, sEv, sLook, nbeq, e0_, e1_, Try.underlying29]) ?_
        refine rw_call rfl rfl rfl rfl (by simp [go_sem, sEv, sLook, nbeq]) (place_Less.calls 3 p0 p1 n0 n1 _ w91 (less_lex _ _ _ _)) ?_
        rintro e_ w99 ⟨rfl, hb100⟩
        refine ⟨_, rfl, ?_⟩
        have hs_w99 := hb100.size
        refine rw_val (v := .bool (lexLt p0 p1 n0 n1)) (w' := w99) rfl rfl rfl rfl rfl ?_
        refine rw_gval (c := (lexLt p0 p1 n0 n1)) (v := .agg #[.int .i64 p0, .int .i64 p1]) (w' := w99) rfl rfl rfl (by simp [(nxt_lt hn (not_false c95))]) rfl rfl rfl (by have eb_ := ((((((((((hk4.on hb9).on hb15).on hb20).on hb22).on hb78).on hb81).on hb84).on hb87).keep hk92 (by omega)).on hb100); have e0_ := eb_.cellv (i := 0) (v := (.int .i64 p0 : Value)) rfl; have e1_ := eb_.cellv (i := 1) (v := (.int .i64 p1 : Value)) rfl; simp [go_sem, sEv, sLook, nbeq, e0_, e1_, Try.underlying29]) ?_
        refine rw_gval (c := (lexLt p0 p1 n0 n1)) (v := .agg #[.int .i64 a0, .int .i64 a1]) (w' := w99) rfl rfl rfl (by simp [(nxt_lt hn (not_false c95))]) rfl rfl rfl (by have eb_ := (((((((((hk10.on hb15).on hb20).on hb22).on hb78).on hb81).on hb84).on hb87).keep hk92 (by omega)).on hb100); have e0_ := eb_.cellv (i := 0) (v := (.int .i64 a0 : Value)) rfl; have e1_ := eb_.cellv (i := 1) (v := (.int .i64 a1 : Value)) rfl; simp [go_sem, sEv, sLook, nbeq, e0_, e1_, Try.underlying29]) ?_
        refine rw_gcall (c := (lexLt p0 p1 n0 n1)) rfl rfl rfl (by simp [(nxt_lt hn (not_false c95))]) rfl rfl rfl (by simp [go_sem, sEv, sLook, nbeq]) (place_Less.calls 3 p0 p1 a0 a1 _ w99 (less_lex _ _ _ _)) ?_
        rintro e_ w101 ⟨rfl, hb102⟩
        refine ⟨_, rfl, ?_⟩
        have hs_w101 := hb102.size
        refine rw_gval (c := (lexLt p0 p1 n0 n1)) (v := .bool (lexLt p0 p1 a0 a1)) (w' := w101) rfl rfl rfl (by simp [(nxt_lt hn (not_false c95))]) rfl rfl rfl (by rfl) ?_
        refine rw_off (c := (lexLt p0 p1 a0 a1)) rfl rfl rfl (by simp [c82]) rfl rfl ?_
        refine rw_off (c := (lexLt p0 p1 a0 a1)) rfl rfl rfl (by simp [c82]) rfl rfl ?_
        refine rw_off (c := (lexLt p0 p1 a0 a1)) rfl rfl rfl (by simp [c82]) rfl rfl ?_
        refine rw_gval (c := (lexLt p0 p1 n0 n1)) (v := .bool false) (w' := w101) rfl rfl rfl (by simp [(nxt_lt hn (not_false c95))]) rfl rfl rfl (by simp [go_sem, sEv, sLook, nbeq, c82]) ?_
        refine rw_gval (c := (lexLt p0 p1 n0 n1)) (v := .bool true) (w' := w101) rfl rfl rfl (by simp [(nxt_lt hn (not_false c95))]) rfl rfl rfl (by simp [go_sem, sEv, sLook, nbeq]) ?_
        refine rw_val (v := .bool true) (w' := w101) rfl rfl rfl rfl (by simp [go_sem, sEv, sLook, nbeq, (nxt_lt hn (not_false c95))]) ?_
        refine rw_val (v := .bool true) (w' := w101) rfl rfl rfl rfl rfl ?_
        refine rw_gval (c := true) (v := .agg #[.int .i64 p0, .int .i64 p1]) (w' := w101) rfl rfl rfl rfl rfl rfl rfl (by have eb_ := (((((((((((hk4.on hb9).on hb15).on hb20).on hb22).on hb78).on hb81).on hb84).on hb87).keep hk92 (by omega)).on hb100).on hb102); have e0_ := eb_.cellv (i := 0) (v := (.int .i64 p0 : Value)) rfl; have e1_ := eb_.cellv (i := 1) (v := (.int .i64 p1 : Value)) rfl; simp [go_sem, sEv, sLook, nbeq, e0_, e1_, Try.underlying29]) ?_
        refine rw_gval (c := true) (v := .agg #[.int .i64 p0, .int .i64 p1]) (w' := w101) rfl rfl rfl rfl rfl rfl rfl (by have eb_ := (((((((((((hk4.on hb9).on hb15).on hb20).on hb22).on hb78).on hb81).on hb84).on hb87).keep hk92 (by omega)).on hb100).on hb102); have e0_ := eb_.cellv (i := 0) (v := (.int .i64 p0 : Value)) rfl; have e1_ := eb_.cellv (i := 1) (v := (.int .i64 p1 : Value)) rfl; simp [go_sem, sEv, sLook, nbeq, e0_, e1_, Try.underlying29]) ?_
        refine rw_gval (c := true) (v := .agg #[.int .i64 n0, .int .i64 n1]) (w' := w101) rfl rfl rfl rfl rfl rfl rfl (by have eb_ := ((hk93.on hb100).on hb102); have e0_ := eb_.cellv (i := 0) (v := (.int .i64 n0 : Value)) rfl; have e1_ := eb_.cellv (i := 1) (v := (.int .i64 n1 : Value)) rfl; simp [go_sem, sEv, sLook, nbeq, e0_, e1_, Try.underlying29]) ?_
        refine rw_gcall (c := true) rfl rfl rfl rfl rfl rfl rfl (by simp [go_sem, sEv, sLook, nbeq]) (place_Within.calls 3 p0 p1 p0 p1 n0 n1 _ w101 (within_lex _ _ _ _ _ _)) ?_
        rintro e_ w103 ⟨rfl, hb104⟩
        refine ⟨_, rfl, ?_⟩
        have hs_w103 := hb104.size
        refine rw_val (v := .bool (!lexLt p0 p1 p0 p1 && lexLt p0 p1 n0 n1)) (w' := w103) rfl rfl rfl rfl (by simp [go_sem, sEv, sLook, nbeq]) ?_
        refine rw_val (v := .bool (!lexLt p0 p1 p0 p1 && lexLt p0 p1 n0 n1)) (w' := w103) rfl rfl rfl rfl rfl ?_
        refine rw_end ?_
        refine w_weaken (G' := [(6, .bool (!lexLt p0 p1 p0 p1 && lexLt p0 p1 n0 n1))]) ⟨rfl, trivial⟩ ?_
        refine w_ret (post_ret1 rfl rfl ?_)
        exact ⟨by rw [(within_self (nxt_lt hn (not_false c95)))], (chain (chain (chain (hk92.below (by omega) (chain (chain (chain (chain (chain (chain (chain (chain hb3 hb9) hb15) hb20) hb22) hb78) hb81) hb84) hb87)) hb100) hb102) hb104)⟩
    · refine rw_gval (c := (lexLt p0 p1 a0 a1)) (v := .bool (lexLt a0 a1 b0 b1)) (w' := w80) rfl rfl rfl (by simp [c82]) rfl rfl rfl (by rfl) ?_
      refine rw_val (v := .bool (lexLt a0 a1 b0 b1)) (w' := w80) rfl rfl rfl rfl (by simp [go_sem, sEv, sLook, nbeq, c82]) ?_
      refine rw_val (v := .bool (lexLt a0 a1 b0 b1)) (w' := w80) rfl rfl rfl rfl rfl ?_
      refine rw_gval (c := (lexLt a0 a1 b0 b1)) (v := .agg #[.int .i64 p0, .int .i64 p1]) (w' := w80) rfl rfl rfl (by simp [c24]) rfl rfl rfl (by have eb_ := ((((((hk4.on hb9).on hb15).on hb20).on hb22).on hb78).on hb81); have e0_ := eb_.cellv (i := 0) (v := (.int .i64 p0 : Value)) rfl; have e1_ := eb_.cellv (i := 1) (v := (.int .i64 p1 : Value)) rfl; simp [go_sem, sEv, sLook, nbeq, e0_, e1_, Try.underlying29]) ?_
      refine rw_gval (c := (lexLt a0 a1 b0 b1)) (v := .agg #[.int .i64 b0, .int .i64 b1]) (w' := w80) rfl rfl rfl (by simp [c24]) rfl rfl rfl (by have eb_ := ((((hk16.on hb20).on hb22).on hb78).on hb81); have e0_ := eb_.cellv (i := 0) (v := (.int .i64 b0 : Value)) rfl; have e1_ := eb_.cellv (i := 1) (v := (.int .i64 b1 : Value)) rfl; simp [go_sem, sEv, sLook, nbeq, e0_, e1_, Try.underlying29]) ?_
      refine rw_gcall (c := (lexLt a0 a1 b0 b1)) rfl rfl rfl (by simp [c24]) rfl rfl rfl (by simp [go_sem, sEv, sLook, nbeq]) (place_Less.calls 3 p0 p1 b0 b1 _ w80 (less_lex _ _ _ _)) ?_
      rintro e_ w105 ⟨rfl, hb106⟩
      refine ⟨_, rfl, ?_⟩
      have hs_w105 := hb106.size
      refine rw_gval (c := (lexLt a0 a1 b0 b1)) (v := .bool (!(lexLt p0 p1 b0 b1))) (w' := w105) rfl rfl rfl (by simp [c24]) rfl rfl rfl (by simp [go_sem, sEv, sLook, nbeq]) ?_
      refine rw_val (v := .bool (!(lexLt p0 p1 b0 b1))) (w' := w105) rfl rfl rfl rfl (by simp [go_sem, sEv, sLook, nbeq, c24]) ?_
      refine rw_end ?_
      refine w_weaken (G' := [(3, .pointer (some ⟨g1, 0, none⟩)), (4, .pointer (some ⟨g7, 0, none⟩)), (6, .bool false), (56, .bool (!(lexLt p0 p1 b0 b1)))]) ⟨rfl, rfl, rfl, rfl, trivial⟩ ?_
      have hq107 : (!(lexLt p0 p1 b0 b1)) = false := by simp [(lex_trans c82 c24)]
      refine w_cond_f rfl rfl hq107 ?_
      refine w_skip ?_
      refine w_seq ?_
      refine w_region ?_
      refine rw_val (v := .agg #[.int .i64 p0, .int .i64 p1]) (w' := w105) rfl rfl rfl rfl (by have eb_ := (((((((hk4.on hb9).on hb15).on hb20).on hb22).on hb78).on hb81).on hb106); have e0_ := eb_.cellv (i := 0) (v := (.int .i64 p0 : Value)) rfl; have e1_ := eb_.cellv (i := 1) (v := (.int .i64 p1 : Value)) rfl; simp [go_sem, sEv, sLook, nbeq, e0_, e1_, Try.underlying29]) ?_
      refine rw_call rfl rfl rfl rfl (by simp [go_sem, sEv, sLook, nbeq]) (place_After.calls p0 p1 n0 n1 nb w105 ((after_nxt p0 p1 hp0 hp1).trans (congrArg some hn))) ?_
      rintro e_ w108 ⟨rfl, hb109⟩
      refine ⟨_, rfl, ?_⟩
      have hs_w108 := hb109.size
      refine rw_val (v := .tuple #[.agg #[.int .i64 n0, .int .i64 n1], .bool nb]) (w' := w108) rfl rfl rfl rfl rfl ?_
      refine rw_val (v := .agg #[.int .i64 n0, .int .i64 n1]) (w' := w108) rfl rfl rfl rfl (by simp [go_sem, sEv, sLook, nbeq]) ?_
      refine rw_val (v := .bool nb) (w' := w108) rfl rfl rfl rfl (by simp [go_sem, sEv, sLook, nbeq]) ?_
      refine rw_new (cs := #[.int .i64 0, .int .i64 0]) (t := 29) (fun g => .pointer (some ⟨g, 0, none⟩)) rfl rfl rfl rfl (by simp [go_sem, sEv, sLook, nbeq, s_zero]) ?_
      intro g110 w111 hg115 hz114 hb112 hk113
      have hs_w111 := hb112.size
      have hb119 := hk113
      refine rw_store (g := g110) (i := 0) (l := [.int .i64 n0, .int .i64 n1]) (cs' := #[.int .i64 n0, .int .i64 n1]) rfl rfl rfl hb119 rfl (by have e0_ := hb119.cellv (i := 0) (v := (.int .i64 0 : Value)) rfl; have f0_ := hb119.frozen 0; have e1_ := hb119.cellv (i := 1) (v := (.int .i64 0 : Value)) rfl; have f1_ := hb119.frozen 1; simp [go_sem, sEv, sLook, nbeq, putCells, e0_, f0_, e1_, f1_, Try.underlying29]) ?_
      intro w116 hk117 hk118
      have hs_w116 := hk117.size
      refine rw_val (v := .bool nb) (w' := w116) rfl rfl rfl rfl rfl ?_
      refine rw_end ?_
      refine w_weaken (G' := [(3, .pointer (some ⟨g1, 0, none⟩)), (4, .pointer (some ⟨g7, 0, none⟩)), (6, .bool false), (9, .pointer (some ⟨g110, 0, none⟩)), (10, .bool nb)]) ⟨rfl, rfl, rfl, rfl, rfl, trivial⟩ ?_
      refine w_seq ?_
      refine w_seq ?_
      refine w_region ?_
      refine rw_val (v := .bool nb) (w' := w116) rfl rfl rfl rfl rfl ?_
      refine rw_val (v := .bool (!nb)) (w' := w116) rfl rfl rfl rfl (by simp [go_sem, sEv, sLook, nbeq]) ?_
      refine rw_end ?_
      have hq120 : (!nb) = false := by simp [(nxt_ex hn ha0.2 ha1.2 c82)]
      refine w_cond_f rfl rfl hq120 ?_
      refine w_skip ?_
      refine w_seq ?_
      refine w_region ?_
      refine rw_val (v := .agg #[.int .i64 p0, .int .i64 p1]) (w' := w116) rfl rfl rfl rfl (by have eb_ := ((((((((((hk4.on hb9).on hb15).on hb20).on hb22).on hb78).on hb81).on hb106).on hb109).on hb112).keep hk117 (by omega)); have e0_ := eb_.cellv (i := 0) (v := (.int .i64 p0 : Value)) rfl; have e1_ := eb_.cellv (i := 1) (v := (.int .i64 p1 : Value)) rfl; simp [go_sem, sEv, sLook, nbeq, e0_, e1_, Try.underlying29]) ?_
      refine rw_val (v := .agg #[.int .i64 n0, .int .i64 n1]) (w' := w116) rfl rfl rfl rfl (by have eb_ := hk118; have e0_ := eb_.cellv (i := 0) (v := (.int .i64 n0 : Value)) rfl; have e1_ := eb_.cellv (i := 1) (v := (.int .i64 n1 : Value)) rfl; simp [go_sem, sEv, sLook, nbeq, e0_, e1_, Try.underlying29]) ?_
      refine rw_call rfl rfl rfl rfl (by simp [go_sem, sEv, sLook, nbeq]) (place_Less.calls 3 p0 p1 n0 n1 _ w116 (less_lex _ _ _ _)) ?_
      rintro e_ w121 ⟨rfl, hb122⟩
      refine ⟨_, rfl, ?_⟩
      have hs_w121 := hb122.size
      refine rw_val (v := .bool (lexLt p0 p1 n0 n1)) (w' := w121) rfl rfl rfl rfl rfl ?_
      refine rw_gval (c := (lexLt p0 p1 n0 n1)) (v := .agg #[.int .i64 p0, .int .i64 p1]) (w' := w121) rfl rfl rfl (by simp [(nxt_lt hn (nxt_ex hn ha0.2 ha1.2 c82))]) rfl rfl rfl (by have eb_ := (((((((((((hk4.on hb9).on hb15).on hb20).on hb22).on hb78).on hb81).on hb106).on hb109).on hb112).keep hk117 (by omega)).on hb122); have e0_ := eb_.cellv (i := 0) (v := (.int .i64 p0 : Value)) rfl; have e1_ := eb_.cellv (i := 1) (v := (.int .i64 p1 : Value)) rfl; simp [go_sem, sEv, sLook, nbeq, e0_, e1_, Try.underlying29]) ?_
      refine rw_gval (c := (lexLt p0 p1 n0 n1)) (v := .agg #[.int .i64 a0, .int .i64 a1]) (w' := w121) rfl rfl rfl (by simp [(nxt_lt hn (nxt_ex hn ha0.2 ha1.2 c82))]) rfl rfl rfl (by have eb_ := ((((((((((hk10.on hb15).on hb20).on hb22).on hb78).on hb81).on hb106).on hb109).on hb112).keep hk117 (by omega)).on hb122); have e0_ := eb_.cellv (i := 0) (v := (.int .i64 a0 : Value)) rfl; have e1_ := eb_.cellv (i := 1) (v := (.int .i64 a1 : Value)) rfl; simp [go_sem, sEv, sLook, nbeq, e0_, e1_, Try.underlying29]) ?_
      refine rw_gcall (c := (lexLt p0 p1 n0 n1)) rfl rfl rfl (by simp [(nxt_lt hn (nxt_ex hn ha0.2 ha1.2 c82))]) rfl rfl rfl (by simp [go_sem, sEv, sLook, nbeq]) (place_Less.calls 3 p0 p1 a0 a1 _ w121 (less_lex _ _ _ _)) ?_
      rintro e_ w123 ⟨rfl, hb124⟩
      refine ⟨_, rfl, ?_⟩
      have hs_w123 := hb124.size
      refine rw_gval (c := (lexLt p0 p1 n0 n1)) (v := .bool (lexLt p0 p1 a0 a1)) (w' := w123) rfl rfl rfl (by simp [(nxt_lt hn (nxt_ex hn ha0.2 ha1.2 c82))]) rfl rfl rfl (by rfl) ?_
      refine rw_gval (c := (lexLt p0 p1 a0 a1)) (v := .agg #[.int .i64 a0, .int .i64 a1]) (w' := w123) rfl rfl rfl (by simp [c82]) rfl rfl rfl (by have eb_ := (((((((((((hk10.on hb15).on hb20).on hb22).on hb78).on hb81).on hb106).on hb109).on hb112).keep hk117 (by omega)).on hb122).on hb124); have e0_ := eb_.cellv (i := 0) (v := (.int .i64 a0 : Value)) rfl; have e1_ := eb_.cellv (i := 1) (v := (.int .i64 a1 : Value)) rfl; simp [go_sem, sEv, sLook, nbeq, e0_, e1_, Try.underlying29]) ?_
      refine rw_gval (c := (lexLt p0 p1 a0 a1)) (v := .agg #[.int .i64 n0, .int .i64 n1]) (w' := w123) rfl rfl rfl (by simp [c82]) rfl rfl rfl (by have eb_ := ((hk118.on hb122).on hb124); have e0_ := eb_.cellv (i := 0) (v := (.int .i64 n0 : Value)) rfl; have e1_ := eb_.cellv (i := 1) (v := (.int .i64 n1 : Value)) rfl; simp [go_sem, sEv, sLook, nbeq, e0_, e1_, Try.underlying29]) ?_
      refine rw_gcall (c := (lexLt p0 p1 a0 a1)) rfl rfl rfl (by simp [c82]) rfl rfl rfl (by simp [go_sem, sEv, sLook, nbeq]) (place_Less.calls 3 a0 a1 n0 n1 _ w123 (less_lex _ _ _ _)) ?_
      rintro e_ w125 ⟨rfl, hb126⟩
      refine ⟨_, rfl, ?_⟩
      have hs_w125 := hb126.size
      refine rw_gval (c := (lexLt p0 p1 n0 n1)) (v := .bool (lexLt a0 a1 n0 n1)) (w' := w125) rfl rfl rfl (by simp [(nxt_lt hn (nxt_ex hn ha0.2 ha1.2 c82))]) rfl rfl rfl (by simp [go_sem, sEv, sLook, nbeq, c82]) ?_
      refine rw_gval (c := (lexLt p0 p1 n0 n1)) (v := .bool (!(lexLt a0 a1 n0 n1))) (w' := w125) rfl rfl rfl (by simp [(nxt_lt hn (nxt_ex hn ha0.2 ha1.2 c82))]) rfl rfl rfl (by simp [go_sem, sEv, sLook, nbeq]) ?_
      refine rw_val (v := .bool (!(lexLt a0 a1 n0 n1))) (w' := w125) rfl rfl rfl rfl (by simp [go_sem, sEv, sLook, nbeq, (nxt_lt hn (nxt_ex hn ha0.2 ha1.2 c82))]) ?_
      refine rw_val (v := .bool (!(lexLt a0 a1 n0 n1))) (w' := w125) rfl rfl rfl rfl rfl ?_
      have hq127 : (!(lexLt a0 a1 n0 n1)) = true := by simp [(nxt_gap hn (nxt_ex hn ha0.2 ha1.2 c82) hp1.2 ha1.1 ha1.2 c82)]
      refine rw_gval (c := !(lexLt a0 a1 n0 n1)) (v := .agg #[.int .i64 p0, .int .i64 p1]) (w' := w125) rfl rfl rfl (by simp [hq127]) rfl rfl rfl (by have eb_ := (((((((((((((hk4.on hb9).on hb15).on hb20).on hb22).on hb78).on hb81).on hb106).on hb109).on hb112).keep hk117 (by omega)).on hb122).on hb124).on hb126); have e0_ := eb_.cellv (i := 0) (v := (.int .i64 p0 : Value)) rfl; have e1_ := eb_.cellv (i := 1) (v := (.int .i64 p1 : Value)) rfl; simp [go_sem, sEv, sLook, nbeq, e0_, e1_, Try.underlying29]) ?_
      refine rw_gval (c := !(lexLt a0 a1 n0 n1)) (v := .agg #[.int .i64 p0, .int .i64 p1]) (w' := w125) rfl rfl rfl (by simp [hq127]) rfl rfl rfl (by have eb_ := (((((((((((((hk4.on hb9).on hb15).on hb20).on hb22).on hb78).on hb81).on hb106).on hb109).on hb112).keep hk117 (by omega)).on hb122).on hb124).on hb126); have e0_ := eb_.cellv (i := 0) (v := (.int .i64 p0 : Value)) rfl; have e1_ := eb_.cellv (i := 1) (v := (.int .i64 p1 : Value)) rfl; simp [go_sem, sEv, sLook, nbeq, e0_, e1_, Try.underlying29]) ?_
      refine rw_gval (c := !(lexLt a0 a1 n0 n1)) (v := .agg #[.int .i64 n0, .int .i64 n1]) (w' := w125) rfl rfl rfl (by simp [hq127]) rfl rfl rfl (by have eb_ := (((hk118.on hb122).on hb124).on hb126); have e0_ := eb_.cellv (i := 0) (v := (.int .i64 n0 : Value)) rfl; have e1_ := eb_.cellv (i := 1) (v := (.int .i64 n1 : Value)) rfl; simp [go_sem, sEv, sLook, nbeq, e0_, e1_, Try.underlying29]) ?_
      refine rw_gcall (c := !(lexLt a0 a1 n0 n1)) rfl rfl rfl (by simp [hq127]) rfl rfl rfl (by simp [go_sem, sEv, sLook, nbeq]) (place_Within.calls 3 p0 p1 p0 p1 n0 n1 _ w125 (within_lex _ _ _ _ _ _)) ?_
      rintro e_ w128 ⟨rfl, hb129⟩
      refine ⟨_, rfl, ?_⟩
      have hs_w128 := hb129.size
      refine rw_val (v := .bool (!lexLt p0 p1 p0 p1 && lexLt p0 p1 n0 n1)) (w' := w128) rfl rfl rfl rfl (by simp [go_sem, sEv, sLook, nbeq, hq127]) ?_
      refine rw_val (v := .bool (!lexLt p0 p1 p0 p1 && lexLt p0 p1 n0 n1)) (w' := w128) rfl rfl rfl rfl rfl ?_
      refine rw_end ?_
      refine w_weaken (G' := [(6, .bool (!lexLt p0 p1 p0 p1 && lexLt p0 p1 n0 n1))]) ⟨rfl, trivial⟩ ?_
      refine w_ret (post_ret1 rfl rfl ?_)
      exact ⟨by rw [(within_self (nxt_lt hn (nxt_ex hn ha0.2 ha1.2 c82)))], (chain (chain (chain (chain (hk117.below (by omega) (chain (chain (chain (chain (chain (chain (chain (chain (chain hb3 hb9) hb15) hb20) hb22) hb78) hb81) hb106) hb109) hb112)) hb122) hb124) hb126) hb129)⟩

theorem strict_all (p0 p1 a0 a1 b0 b1 : Int) (w : World) (hp0 : -9223372036854775808 ≤ p0 ∧ p0 ≤ 9223372036854775807) (hp1 : -9223372036854775808 ≤ p1 ∧ p1 ≤ 9223372036854775807) (ha0 : -9223372036854775808 ≤ a0 ∧ a0 ≤ 9223372036854775807) (ha1 : -9223372036854775808 ≤ a1 ∧ a1 ≤ 9223372036854775807) :
    Calls Try.prog 7 #[.agg #[.int .i64 p0, .int .i64 p1], .agg #[.int .i64 a0, .int .i64 a1], .agg #[.int .i64 b0, .int .i64 b1]] w fun e w' => e = .returned (.bool true) ∧ Below w.heap.size w w' :=
  strict_calls p0 p1 a0 a1 b0 b1 _ _ _ rfl hp0 hp1 ha0 ha1 w
end Go.Proofs.Ytgedckgkddpkkaa.PPlaceOrders
