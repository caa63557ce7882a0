/- Which sample is later: the law's walk. -/
import Derived.Test.YtheaipbnbnjlgaaCeJoin
namespace Go.Proofs.Ytheaipbnbnjlgaa.Ce
open Go.RowKit Go.Proofs.YtheaipbnbnjlgaaW.PrintWords Go.Proofs.YtheaipbnbnjlgaaW.PrintLast Go.Proofs.YtheaipbnbnjlgaaW.PrintMore
open Go.Proofs.Ytheaipbnbnjlgaa.Flow
set_option linter.unusedVariables false
set_option linter.unusedSimpArgs false


theorem later_law (a0 a1 a2 a3 b0 b1 b2 b3 : Int) : (a0 == b0 && (a1 == b1 && (a2 == b2 && a3 == b3))) = (!later a0 a1 a2 a3 b0 b1 b2 b3 && !later b0 b1 b2 b3 a0 a1 a2 a3) := by
  rw [Bool.eq_iff_iff]
  unfold later
  by_cases h0 : a0 = b0
  · subst h0
    by_cases h1 : a1 = b1
    · subst h1
      by_cases h2 : a2 = b2
      · subst h2
        simp
        omega
      · have h2' : ¬ b2 = a2 := fun h => h2 h.symm
        simp [h2, h2']
        omega
    · have h1' : ¬ b1 = a1 := fun h => h1 h.symm
      simp [h1, h1']
      omega
  · have h0' : ¬ b0 = a0 := fun h => h0 h.symm
    simp [h0, h0']
    omega
set_option maxHeartbeats 4000000 in
theorem walkLater (w : World) (a0 a1 a2 a3 b0 b1 b2 b3 : Int) :
    Calls Try.prog 6 #[.agg #[.int .i64 a0, .int .i64 a1, .int .i64 a2, .int .i64 a3], .agg #[.int .i64 b0, .int .i64 b1, .int .i64 b2, .int .i64 b3]] w fun e w' => e = .returned (.bool true) ∧ Below w.heap.size w w' := by
  refine calls_flow Try.func6 rfl 30 rfl (Nat.le_of_ble_eq_true rfl) [(0, .agg #[.int .i64 a0, .int .i64 a1, .int .i64 a2, .int .i64 a3]), (1, .agg #[.int .i64 b0, .int .i64 b1, .int .i64 b2, .int .i64 b3])] ?_ ?_
  · intro t v h; exact args_look rfl t v h
  refine w_seq ?_
  refine w_region ?_
  refine rw_new (cs := #[.int .i64 a0, .int .i64 a1, .int .i64 a2, .int .i64 a3]) (t := 28) (fun g => .pointer (some ⟨g, 0, none⟩)) rfl rfl rfl rfl (by simp [go_sem, sEv, sLook, nbeq, i64_w, -List.getD_eq_getElem?_getD]) ?_
  intro g1 w2 hg6 hz5 hb3 hk4
  have hs_w2 := hb3.size
  refine rw_new (cs := #[.int .i64 b0, .int .i64 b1, .int .i64 b2, .int .i64 b3]) (t := 28) (fun g => .pointer (some ⟨g, 0, none⟩)) rfl rfl rfl rfl (by simp [go_sem, sEv, sLook, nbeq, i64_w, -List.getD_eq_getElem?_getD]) ?_
  intro g7 w8 hg12 hz11 hb9 hk10
  have hs_w8 := hb9.size
  refine rw_val (v := .bool false) (w' := w8) rfl rfl rfl rfl rfl ?_
  refine rw_end ?_
  refine w_seq ?_
  refine w_seq ?_
  refine w_region ?_
  refine rw_call rfl rfl rfl rfl (f := 10) (args := #[]) (by simp [go_sem, sEv, sLook, nbeq, i64_w, -List.getD_eq_getElem?_getD]) (alive_calls w8) ?_
  rintro e_ w13 ⟨rfl, hb14⟩
  refine ⟨_, rfl, ?_⟩
  have hs_w13 := hb14.size
  refine rw_val (v := .bool false) (w' := w13) rfl rfl rfl rfl (by simp [go_sem, sEv, sLook, nbeq, i64_w, -List.getD_eq_getElem?_getD]) ?_
  refine rw_end ?_
  refine w_cond_f rfl rfl rfl ?_
  refine w_skip ?_
  refine w_seq ?_
  rcases bcase (!(later a0 a1 a2 a3 b0 b1 b2 b3)) with cL | cL
  · refine w_drawk (M := [0, 0, 3, 0, 0, 31, 63, 127, 255, 255, 1023, 255, 255, 6399, 14591, 30975, 63743, 63743, 260351, 522495, 1046783, 2097151, 4194303, 8388607]) (ss := [Is (.agg #[.int .i64 a0, .int .i64 a1, .int .i64 a2, .int .i64 a3]), Is (.agg #[.int .i64 b0, .int .i64 b1, .int .i64 b2, .int .i64 b3]), (Is (.bool (later a0 a1 a2 a3 b0 b1 b2 b3))), Is (.agg #[.int .i64 a0, .int .i64 a1, .int .i64 a2, .int .i64 a3]), Is (.agg #[.int .i64 b0, .int .i64 b1, .int .i64 b2, .int .i64 b3]), (Is (.bool (later a0 a1 a2 a3 b0 b1 b2 b3))), Is (.bool true), Is (.bool true), Is (.agg #[.int .i64 a0, .int .i64 a1, .int .i64 a2, .int .i64 a3]), Is (.agg #[.int .i64 b0, .int .i64 b1, .int .i64 b2, .int .i64 b3]), Is (.bool (a0 == b0 && (a1 == b1 && (a2 == b2 && (a3 == b3))))), Is (.agg #[.int .i64 a0, .int .i64 a1, .int .i64 a2, .int .i64 a3]), Is (.agg #[.int .i64 b0, .int .i64 b1, .int .i64 b2, .int .i64 b3]), (Is (.bool (later a0 a1 a2 a3 b0 b1 b2 b3))), Is (.bool (!(later a0 a1 a2 a3 b0 b1 b2 b3))), Is (.bool (!(later a0 a1 a2 a3 b0 b1 b2 b3))), Is undef, Is undef, Is undef, Is undef, Is (.bool false)]) 21 rfl (by decide +kernel) ?_
    refine t_is (.agg #[.int .i64 a0, .int .i64 a1, .int .i64 a2, .int .i64 a3]) rfl rfl rfl rfl (fun W_ hW_ F_ => by have eb_ := (((hk4.on hb9).on hb14).on (below_of_drew hW_)); have e0_ := eb_.cellv (i := 0) (v := (.int .i64 a0 : Value)) rfl; have e1_ := eb_.cellv (i := 1) (v := (.int .i64 a1 : Value)) rfl; have e2_ := eb_.cellv (i := 2) (v := (.int .i64 a2 : Value)) rfl; have e3_ := eb_.cellv (i := 3) (v := (.int .i64 a3 : Value)) rfl; simp [go_sem, sEv, sLook, nbeq, i64_w, -List.getD_eq_getElem?_getD, e0_, e1_, e2_, e3_, Try.underlying28]) ?_
    refine t_is (.agg #[.int .i64 b0, .int .i64 b1, .int .i64 b2, .int .i64 b3]) rfl rfl rfl rfl (fun W_ hW_ F_ => by have eb_ := ((hk10.on hb14).on (below_of_drew hW_)); have e0_ := eb_.cellv (i := 0) (v := (.int .i64 b0 : Value)) rfl; have e1_ := eb_.cellv (i := 1) (v := (.int .i64 b1 : Value)) rfl; have e2_ := eb_.cellv (i := 2) (v := (.int .i64 b2 : Value)) rfl; have e3_ := eb_.cellv (i := 3) (v := (.int .i64 b3 : Value)) rfl; simp [go_sem, sEv, sLook, nbeq, i64_w, -List.getD_eq_getElem?_getD, e0_, e1_, e2_, e3_, Try.underlying28]) ?_
    refine t_call (f := 16) (args := #[.agg #[.int .i64 a0, .int .i64 a1, .int .i64 a2, .int .i64 a3], .agg #[.int .i64 b0, .int .i64 b1, .int .i64 b2, .int .i64 b3]]) (Is (.bool (later a0 a1 a2 a3 b0 b1 b2 b3))) rfl rfl rfl rfl (fun W_ => by simp [go_sem, sEv, sLook, nbeq, i64_w, -List.getD_eq_getElem?_getD]) (fun W_ hW_ F_ => ?_) ?_
    · refine (later_calls a0 a1 a2 a3 b0 b1 b2 b3 W_).mono ?_
      rintro e_ w_ ⟨rfl, hb_⟩
      exact ⟨_, rfl, rfl, hb_⟩
    rintro _ rfl
    refine t_is (.agg #[.int .i64 a0, .int .i64 a1, .int .i64 a2, .int .i64 a3]) rfl rfl rfl rfl (fun W_ hW_ F_ => by have eb_ := (((hk4.on hb9).on hb14).on (below_of_drew hW_)); have e0_ := eb_.cellv (i := 0) (v := (.int .i64 a0 : Value)) rfl; have e1_ := eb_.cellv (i := 1) (v := (.int .i64 a1 : Value)) rfl; have e2_ := eb_.cellv (i := 2) (v := (.int .i64 a2 : Value)) rfl; have e3_ := eb_.cellv (i := 3) (v := (.int .i64 a3 : Value)) rfl; simp [go_sem, sEv, sLook, nbeq, i64_w, -List.getD_eq_getElem?_getD, e0_, e1_, e2_, e3_, Try.underlying28]) ?_
    refine t_is (.agg #[.int .i64 b0, .int .i64 b1, .int .i64 b2, .int .i64 b3]) rfl rfl rfl rfl (fun W_ hW_ F_ => by have eb_ := ((hk10.on hb14).on (below_of_drew hW_)); have e0_ := eb_.cellv (i := 0) (v := (.int .i64 b0 : Value)) rfl; have e1_ := eb_.cellv (i := 1) (v := (.int .i64 b1 : Value)) rfl; have e2_ := eb_.cellv (i := 2) (v := (.int .i64 b2 : Value)) rfl; have e3_ := eb_.cellv (i := 3) (v := (.int .i64 b3 : Value)) rfl; simp [go_sem, sEv, sLook, nbeq, i64_w, -List.getD_eq_getElem?_getD, e0_, e1_, e2_, e3_, Try.underlying28]) ?_
    refine t_call (f := 17) (args := #[.agg #[.int .i64 a0, .int .i64 a1, .int .i64 a2, .int .i64 a3], .agg #[.int .i64 b0, .int .i64 b1, .int .i64 b2, .int .i64 b3]]) (Is (.bool (later a0 a1 a2 a3 b0 b1 b2 b3))) rfl rfl rfl rfl (fun W_ => by simp [go_sem, sEv, sLook, nbeq, i64_w, -List.getD_eq_getElem?_getD]) (fun W_ hW_ F_ => ?_) ?_
    · refine (rlater_calls a0 a1 a2 a3 b0 b1 b2 b3 W_).mono ?_
      rintro e_ w_ ⟨rfl, hb_⟩
      exact ⟨_, rfl, rfl, hb_⟩
    rintro _ rfl
    refine t_is (.bool true) rfl rfl rfl rfl (fun W_ hW_ F_ => by simp [go_sem, sEv, sLook, nbeq, i64_w, -List.getD_eq_getElem?_getD]) ?_
    refine t_is (.bool true) rfl rfl rfl rfl (fun W_ hW_ F_ => rfl) ?_
    refine t_gis (c := true) (.agg #[.int .i64 a0, .int .i64 a1, .int .i64 a2, .int .i64 a3]) rfl rfl rfl rfl rfl rfl rfl (fun W_ hW_ F_ => by have eb_ := (((hk4.on hb9).on hb14).on (below_of_drew hW_)); have e0_ := eb_.cellv (i := 0) (v := (.int .i64 a0 : Value)) rfl; have e1_ := eb_.cellv (i := 1) (v := (.int .i64 a1 : Value)) rfl; have e2_ := eb_.cellv (i := 2) (v := (.int .i64 a2 : Value)) rfl; have e3_ := eb_.cellv (i := 3) (v := (.int .i64 a3 : Value)) rfl; simp [go_sem, sEv, sLook, nbeq, i64_w, -List.getD_eq_getElem?_getD, e0_, e1_, e2_, e3_, Try.underlying28]) ?_
    refine t_gis (c := true) (.agg #[.int .i64 b0, .int .i64 b1, .int .i64 b2, .int .i64 b3]) rfl rfl rfl rfl rfl rfl rfl (fun W_ hW_ F_ => by have eb_ := ((hk10.on hb14).on (below_of_drew hW_)); have e0_ := eb_.cellv (i := 0) (v := (.int .i64 b0 : Value)) rfl; have e1_ := eb_.cellv (i := 1) (v := (.int .i64 b1 : Value)) rfl; have e2_ := eb_.cellv (i := 2) (v := (.int .i64 b2 : Value)) rfl; have e3_ := eb_.cellv (i := 3) (v := (.int .i64 b3 : Value)) rfl; simp [go_sem, sEv, sLook, nbeq, i64_w, -List.getD_eq_getElem?_getD, e0_, e1_, e2_, e3_, Try.underlying28]) ?_
    refine t_gis (c := true) (.bool (a0 == b0 && (a1 == b1 && (a2 == b2 && (a3 == b3))))) rfl rfl rfl rfl rfl rfl rfl (fun W_ hW_ F_ => by simp [go_sem, sEv, sLook, nbeq, i64_w, -List.getD_eq_getElem?_getD, eqA28]) ?_
    refine t_gis (c := true) (.agg #[.int .i64 a0, .int .i64 a1, .int .i64 a2, .int .i64 a3]) rfl rfl rfl rfl rfl rfl rfl (fun W_ hW_ F_ => by have eb_ := (((hk4.on hb9).on hb14).on (below_of_drew hW_)); have e0_ := eb_.cellv (i := 0) (v := (.int .i64 a0 : Value)) rfl; have e1_ := eb_.cellv (i := 1) (v := (.int .i64 a1 : Value)) rfl; have e2_ := eb_.cellv (i := 2) (v := (.int .i64 a2 : Value)) rfl; have e3_ := eb_.cellv (i := 3) (v := (.int .i64 a3 : Value)) rfl; simp [go_sem, sEv, sLook, nbeq, i64_w, -List.getD_eq_getElem?_getD, e0_, e1_, e2_, e3_, Try.underlying28]) ?_
    refine t_gis (c := true) (.agg #[.int .i64 b0, .int .i64 b1, .int .i64 b2, .int .i64 b3]) rfl rfl rfl rfl rfl rfl rfl (fun W_ hW_ F_ => by have eb_ := ((hk10.on hb14).on (below_of_drew hW_)); have e0_ := eb_.cellv (i := 0) (v := (.int .i64 b0 : Value)) rfl; have e1_ := eb_.cellv (i := 1) (v := (.int .i64 b1 : Value)) rfl; have e2_ := eb_.cellv (i := 2) (v := (.int .i64 b2 : Value)) rfl; have e3_ := eb_.cellv (i := 3) (v := (.int .i64 b3 : Value)) rfl; simp [go_sem, sEv, sLook, nbeq, i64_w, -List.getD_eq_getElem?_getD, e0_, e1_, e2_, e3_, Try.underlying28]) ?_
    refine t_gcall (c := true) (f := 16) (args := #[.agg #[.int .i64 a0, .int .i64 a1, .int .i64 a2, .int .i64 a3], .agg #[.int .i64 b0, .int .i64 b1, .int .i64 b2, .int .i64 b3]]) (Is (.bool (later a0 a1 a2 a3 b0 b1 b2 b3))) rfl rfl rfl rfl rfl rfl rfl (fun W_ => by simp [go_sem, sEv, sLook, nbeq, i64_w, -List.getD_eq_getElem?_getD]) (fun W_ hW_ F_ => ?_) ?_
    · refine (later_calls a0 a1 a2 a3 b0 b1 b2 b3 W_).mono ?_
      rintro e_ w_ ⟨rfl, hb_⟩
      exact ⟨_, rfl, rfl, hb_⟩
    rintro _ rfl
    refine t_gis (c := true) (.bool (!(later a0 a1 a2 a3 b0 b1 b2 b3))) rfl rfl rfl rfl rfl rfl rfl (fun W_ hW_ F_ => by simp [go_sem, sEv, sLook, nbeq, i64_w, -List.getD_eq_getElem?_getD]) ?_
    refine t_gis (c := true) (.bool (!(later a0 a1 a2 a3 b0 b1 b2 b3))) rfl rfl rfl rfl rfl rfl rfl (fun W_ hW_ F_ => rfl) ?_
    refine t_off (c := !(later a0 a1 a2 a3 b0 b1 b2 b3)) rfl rfl rfl (by first | (rw [cL]; rfl) | simp [cL]) rfl rfl ?_
    refine t_off (c := !(later a0 a1 a2 a3 b0 b1 b2 b3)) rfl rfl rfl (by first | (rw [cL]; rfl) | simp [cL]) rfl rfl ?_
    refine t_off (c := !(later a0 a1 a2 a3 b0 b1 b2 b3)) rfl rfl rfl (by first | (rw [cL]; rfl) | simp [cL]) rfl rfl ?_
    refine t_off (c := !(later a0 a1 a2 a3 b0 b1 b2 b3)) rfl rfl rfl (by first | (rw [cL]; rfl) | simp [cL]) rfl rfl ?_
    refine t_gis (c := true) (.bool false) rfl rfl rfl rfl rfl rfl rfl (fun W_ hW_ F_ => by first | (simp [go_sem, sEv, sLook, nbeq, i64_w, -List.getD_eq_getElem?_getD, cL]; done) | (rw [cL]; simp [go_sem, sEv, sLook, nbeq, i64_w, -List.getD_eq_getElem?_getD]; done) | (simp [go_sem, sEv, sLook, nbeq, i64_w, -List.getD_eq_getElem?_getD] <;> omega) | (simp [go_sem, sEv, sLook, nbeq, i64_w, -List.getD_eq_getElem?_getD]; intro h_; exact absurd (by omega) h_)) ?_
    refine t_tail ?_
    intro w15 hb16_ F17
    have hb16 := below_of_drew hb16_
    have hs_w15 := hb16.size
    refine rw_on (c := true) rfl rfl rfl rfl ?_
    refine rw_val (v := .bool ((a0 == b0 && (a1 == b1 && (a2 == b2 && (a3 == b3)))) == false)) (w' := w15) rfl rfl rfl rfl (by first | (simp [go_sem, sEv, sLook, nbeq, i64_w, -List.getD_eq_getElem?_getD]; done) | (simp [go_sem, sEv, sLook, nbeq, i64_w, -List.getD_eq_getElem?_getD] <;> cases h0_ : (a0 == b0 && (a1 == b1 && (a2 == b2 && (a3 == b3)))) <;> rfl)) ?_
    refine rw_val (v := .bool ((a0 == b0 && (a1 == b1 && (a2 == b2 && (a3 == b3)))) == false)) (w' := w15) rfl rfl rfl rfl (by simp [go_sem, sEv, sLook, nbeq, i64_w, -List.getD_eq_getElem?_getD]) ?_
    refine rw_val (v := .bool ((a0 == b0 && (a1 == b1 && (a2 == b2 && (a3 == b3)))) == false)) (w' := w15) rfl rfl rfl rfl rfl ?_
    refine rw_end ?_
    refine w_weaken (G' := [(4, .bool ((a0 == b0 && (a1 == b1 && (a2 == b2 && (a3 == b3)))) == false))]) ⟨rfl, trivial⟩ ?_
    have hq18 : ((a0 == b0 && (a1 == b1 && (a2 == b2 && (a3 == b3)))) == false) = true := by rw [later_law, (not_false cL)]; simp
    refine w_ret (post_ret1 rfl rfl ?_)
    exact ⟨by rw [show ((a0 == b0 && (a1 == b1 && (a2 == b2 && (a3 == b3)))) == false) = true from hq18], (chain (chain (chain hb3 hb9) hb14) hb16)⟩
  · refine w_drawk (M := [0, 0, 3, 0, 0, 31, 63, 127, 255, 255, 1023, 255, 255, 6399, 14591, 30975, 63743, 63743, 260351, 522495, 1046783, 2097151, 4194303, 8388607]) (ss := [Is (.agg #[.int .i64 a0, .int .i64 a1, .int .i64 a2, .int .i64 a3]), Is (.agg #[.int .i64 b0, .int .i64 b1, .int .i64 b2, .int .i64 b3]), (Is (.bool (later a0 a1 a2 a3 b0 b1 b2 b3))), Is (.agg #[.int .i64 a0, .int .i64 a1, .int .i64 a2, .int .i64 a3]), Is (.agg #[.int .i64 b0, .int .i64 b1, .int .i64 b2, .int .i64 b3]), (Is (.bool (later a0 a1 a2 a3 b0 b1 b2 b3))), Is (.bool true), Is (.bool true), Is (.agg #[.int .i64 a0, .int .i64 a1, .int .i64 a2, .int .i64 a3]), Is (.agg #[.int .i64 b0, .int .i64 b1, .int .i64 b2, .int .i64 b3]), Is (.bool (a0 == b0 && (a1 == b1 && (a2 == b2 && (a3 == b3))))), Is (.agg #[.int .i64 a0, .int .i64 a1, .int .i64 a2, .int .i64 a3]), Is (.agg #[.int .i64 b0, .int .i64 b1, .int .i64 b2, .int .i64 b3]), (Is (.bool (later a0 a1 a2 a3 b0 b1 b2 b3))), Is (.bool (!(later a0 a1 a2 a3 b0 b1 b2 b3))), Is (.bool (!(later a0 a1 a2 a3 b0 b1 b2 b3))), Is (.agg #[.int .i64 b0, .int .i64 b1, .int .i64 b2, .int .i64 b3]), Is (.agg #[.int .i64 a0, .int .i64 a1, .int .i64 a2, .int .i64 a3]), (Is (.bool (later b0 b1 b2 b3 a0 a1 a2 a3))), Is (.bool (!(later b0 b1 b2 b3 a0 a1 a2 a3))), Is (.bool (!(later b0 b1 b2 b3 a0 a1 a2 a3)))]) 21 rfl (by decide +kernel) ?_
    refine t_is (.agg #[.int .i64 a0, .int .i64 a1, .int .i64 a2, .int .i64 a3]) rfl rfl rfl rfl (fun W_ hW_ F_ => by have eb_ := (((hk4.on hb9).on hb14).on (below_of_drew hW_)); have e0_ := eb_.cellv (i := 0) (v := (.int .i64 a0 : Value)) rfl; have e1_ := eb_.cellv (i := 1) (v := (.int .i64 a1 : Value)) rfl; have e2_ := eb_.cellv (i := 2) (v := (.int .i64 a2 : Value)) rfl; have e3_ := eb_.cellv (i := 3) (v := (.int .i64 a3 : Value)) rfl; simp [go_sem, sEv, sLook, nbeq, i64_w, -List.getD_eq_getElem?_getD, e0_, e1_, e2_, e3_, Try.underlying28]) ?_
    refine t_is (.agg #[.int .i64 b0, .int .i64 b1, .int .i64 b2, .int .i64 b3]) rfl rfl rfl rfl (fun W_ hW_ F_ => by have eb_ := ((hk10.on hb14).on (below_of_drew hW_)); have e0_ := eb_.cellv (i := 0) (v := (.int .i64 b0 : Value)) rfl; have e1_ := eb_.cellv (i := 1) (v := (.int .i64 b1 : Value)) rfl; have e2_ := eb_.cellv (i := 2) (v := (.int .i64 b2 : Value)) rfl; have e3_ := eb_.cellv (i := 3) (v := (.int .i64 b3 : Value)) rfl; simp [go_sem, sEv, sLook, nbeq, i64_w, -List.getD_eq_getElem?_getD, e0_, e1_, e2_, e3_, Try.underlying28]) ?_
    refine t_call (f := 16) (args := #[.agg #[.int .i64 a0, .int .i64 a1, .int .i64 a2, .int .i64 a3], .agg #[.int .i64 b0, .int .i64 b1, .int .i64 b2, .int .i64 b3]]) (Is (.bool (later a0 a1 a2 a3 b0 b1 b2 b3))) rfl rfl rfl rfl (fun W_ => by simp [go_sem, sEv, sLook, nbeq, i64_w, -List.getD_eq_getElem?_getD]) (fun W_ hW_ F_ => ?_) ?_
    · refine (later_calls a0 a1 a2 a3 b0 b1 b2 b3 W_).mono ?_
      rintro e_ w_ ⟨rfl, hb_⟩
      exact ⟨_, rfl, rfl, hb_⟩
    rintro _ rfl
    refine t_is (.agg #[.int .i64 a0, .int .i64 a1, .int .i64 a2, .int .i64 a3]) rfl rfl rfl rfl (fun W_ hW_ F_ => by have eb_ := (((hk4.on hb9).on hb14).on (below_of_drew hW_)); have e0_ := eb_.cellv (i := 0) (v := (.int .i64 a0 : Value)) rfl; have e1_ := eb_.cellv (i := 1) (v := (.int .i64 a1 : Value)) rfl; have e2_ := eb_.cellv (i := 2) (v := (.int .i64 a2 : Value)) rfl; have e3_ := eb_.cellv (i := 3) (v := (.int .i64 a3 : Value)) rfl; simp [go_sem, sEv, sLook, nbeq, i64_w, -List.getD_eq_getElem?_getD, e0_, e1_, e2_, e3_, Try.underlying28]) ?_
    refine t_is (.agg #[.int .i64 b0, .int .i64 b1, .int .i64 b2, .int .i64 b3]) rfl rfl rfl rfl (fun W_ hW_ F_ => by have eb_ := ((hk10.on hb14).on (below_of_drew hW_)); have e0_ := eb_.cellv (i := 0) (v := (.int .i64 b0 : Value)) rfl; have e1_ := eb_.cellv (i := 1) (v := (.int .i64 b1 : Value)) rfl; have e2_ := eb_.cellv (i := 2) (v := (.int .i64 b2 : Value)) rfl; have e3_ := eb_.cellv (i := 3) (v := (.int .i64 b3 : Value)) rfl; simp [go_sem, sEv, sLook, nbeq, i64_w, -List.getD_eq_getElem?_getD, e0_, e1_, e2_, e3_, Try.underlying28]) ?_
    refine t_call (f := 17) (args := #[.agg #[.int .i64 a0, .int .i64 a1, .int .i64 a2, .int .i64 a3], .agg #[.int .i64 b0, .int .i64 b1, .int .i64 b2, .int .i64 b3]]) (Is (.bool (later a0 a1 a2 a3 b0 b1 b2 b3))) rfl rfl rfl rfl (fun W_ => by simp [go_sem, sEv, sLook, nbeq, i64_w, -List.getD_eq_getElem?_getD]) (fun W_ hW_ F_ => ?_) ?_
    · refine (rlater_calls a0 a1 a2 a3 b0 b1 b2 b3 W_).mono ?_
      rintro e_ w_ ⟨rfl, hb_⟩
      exact ⟨_, rfl, rfl, hb_⟩
    rintro _ rfl
    refine t_is (.bool true) rfl rfl rfl rfl (fun W_ hW_ F_ => by simp [go_sem, sEv, sLook, nbeq, i64_w, -List.getD_eq_getElem?_getD]) ?_
    refine t_is (.bool true) rfl rfl rfl rfl (fun W_ hW_ F_ => rfl) ?_
    refine t_gis (c := true) (.agg #[.int .i64 a0, .int .i64 a1, .int .i64 a2, .int .i64 a3]) rfl rfl rfl rfl rfl rfl rfl (fun W_ hW_ F_ => by have eb_ := (((hk4.on hb9).on hb14).on (below_of_drew hW_)); have e0_ := eb_.cellv (i := 0) (v := (.int .i64 a0 : Value)) rfl; have e1_ := eb_.cellv (i := 1) (v := (.int .i64 a1 : Value)) rfl; have e2_ := eb_.cellv (i := 2) (v := (.int .i64 a2 : Value)) rfl; have e3_ := eb_.cellv (i := 3) (v := (.int .i64 a3 : Value)) rfl; simp [go_sem, sEv, sLook, nbeq, i64_w, -List.getD_eq_getElem?_getD, e0_, e1_, e2_, e3_, Try.underlying28]) ?_
    refine t_gis (c := true) (.agg #[.int .i64 b0, .int .i64 b1, .int .i64 b2, .int .i64 b3]) rfl rfl rfl rfl rfl rfl rfl (fun W_ hW_ F_ => by have eb_ := ((hk10.on hb14).on (below_of_drew hW_)); have e0_ := eb_.cellv (i := 0) (v := (.int .i64 b0 : Value)) rfl; have e1_ := eb_.cellv (i := 1) (v := (.int .i64 b1 : Value)) rfl; have e2_ := eb_.cellv (i := 2) (v := (.int .i64 b2 : Value)) rfl; have e3_ := eb_.cellv (i := 3) (v := (.int .i64 b3 : Value)) rfl; simp [go_sem, sEv, sLook, nbeq, i64_w, -List.getD_eq_getElem?_getD, e0_, e1_, e2_, e3_, Try.underlying28]) ?_
    refine t_gis (c := true) (.bool (a0 == b0 && (a1 == b1 && (a2 == b2 && (a3 == b3))))) rfl rfl rfl rfl rfl rfl rfl (fun W_ hW_ F_ => by simp [go_sem, sEv, sLook, nbeq, i64_w, -List.getD_eq_getElem?_getD, eqA28]) ?_
    refine t_gis (c := true) (.agg #[.int .i64 a0, .int .i64 a1, .int .i64 a2, .int .i64 a3]) rfl rfl rfl rfl rfl rfl rfl (fun W_ hW_ F_ => by have eb_ := (((hk4.on hb9).on hb14).on (below_of_drew hW_)); have e0_ := eb_.cellv (i := 0) (v := (.int .i64 a0 : Value)) rfl; have e1_ := eb_.cellv (i := 1) (v := (.int .i64 a1 : Value)) rfl; have e2_ := eb_.cellv (i := 2) (v := (.int .i64 a2 : Value)) rfl; have e3_ := eb_.cellv (i := 3) (v := (.int .i64 a3 : Value)) rfl; simp [go_sem, sEv, sLook, nbeq, i64_w, -List.getD_eq_getElem?_getD, e0_, e1_, e2_, e3_, Try.underlying28]) ?_
    refine t_gis (c := true) (.agg #[.int .i64 b0, .int .i64 b1, .int .i64 b2, .int .i64 b3]) rfl rfl rfl rfl rfl rfl rfl (fun W_ hW_ F_ => by have eb_ := ((hk10.on hb14).on (below_of_drew hW_)); have e0_ := eb_.cellv (i := 0) (v := (.int .i64 b0 : Value)) rfl; have e1_ := eb_.cellv (i := 1) (v := (.int .i64 b1 : Value)) rfl; have e2_ := eb_.cellv (i := 2) (v := (.int .i64 b2 : Value)) rfl; have e3_ := eb_.cellv (i := 3) (v := (.int .i64 b3 : Value)) rfl; simp [go_sem, sEv, sLook, nbeq, i64_w, -List.getD_eq_getElem?_getD, e0_, e1_, e2_, e3_, Try.underlying28]) ?_
    refine t_gcall (c := true) (f := 16) (args := #[.agg #[.int .i64 a0, .int .i64 a1, .int .i64 a2, .int .i64 a3], .agg #[.int .i64 b0, .int .i64 b1, .int .i64 b2, .int .i64 b3]]) (Is (.bool (later a0 a1 a2 a3 b0 b1 b2 b3))) rfl rfl rfl rfl rfl rfl rfl (fun W_ => by simp [go_sem, sEv, sLook, nbeq, i64_w, -List.getD_eq_getElem?_getD]) (fun W_ hW_ F_ => ?_) ?_
    · refine (later_calls a0 a1 a2 a3 b0 b1 b2 b3 W_).mono ?_
      rintro e_ w_ ⟨rfl, hb_⟩
      exact ⟨_, rfl, rfl, hb_⟩
    rintro _ rfl
    refine t_gis (c := true) (.bool (!(later a0 a1 a2 a3 b0 b1 b2 b3))) rfl rfl rfl rfl rfl rfl rfl (fun W_ hW_ F_ => by simp [go_sem, sEv, sLook, nbeq, i64_w, -List.getD_eq_getElem?_getD]) ?_
    refine t_gis (c := true) (.bool (!(later a0 a1 a2 a3 b0 b1 b2 b3))) rfl rfl rfl rfl rfl rfl rfl (fun W_ hW_ F_ => rfl) ?_
    refine t_gis (c := !(later a0 a1 a2 a3 b0 b1 b2 b3)) (.agg #[.int .i64 b0, .int .i64 b1, .int .i64 b2, .int .i64 b3]) rfl rfl rfl (by first | (rw [cL]; rfl) | simp [cL]) rfl rfl rfl (fun W_ hW_ F_ => by have eb_ := ((hk10.on hb14).on (below_of_drew hW_)); have e0_ := eb_.cellv (i := 0) (v := (.int .i64 b0 : Value)) rfl; have e1_ := eb_.cellv (i := 1) (v := (.int .i64 b1 : Value)) rfl; have e2_ := eb_.cellv (i := 2) (v := (.int .i64 b2 : Value)) rfl; have e3_ := eb_.cellv (i := 3) (v := (.int .i64 b3 : Value)) rfl; simp [go_sem, sEv, sLook, nbeq, i64_w, -List.getD_eq_getElem?_getD, e0_, e1_, e2_, e3_, Try.underlying28]) ?_
    refine t_gis (c := !(later a0 a1 a2 a3 b0 b1 b2 b3)) (.agg #[.int .i64 a0, .int .i64 a1, .int .i64 a2, .int .i64 a3]) rfl rfl rfl (by first | (rw [cL]; rfl) | simp [cL]) rfl rfl rfl (fun W_ hW_ F_ => by have eb_ := (((hk4.on hb9).on hb14).on (below_of_drew hW_)); have e0_ := eb_.cellv (i := 0) (v := (.int .i64 a0 : Value)) rfl; have e1_ := eb_.cellv (i := 1) (v := (.int .i64 a1 : Value)) rfl; have e2_ := eb_.cellv (i := 2) (v := (.int .i64 a2 : Value)) rfl; have e3_ := eb_.cellv (i := 3) (v := (.int .i64 a3 : Value)) rfl; simp [go_sem, sEv, sLook, nbeq, i64_w, -List.getD_eq_getElem?_getD, e0_, e1_, e2_, e3_, Try.underlying28]) ?_
    refine t_gcall (c := !(later a0 a1 a2 a3 b0 b1 b2 b3)) (f := 16) (args := #[.agg #[.int .i64 b0, .int .i64 b1, .int .i64 b2, .int .i64 b3], .agg #[.int .i64 a0, .int .i64 a1, .int .i64 a2, .int .i64 a3]]) (Is (.bool (later b0 b1 b2 b3 a0 a1 a2 a3))) rfl rfl rfl (by first | (rw [cL]; rfl) | simp [cL]) rfl rfl rfl (fun W_ => by simp [go_sem, sEv, sLook, nbeq, i64_w, -List.getD_eq_getElem?_getD]) (fun W_ hW_ F_ => ?_) ?_
    · refine (later_calls b0 b1 b2 b3 a0 a1 a2 a3 W_).mono ?_
      rintro e_ w_ ⟨rfl, hb_⟩
      exact ⟨_, rfl, rfl, hb_⟩
    rintro _ rfl
    refine t_gis (c := !(later a0 a1 a2 a3 b0 b1 b2 b3)) (.bool (!(later b0 b1 b2 b3 a0 a1 a2 a3))) rfl rfl rfl (by first | (rw [cL]; rfl) | simp [cL]) rfl rfl rfl (fun W_ hW_ F_ => by simp [go_sem, sEv, sLook, nbeq, i64_w, -List.getD_eq_getElem?_getD]) ?_
    refine t_gis (c := true) (.bool (!(later b0 b1 b2 b3 a0 a1 a2 a3))) rfl rfl rfl rfl rfl rfl rfl (fun W_ hW_ F_ => by first | (simp [go_sem, sEv, sLook, nbeq, i64_w, -List.getD_eq_getElem?_getD, cL]; done) | (rw [cL]; simp [go_sem, sEv, sLook, nbeq, i64_w, -List.getD_eq_getElem?_getD]; done) | (simp [go_sem, sEv, sLook, nbeq, i64_w, -List.getD_eq_getElem?_getD] <;> omega) | (simp [go_sem, sEv, sLook, nbeq, i64_w, -List.getD_eq_getElem?_getD]; intro h_; exact absurd (by omega) h_)) ?_
    refine t_tail ?_
    intro w19 hb20_ F21
    have hb20 := below_of_drew hb20_
    have hs_w19 := hb20.size
    refine rw_on (c := true) rfl rfl rfl rfl ?_
    refine rw_val (v := .bool ((a0 == b0 && (a1 == b1 && (a2 == b2 && (a3 == b3)))) == (!(later b0 b1 b2 b3 a0 a1 a2 a3)))) (w' := w19) rfl rfl rfl rfl (by first | (simp [go_sem, sEv, sLook, nbeq, i64_w, -List.getD_eq_getElem?_getD]; done) | (simp [go_sem, sEv, sLook, nbeq, i64_w, -List.getD_eq_getElem?_getD] <;> cases h0_ : (a0 == b0 && (a1 == b1 && (a2 == b2 && (a3 == b3)))) <;> cases h1_ : (later b0 b1 b2 b3 a0 a1 a2 a3) <;> rfl)) ?_
    refine rw_val (v := .bool ((a0 == b0 && (a1 == b1 && (a2 == b2 && (a3 == b3)))) == (!(later b0 b1 b2 b3 a0 a1 a2 a3)))) (w' := w19) rfl rfl rfl rfl (by simp [go_sem, sEv, sLook, nbeq, i64_w, -List.getD_eq_getElem?_getD]) ?_
    refine rw_val (v := .bool ((a0 == b0 && (a1 == b1 && (a2 == b2 && (a3 == b3)))) == (!(later b0 b1 b2 b3 a0 a1 a2 a3)))) (w' := w19) rfl rfl rfl rfl rfl ?_
    refine rw_end ?_
    refine w_weaken (G' := [(4, .bool ((a0 == b0 && (a1 == b1 && (a2 == b2 && (a3 == b3)))) == (!(later b0 b1 b2 b3 a0 a1 a2 a3))))]) ⟨rfl, trivial⟩ ?_
    have hq22 : ((a0 == b0 && (a1 == b1 && (a2 == b2 && (a3 == b3)))) == (!(later b0 b1 b2 b3 a0 a1 a2 a3))) = true := by rw [later_law, (not_true cL)]; simp
    refine w_ret (post_ret1 rfl rfl ?_)
    exact ⟨by rw [show ((a0 == b0 && (a1 == b1 && (a2 == b2 && (a3 == b3)))) == (!(later b0 b1 b2 b3 a0 a1 a2 a3))) = true from hq22], (chain (chain (chain hb3 hb9) hb14) hb20)⟩
end Go.Proofs.Ytheaipbnbnjlgaa.Ce
