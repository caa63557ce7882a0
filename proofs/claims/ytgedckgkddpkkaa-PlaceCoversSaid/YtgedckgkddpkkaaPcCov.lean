/- When all cells of an operation are ahead of places: the walks. -/
import Derived.Test.YtgedckgkddpkkaaPcPure
import Derived.Test.YtgedckgkddpkkaaFlowS
namespace Go.Proofs.Ytgedckgkddpkkaa.PPlaceCells
open Go.RowKit Go.Proofs.YtgedckgkddpkkaaW.PrintWords Go.Proofs.YtgedckgkddpkkaaW.PrintLast Go.Proofs.YtgedckgkddpkkaaW.PrintMore
open Go.Proofs.Ytgedckgkddpkkaa.Flow
set_option linter.unusedVariables false
set_option linter.unusedSimpArgs false


theorem info29 : (Try.prog.info? 29).map (fun i => (i.zero, i.size, i.bytes)) = some (some (.agg #[.int .i64 0, .int .i64 0]), 2, 16) := by kernel_rfl
set_option maxHeartbeats 4000000 in
theorem closure_calls (w : World) (g : Nat) (A3 : Option Addr) (c3 : Nat) (ps : List S29) (x : S31) (hb : Blk w g 45 #[.slice A3 ps.length c3]) (hP : k29.C w A3 ps.length ps) (hcp : ps.length ≤ c3) :
    Calls Try.prog 35 #[.agg #[.int .i64 x.f0, .int .i64 x.f1.f0, .int .i64 x.f1.f1], .pointer (some ⟨g, 0, none⟩)] w fun e w' => e = .returned (.bool (!okId ps x)) ∧ Below w.heap.size w w' := by
  refine calls_flow Try.func35 rfl 25 rfl (Nat.le_of_ble_eq_true rfl) [(0, .agg #[.int .i64 x.f0, .int .i64 x.f1.f0, .int .i64 x.f1.f1]), (1, .pointer (some ⟨g, 0, none⟩))] ?_ ?_
  · intro t v h; exact args_look rfl t v h
  refine w_seq ?_
  refine w_region ?_
  refine rw_new (cs := #[.int .i64 x.f0, .int .i64 x.f1.f0, .int .i64 x.f1.f1]) (t := 31) (fun g => .pointer (some ⟨g, 0, none⟩)) rfl rfl rfl rfl (by simp [go_sem, sEv, sLook, nbeq, i64_w]) ?_
  intro g1 w2 hg6 hz5 hb3 hk4
  have hs_w2 := hb3.size
  refine rw_val (v := .bool false) (w' := w2) rfl rfl rfl rfl rfl ?_
  refine rw_end ?_
  refine w_seq ?_
  rcases bcase (decide (x.f0 < 0)) with cA | cA
  · have l7 : ¬ (x.f0 < 0) := of_decide_eq_false cA
    rcases bcase (decide (((ps.length : Nat) : Int) ≤ x.f0)) with cB | cB
    · have l8 : ¬ (((ps.length : Nat) : Int) ≤ x.f0) := of_decide_eq_false cB
      obtain ⟨ad9, hA10, hc11⟩ := kd_at (Kd.C_below hP hb3) (fun x : S29 => [.int .i64 x.f0, .int .i64 x.f1]) (fun x cs h => k29_open h) z29 x.f0.toNat (by omega)
      subst hA10
      have he12 : w2.cell? (ad9.add (x.f0.toNat * 2)) = some (.int .i64 ((ps.getD x.f0.toNat z29).f0)) := cell_0 (hc11 0 _ rfl)
      have he13 : w2.cell? ⟨(ad9.add (x.f0.toNat * 2)).block, (ad9.add (x.f0.toNat * 2)).off + 1, none⟩ = some (.int .i64 ((ps.getD x.f0.toNat z29).f1)) := cell_j (hc11 1 _ rfl)
      refine w_drawk (M := [0, 1, 3, 7, 15, 31, 15, 79, 255, 511, 1023, 2047, 4095, 2047, 2047, 18431, 59391, 124927, 262143, 524287, 1048575, 2097151]) (ss := [Is (.pointer (some ⟨g1, 0, none⟩)), Is (.int .i64 x.f0), Is (.bool (decide (x.f0 < 0))), Is (.bool (decide (x.f0 < 0))), Is (.pointer (some ⟨g1, 0, none⟩)), Is (.int .i64 x.f0), Is (.slice (some ad9) ps.length c3), Is (.int .i64 ((ps.length : Nat) : Int)), Is (.bool (decide (((ps.length : Nat) : Int) ≤ x.f0))), Is (.bool (decide (((ps.length : Nat) : Int) ≤ x.f0))), Is (.bool (decide (((ps.length : Nat) : Int) ≤ x.f0))), Is (.pointer (some ⟨g1, 1, none⟩)), Is (.agg #[.int .i64 x.f1.f0, .int .i64 x.f1.f1]), Is (.slice (some ad9) ps.length c3), Is (.pointer (some ⟨g1, 0, none⟩)), Is (.int .i64 x.f0), Is (.pointer (some (ad9.add (x.f0.toNat * 2)))), Is (.agg #[.int .i64 ((ps.getD x.f0.toNat z29).f0), .int .i64 ((ps.getD x.f0.toNat z29).f1)])]) 18 rfl (by decide +kernel) ?_
      refine t_is (.pointer (some ⟨g1, 0, none⟩)) rfl rfl rfl rfl (fun W_ hW_ F_ => by simp [go_sem, sEv, sLook, nbeq, i64_w, Try.underlying31]) ?_
      refine t_is (.int .i64 x.f0) rfl rfl rfl rfl (fun W_ hW_ F_ => by have eb_ := (hk4.on (below_of_drew hW_)); have e0_ := eb_.cellv (i := 0) (v := (.int .i64 x.f0 : Value)) rfl; simp [go_sem, sEv, sLook, nbeq, i64_w, e0_]) ?_
      refine t_is (.bool (decide (x.f0 < 0))) rfl rfl rfl rfl (fun W_ hW_ F_ => by simp [go_sem, sEv, sLook, nbeq, i64_w]) ?_
      refine t_is (.bool (decide (x.f0 < 0))) rfl rfl rfl rfl (fun W_ hW_ F_ => rfl) ?_
      refine t_gis (c := decide (x.f0 < 0)) (.pointer (some ⟨g1, 0, none⟩)) rfl rfl rfl (by first | (rw [cA]; rfl) | simp [cA]) rfl rfl rfl (fun W_ hW_ F_ => by simp [go_sem, sEv, sLook, nbeq, i64_w, Try.underlying31]) ?_
      refine t_gis (c := decide (x.f0 < 0)) (.int .i64 x.f0) rfl rfl rfl (by first | (rw [cA]; rfl) | simp [cA]) rfl rfl rfl (fun W_ hW_ F_ => by have eb_ := (hk4.on (below_of_drew hW_)); have e0_ := eb_.cellv (i := 0) (v := (.int .i64 x.f0 : Value)) rfl; simp [go_sem, sEv, sLook, nbeq, i64_w, e0_]) ?_
      refine t_gis (c := decide (x.f0 < 0)) (.slice (some ad9) ps.length c3) rfl rfl rfl (by first | (rw [cA]; rfl) | simp [cA]) rfl rfl rfl (fun W_ hW_ F_ => by have eb_ := ((hb.on hb3).on (below_of_drew hW_)); have e0_ := eb_.cellv (i := 0) (v := (.slice (some ad9) ps.length c3 : Value)) rfl; simp [go_sem, sEv, sLook, nbeq, i64_w, e0_, Try.underlying45]) ?_
      refine t_gis (c := decide (x.f0 < 0)) (.int .i64 ((ps.length : Nat) : Int)) rfl rfl rfl (by first | (rw [cA]; rfl) | simp [cA]) rfl rfl rfl (fun W_ hW_ F_ => (by simp [go_sem, sEv, sLook, nbeq, i64_w])) ?_
      refine t_gis (c := decide (x.f0 < 0)) (.bool (decide (((ps.length : Nat) : Int) ≤ x.f0))) rfl rfl rfl (by first | (rw [cA]; rfl) | simp [cA]) rfl rfl rfl (fun W_ hW_ F_ => by simp [go_sem, sEv, sLook, nbeq, i64_w]) ?_
      refine t_is (.bool (decide (((ps.length : Nat) : Int) ≤ x.f0))) rfl rfl rfl rfl (fun W_ hW_ F_ => by first | (simp [go_sem, sEv, sLook, nbeq, i64_w, cA]; done) | (rw [cA]; simp [go_sem, sEv, sLook, nbeq, i64_w]; done) | (simp [go_sem, sEv, sLook, nbeq, i64_w] <;> omega) | (simp [go_sem, sEv, sLook, nbeq, i64_w]; intro h_; exact absurd (by omega) h_)) ?_
      refine t_is (.bool (decide (((ps.length : Nat) : Int) ≤ x.f0))) rfl rfl rfl rfl (fun W_ hW_ F_ => rfl) ?_
      refine t_gis (c := decide (((ps.length : Nat) : Int) ≤ x.f0)) (.pointer (some ⟨g1, 1, none⟩)) rfl rfl rfl (by first | (rw [cB]; rfl) | simp [cB]) rfl rfl rfl (fun W_ hW_ F_ => by simp [go_sem, sEv, sLook, nbeq, i64_w, Try.underlying31]) ?_
      refine t_gis (c := decide (((ps.length : Nat) : Int) ≤ x.f0)) (.agg #[.int .i64 x.f1.f0, .int .i64 x.f1.f1]) rfl rfl rfl (by first | (rw [cB]; rfl) | simp [cB]) rfl rfl rfl (fun W_ hW_ F_ => by have eb_ := (hk4.on (below_of_drew hW_)); have e0_ := eb_.cellv (i := 1) (v := (.int .i64 x.f1.f0 : Value)) rfl; have e1_ := eb_.cellv (i := 2) (v := (.int .i64 x.f1.f1 : Value)) rfl; simp [go_sem, sEv, sLook, nbeq, i64_w, e0_, e1_, Try.underlying29]) ?_
      refine t_gis (c := decide (((ps.length : Nat) : Int) ≤ x.f0)) (.slice (some ad9) ps.length c3) rfl rfl rfl (by first | (rw [cB]; rfl) | simp [cB]) rfl rfl rfl (fun W_ hW_ F_ => by have eb_ := ((hb.on hb3).on (below_of_drew hW_)); have e0_ := eb_.cellv (i := 0) (v := (.slice (some ad9) ps.length c3 : Value)) rfl; simp [go_sem, sEv, sLook, nbeq, i64_w, e0_, Try.underlying45]) ?_
      refine t_gis (c := decide (((ps.length : Nat) : Int) ≤ x.f0)) (.pointer (some ⟨g1, 0, none⟩)) rfl rfl rfl (by first | (rw [cB]; rfl) | simp [cB]) rfl rfl rfl (fun W_ hW_ F_ => by simp [go_sem, sEv, sLook, nbeq, i64_w, Try.underlying31]) ?_
      refine t_gis (c := decide (((ps.length : Nat) : Int) ≤ x.f0)) (.int .i64 x.f0) rfl rfl rfl (by first | (rw [cB]; rfl) | simp [cB]) rfl rfl rfl (fun W_ hW_ F_ => by have eb_ := (hk4.on (below_of_drew hW_)); have e0_ := eb_.cellv (i := 0) (v := (.int .i64 x.f0 : Value)) rfl; simp [go_sem, sEv, sLook, nbeq, i64_w, e0_]) ?_
      refine t_gis (c := decide (((ps.length : Nat) : Int) ≤ x.f0)) (.pointer (some (ad9.add (x.f0.toNat * 2)))) rfl rfl rfl (by first | (rw [cB]; rfl) | simp [cB]) rfl rfl rfl (fun W_ hW_ F_ => (by rw [show x.f0 = ((x.f0.toNat : Nat) : Int) by omega]; exact (run_as (run_at_k (P := Try.prog) (e := 29) (by kernel_rfl) (by kernel_rfl) x.f0.toNat (by omega) _)))) ?_
      refine t_gis (c := decide (((ps.length : Nat) : Int) ≤ x.f0)) (.agg #[.int .i64 ((ps.getD x.f0.toNat z29).f0), .int .i64 ((ps.getD x.f0.toNat z29).f1)]) rfl rfl rfl (by first | (rw [cB]; rfl) | simp [cB]) rfl rfl rfl (fun W_ hW_ F_ => by have e0_ := cellOn he12 (below_of_drew hW_); have e1_ := cellOn he13 (below_of_drew hW_); simp [go_sem, sEv, sLook, nbeq, i64_w, e0_, e1_, Try.underlying29]) ?_
      refine t_tail ?_
      intro w14 hb15_ F16
      have hb15 := below_of_drew hb15_
      have hs_w14 := hb15.size
      refine rw_on (c := decide (((ps.length : Nat) : Int) ≤ x.f0)) rfl rfl rfl (by first | (rw [cB]; rfl) | simp [cB]) ?_
      refine rw_call rfl rfl rfl rfl (f := 17) (args := #[.agg #[.int .i64 x.f1.f0, .int .i64 x.f1.f1], .agg #[.int .i64 ((ps.getD x.f0.toNat z29).f0), .int .i64 ((ps.getD x.f0.toNat z29).f1)]]) (by simp [go_sem, sEv, sLook, nbeq, i64_w]) (place_Less.calls 3 x.f1.f0 x.f1.f1 ((ps.getD x.f0.toNat z29).f0) ((ps.getD x.f0.toNat z29).f1) _ w14 (less_lex _ _ _ _)) ?_
      rintro e_ w17 ⟨rfl, hb18⟩
      refine ⟨_, rfl, ?_⟩
      have hs_w17 := hb18.size
      refine rw_on (c := decide (((ps.length : Nat) : Int) ≤ x.f0)) rfl rfl rfl (by first | (rw [cB]; rfl) | simp [cB]) ?_
      refine rw_val (v := .bool (!(lexLt x.f1.f0 x.f1.f1 ((ps.getD x.f0.toNat z29).f0) ((ps.getD x.f0.toNat z29).f1)))) (w' := w17) rfl rfl rfl rfl (by simp [go_sem, sEv, sLook, nbeq, i64_w]) ?_
      refine rw_val (v := .bool (!(lexLt x.f1.f0 x.f1.f1 ((ps.getD x.f0.toNat z29).f0) ((ps.getD x.f0.toNat z29).f1)))) (w' := w17) rfl rfl rfl rfl (by first | (simp [go_sem, sEv, sLook, nbeq, i64_w, cB]; done) | (rw [cB]; simp [go_sem, sEv, sLook, nbeq, i64_w]; done) | (simp [go_sem, sEv, sLook, nbeq, i64_w] <;> omega) | (simp [go_sem, sEv, sLook, nbeq, i64_w]; intro h_; exact absurd (by omega) h_)) ?_
      refine rw_val (v := .bool (!(lexLt x.f1.f0 x.f1.f1 ((ps.getD x.f0.toNat z29).f0) ((ps.getD x.f0.toNat z29).f1)))) (w' := w17) rfl rfl rfl rfl rfl ?_
      refine rw_end ?_
      refine w_weaken (G' := [(3, .bool (!(lexLt x.f1.f0 x.f1.f1 ((ps.getD x.f0.toNat z29).f0) ((ps.getD x.f0.toNat z29).f1))))]) ⟨rfl, trivial⟩ ?_
      refine w_ret (post_ret1 rfl rfl ?_)
      refine ⟨?_, (chain (chain hb3 hb15) hb18)⟩
      congr 2
      unfold okId
      rw [decide_eq_true (show 0 ≤ x.f0 by omega), decide_eq_true (show x.f0 < (ps.length : Int) by omega)]
      simp
    · have l19 : (((ps.length : Nat) : Int) ≤ x.f0) := of_decide_eq_true cB
      refine w_drawk (M := [0, 1, 3, 7, 15, 31, 15, 79, 255, 511, 1023, 2047, 4095, 2047, 2047, 18431, 59391, 124927, 262143, 524287, 1048575, 2097151]) (ss := [Is (.pointer (some ⟨g1, 0, none⟩)), Is (.int .i64 x.f0), Is (.bool (decide (x.f0 < 0))), Is (.bool (decide (x.f0 < 0))), Is (.pointer (some ⟨g1, 0, none⟩)), Is (.int .i64 x.f0), Is (.slice A3 ps.length c3), Is (.int .i64 ((ps.length : Nat) : Int)), Is (.bool (decide (((ps.length : Nat) : Int) ≤ x.f0))), Is (.bool (decide (((ps.length : Nat) : Int) ≤ x.f0))), Is (.bool (decide (((ps.length : Nat) : Int) ≤ x.f0))), Is undef, Is undef, Is undef, Is undef, Is undef, Is undef, Is undef]) 18 rfl (by decide +kernel) ?_
      refine t_is (.pointer (some ⟨g1, 0, none⟩)) rfl rfl rfl rfl (fun W_ hW_ F_ => by simp [go_sem, sEv, sLook, nbeq, i64_w, Try.underlying31]) ?_
      refine t_is (.int .i64 x.f0) rfl rfl rfl rfl (fun W_ hW_ F_ => by have eb_ := (hk4.on (below_of_drew hW_)); have e0_ := eb_.cellv (i := 0) (v := (.int .i64 x.f0 : Value)) rfl; simp [go_sem, sEv, sLook, nbeq, i64_w, e0_]) ?_
      refine t_is (.bool (decide (x.f0 < 0))) rfl rfl rfl rfl (fun W_ hW_ F_ => by simp [go_sem, sEv, sLook, nbeq, i64_w]) ?_
      refine t_is (.bool (decide (x.f0 < 0))) rfl rfl rfl rfl (fun W_ hW_ F_ => rfl) ?_
      refine t_gis (c := decide (x.f0 < 0)) (.pointer (some ⟨g1, 0, none⟩)) rfl rfl rfl (by first | (rw [cA]; rfl) | simp [cA]) rfl rfl rfl (fun W_ hW_ F_ => by simp [go_sem, sEv, sLook, nbeq, i64_w, Try.underlying31]) ?_
      refine t_gis (c := decide (x.f0 < 0)) (.int .i64 x.f0) rfl rfl rfl (by first | (rw [cA]; rfl) | simp [cA]) rfl rfl rfl (fun W_ hW_ F_ => by have eb_ := (hk4.on (below_of_drew hW_)); have e0_ := eb_.cellv (i := 0) (v := (.int .i64 x.f0 : Value)) rfl; simp [go_sem, sEv, sLook, nbeq, i64_w, e0_]) ?_
      refine t_gis (c := decide (x.f0 < 0)) (.slice A3 ps.length c3) rfl rfl rfl (by first | (rw [cA]; rfl) | simp [cA]) rfl rfl rfl (fun W_ hW_ F_ => by have eb_ := ((hb.on hb3).on (below_of_drew hW_)); have e0_ := eb_.cellv (i := 0) (v := (.slice A3 ps.length c3 : Value)) rfl; simp [go_sem, sEv, sLook, nbeq, i64_w, e0_, Try.underlying45]) ?_
      refine t_gis (c := decide (x.f0 < 0)) (.int .i64 ((ps.length : Nat) : Int)) rfl rfl rfl (by first | (rw [cA]; rfl) | simp [cA]) rfl rfl rfl (fun W_ hW_ F_ => (by simp [go_sem, sEv, sLook, nbeq, i64_w])) ?_
      refine t_gis (c := decide (x.f0 < 0)) (.bool (decide (((ps.length : Nat) : Int) ≤ x.f0))) rfl rfl rfl (by first | (rw [cA]; rfl) | simp [cA]) rfl rfl rfl (fun W_ hW_ F_ => by simp [go_sem, sEv, sLook, nbeq, i64_w]) ?_
      refine t_is (.bool (decide (((ps.length : Nat) : Int) ≤ x.f0))) rfl rfl rfl rfl (fun W_ hW_ F_ => by first | (simp [go_sem, sEv, sLook, nbeq, i64_w, cA]; done) | (rw [cA]; simp [go_sem, sEv, sLook, nbeq, i64_w]; done) | (simp [go_sem, sEv, sLook, nbeq, i64_w] <;> omega) | (simp [go_sem, sEv, sLook, nbeq, i64_w]; intro h_; exact absurd (by omega) h_)) ?_
      refine t_is (.bool (decide (((ps.length : Nat) : Int) ≤ x.f0))) rfl rfl rfl rfl (fun W_ hW_ F_ => rfl) ?_
      refine t_off (c := decide (((ps.length : Nat) : Int) ≤ x.f0)) rfl rfl rfl (by first | (rw [cB]; rfl) | simp [cB]) rfl rfl ?_
      refine t_off (c := decide (((ps.length : Nat) : Int) ≤ x.f0)) rfl rfl rfl (by first | (rw [cB]; rfl) | simp [cB]) rfl rfl ?_
      refine t_off (c := decide (((ps.length : Nat) : Int) ≤ x.f0)) rfl rfl rfl (by first | (rw [cB]; rfl) | simp [cB]) rfl rfl ?_
      refine t_off (c := decide (((ps.length : Nat) : Int) ≤ x.f0)) rfl rfl rfl (by first | (rw [cB]; rfl) | simp [cB]) rfl rfl ?_
      refine t_off (c := decide (((ps.length : Nat) : Int) ≤ x.f0)) rfl rfl rfl (by first | (rw [cB]; rfl) | simp [cB]) rfl rfl ?_
      refine t_off (c := decide (((ps.length : Nat) : Int) ≤ x.f0)) rfl rfl rfl (by first | (rw [cB]; rfl) | simp [cB]) rfl rfl ?_
      refine t_off (c := decide (((ps.length : Nat) : Int) ≤ x.f0)) rfl rfl rfl (by first | (rw [cB]; rfl) | simp [cB]) rfl rfl ?_
      refine t_tail ?_
      intro w20 hb21_ F22
      have hb21 := below_of_drew hb21_
      have hs_w20 := hb21.size
      refine rw_off (c := decide (((ps.length : Nat) : Int) ≤ x.f0)) rfl rfl rfl (by first | (rw [cB]; rfl) | simp [cB]) rfl rfl ?_
      refine rw_off (c := decide (((ps.length : Nat) : Int) ≤ x.f0)) rfl rfl rfl (by first | (rw [cB]; rfl) | simp [cB]) rfl rfl ?_
      refine rw_val (v := .bool true) (w' := w20) rfl rfl rfl rfl (by first | (simp [go_sem, sEv, sLook, nbeq, i64_w, cB]; done) | (rw [cB]; simp [go_sem, sEv, sLook, nbeq, i64_w]; done) | (simp [go_sem, sEv, sLook, nbeq, i64_w] <;> omega) | (simp [go_sem, sEv, sLook, nbeq, i64_w]; intro h_; exact absurd (by omega) h_)) ?_
      refine rw_val (v := .bool true) (w' := w20) rfl rfl rfl rfl rfl ?_
      refine rw_end ?_
      refine w_weaken (G' := [(3, .bool true)]) ⟨rfl, trivial⟩ ?_
      refine w_ret (post_ret1 rfl rfl ?_)
      refine ⟨?_, (chain hb3 hb21)⟩
      congr 2
      unfold okId
      rw [decide_eq_false (show ¬ x.f0 < (ps.length : Int) by omega)]; simp
  · have l23 : (x.f0 < 0) := of_decide_eq_true cA
    refine w_drawk (M := [0, 1, 3, 7, 15, 31, 15, 79, 255, 511, 1023, 2047, 4095, 2047, 2047, 18431, 59391, 124927, 262143, 524287, 1048575, 2097151]) (ss := [Is (.pointer (some ⟨g1, 0, none⟩)), Is (.int .i64 x.f0), Is (.bool (decide (x.f0 < 0))), Is (.bool (decide (x.f0 < 0))), Is undef, Is undef, Is undef, Is undef, Is undef, Is (.bool true), Is (.bool true), Is undef, Is undef, Is undef, Is undef, Is undef, Is undef, Is undef]) 18 rfl (by decide +kernel) ?_
    refine t_is (.pointer (some ⟨g1, 0, none⟩)) rfl rfl rfl rfl (fun W_ hW_ F_ => by simp [go_sem, sEv, sLook, nbeq, i64_w, Try.underlying31]) ?_
    refine t_is (.int .i64 x.f0) rfl rfl rfl rfl (fun W_ hW_ F_ => by have eb_ := (hk4.on (below_of_drew hW_)); have e0_ := eb_.cellv (i := 0) (v := (.int .i64 x.f0 : Value)) rfl; simp [go_sem, sEv, sLook, nbeq, i64_w, e0_]) ?_
    refine t_is (.bool (decide (x.f0 < 0))) rfl rfl rfl rfl (fun W_ hW_ F_ => by simp [go_sem, sEv, sLook, nbeq, i64_w]) ?_
    refine t_is (.bool (decide (x.f0 < 0))) rfl rfl rfl rfl (fun W_ hW_ F_ => rfl) ?_
    refine t_off (c := decide (x.f0 < 0)) rfl rfl rfl (by first | (rw [cA]; rfl) | simp [cA]) rfl rfl ?_
    refine t_off (c := decide (x.f0 < 0)) rfl rfl rfl (by first | (rw [cA]; rfl) | simp [cA]) rfl rfl ?_
    refine t_off (c := decide (x.f0 < 0)) rfl rfl rfl (by first | (rw [cA]; rfl) | simp [cA]) rfl rfl ?_
    refine t_off (c := decide (x.f0 < 0)) rfl rfl rfl (by first | (rw [cA]; rfl) | simp [cA]) rfl rfl ?_
    refine t_off (c := decide (x.f0 < 0)) rfl rfl rfl (by first | (rw [cA]; rfl) | simp [cA]) rfl rfl ?_
    refine t_is (.bool true) rfl rfl rfl rfl (fun W_ hW_ F_ => by first | (simp [go_sem, sEv, sLook, nbeq, i64_w, cA]; done) | (rw [cA]; simp [go_sem, sEv, sLook, nbeq, i64_w]; done) | (simp [go_sem, sEv, sLook, nbeq, i64_w] <;> omega) | (simp [go_sem, sEv, sLook, nbeq, i64_w]; intro h_; exact absurd (by omega) h_)) ?_
    refine t_is (.bool true) rfl rfl rfl rfl (fun W_ hW_ F_ => rfl) ?_
    refine t_off (c := true) rfl rfl rfl rfl rfl rfl ?_
    refine t_off (c := true) rfl rfl rfl rfl rfl rfl ?_
    refine t_off (c := true) rfl rfl rfl rfl rfl rfl ?_
    refine t_off (c := true) rfl rfl rfl rfl rfl rfl ?_
    refine t_off (c := true) rfl rfl rfl rfl rfl rfl ?_
    refine t_off (c := true) rfl rfl rfl rfl rfl rfl ?_
    refine t_off (c := true) rfl rfl rfl rfl rfl rfl ?_
    refine t_tail ?_
    intro w24 hb25_ F26
    have hb25 := below_of_drew hb25_
    have hs_w24 := hb25.size
    refine rw_off (c := true) rfl rfl rfl rfl rfl rfl ?_
    refine rw_off (c := true) rfl rfl rfl rfl rfl rfl ?_
    refine rw_val (v := .bool true) (w' := w24) rfl rfl rfl rfl (by simp [go_sem, sEv, sLook, nbeq, i64_w]) ?_
    refine rw_val (v := .bool true) (w' := w24) rfl rfl rfl rfl rfl ?_
    refine rw_end ?_
    refine w_weaken (G' := [(3, .bool true)]) ⟨rfl, trivial⟩ ?_
    refine w_ret (post_ret1 rfl rfl ?_)
    refine ⟨?_, (chain hb3 hb25)⟩
    congr 2
    unfold okId
    rw [decide_eq_false (by omega)]; simp
set_option maxHeartbeats 4000000 in
theorem index_calls (w : World) (g : Nat) (A1 A3 : Option Addr) (c1 c3 : Nat) (ps : List S29) (ids : List S31) (hI : k31.C w A1 ids.length ids) (hci : ids.length ≤ c1) (hsz : ids.length ≤ 100000) (hb : Blk w g 45 #[.slice A3 ps.length c3]) (hP : k29.C w A3 ps.length ps) (hcp : ps.length ≤ c3) :
    Calls Try.prog 38 #[.slice A1 ids.length c1, .func (.func 35) #[] #[.pointer (some ⟨g, 0, none⟩)]] w fun e w' => ∃ v : Int, e = .returned (.int .i64 v) ∧ decide (0 ≤ v) = ids.any (fun x => !okId ps x) ∧ Below w.heap.size w w' := by
  refine calls_flow Try.func38 rfl 19 rfl (Nat.le_of_ble_eq_true rfl) [(0, .slice A1 ids.length c1), (1, .func (.func 35) #[] #[.pointer (some ⟨g, 0, none⟩)])] ?_ ?_
  · intro t v h; exact args_look rfl t v h
  refine w_seq ?_
  refine w_region ?_
  refine rw_val (v := .int .i64 0) (w' := w) rfl rfl rfl rfl rfl ?_
  refine rw_end ?_
  refine w_seq ?_
  refine w_seq ?_
  refine w_region ?_
  refine rw_val (v := .slice A1 ids.length c1) (w' := w) rfl rfl rfl rfl rfl ?_
  refine rw_val (v := .int .i64 ((ids.length : Nat) : Int)) (w' := w) rfl rfl rfl rfl (by simp [go_sem, sEv, sLook, nbeq, i64_w]) ?_
  refine rw_val (v := .int .i64 0) (w' := w) rfl rfl rfl rfl rfl ?_
  refine rw_end ?_
  refine w_block ?_
  refine w_loop (fun m_ G W_ => ∃ (j : Nat), j + m_ = ids.length ∧ Below w.heap.size w W_ ∧ (∀ x ∈ ids.take j, okId ps x = true) ∧ G = [(0, .slice A1 ids.length c1), (1, .func (.func 35) #[] #[.pointer (some ⟨g, 0, none⟩)]), (7, .int .i64 ((ids.length : Nat) : Int)), (8, .int .i64 ((j : Nat) : Int))]) ids.length [(0, .slice A1 ids.length c1), (1, .func (.func 35) #[] #[.pointer (some ⟨g, 0, none⟩)]), (7, .int .i64 ((ids.length : Nat) : Int)), (8, .int .i64 0)] ⟨0, by omega, (Below.refl _ _), (by simp), rfl⟩ ⟨rfl, rfl, rfl, rfl, trivial⟩ ?_
  rintro m_ G w_L1 ⟨j, hp2, hB_L1, hf3, rfl⟩
  have hs_w_L1 := hB_L1.size
  refine w_seq ?_
  refine w_region ?_
  refine rw_val (v := .bool (decide (((j : Nat) : Int) < ((ids.length : Nat) : Int)))) (w' := w_L1) rfl rfl rfl rfl (by simp [go_sem, sEv, sLook, nbeq, i64_w]) ?_
  refine rw_end ?_
  refine w_seq ?_
  refine w_cond rfl rfl (fun cJ => ?_) (fun cJ => ?_)
  · have l4 : (((j : Nat) : Int) < ((ids.length : Nat) : Int)) := of_decide_eq_true cJ
    refine w_skip ?_
    refine w_seq ?_
    refine w_block ?_
    refine w_seq ?_
    refine w_region ?_
    refine rw_val (v := .int .i64 ((j : Nat) : Int)) (w' := w_L1) rfl rfl rfl rfl rfl ?_
    refine rw_val (v := .int .i64 ((j : Nat) : Int)) (w' := w_L1) rfl rfl rfl rfl rfl ?_
    refine rw_end ?_
    refine w_seq ?_
    refine w_region ?_
    refine rw_val (v := .func (.func 35) #[] #[.pointer (some ⟨g, 0, none⟩)]) (w' := w_L1) rfl rfl rfl rfl rfl ?_
    refine rw_val (v := .slice A1 ids.length c1) (w' := w_L1) rfl rfl rfl rfl rfl ?_
    refine rw_val (v := .int .i64 ((j : Nat) : Int)) (w' := w_L1) rfl rfl rfl rfl rfl ?_
    obtain ⟨ad5, hA6, hc7⟩ := kd_at (Kd.C_below hI hB_L1) (fun x : S31 => [.int .i64 x.f0, .int .i64 x.f1.f0, .int .i64 x.f1.f1]) (fun x cs h => k31_open h) z31 j (by omega)
    subst hA6
    have he8 : w_L1.cell? (ad5.add (j * 3)) = some (.int .i64 ((ids.getD j z31).f0)) := cell_0 (hc7 0 _ rfl)
    have he9 : w_L1.cell? ⟨(ad5.add (j * 3)).block, (ad5.add (j * 3)).off + 1, none⟩ = some (.int .i64 ((ids.getD j z31).f1.f0)) := cell_j (hc7 1 _ rfl)
    have he10 : w_L1.cell? ⟨(ad5.add (j * 3)).block, (ad5.add (j * 3)).off + 2, none⟩ = some (.int .i64 ((ids.getD j z31).f1.f1)) := cell_j (hc7 2 _ rfl)
    refine rw_val (v := .pointer (some (ad5.add (j * 3)))) (w' := w_L1) rfl rfl rfl rfl (run_as (run_at_k (P := Try.prog) (e := 31) (by kernel_rfl) (by kernel_rfl) j (by omega) _)) ?_
    refine rw_val (v := .agg #[.int .i64 ((ids.getD j z31).f0), .int .i64 ((ids.getD j z31).f1.f0), .int .i64 ((ids.getD j z31).f1.f1)]) (w' := w_L1) rfl rfl rfl rfl (by have e0_ := cellOn he8 (Below.refl _ _); have e1_ := cellOn he9 (Below.refl _ _); have e2_ := cellOn he10 (Below.refl _ _); simp [go_sem, sEv, sLook, nbeq, i64_w, e0_, e1_, e2_, Try.underlying31]) ?_
    refine rw_call rfl rfl rfl rfl (f := 35) (args := #[.agg #[.int .i64 ((ids.getD j z31).f0), .int .i64 ((ids.getD j z31).f1.f0), .int .i64 ((ids.getD j z31).f1.f1)], .pointer (some ⟨g, 0, none⟩)]) (by simp [go_sem, sEv, sLook, nbeq, i64_w]) (closure_calls w_L1 g A3 c3 ps (ids.getD j z31) (hb.on hB_L1) (Kd.C_below hP hB_L1) hcp) ?_
    rintro e_ w11 ⟨rfl, hb12⟩
    refine ⟨_, rfl, ?_⟩
    have hs_w11 := hb12.size
    refine rw_end ?_
    refine w_weaken (G' := [(0, .slice (some ad5) ids.length c1), (1, .func (.func 35) #[] #[.pointer (some ⟨g, 0, none⟩)]), (5, .int .i64 ((j : Nat) : Int)), (7, .int .i64 ((ids.length : Nat) : Int)), (8, .int .i64 ((j : Nat) : Int)), (16, .bool (!okId ps (ids.getD j z31)))]) ⟨rfl, rfl, rfl, rfl, rfl, rfl, trivial⟩ ?_
    refine w_cond rfl rfl (fun cO => ?_) (fun cO => ?_)
    · refine w_seq ?_
      refine w_region ?_
      refine rw_val (v := .int .i64 ((j : Nat) : Int)) (w' := w11) rfl rfl rfl rfl rfl ?_
      refine rw_val (v := .int .i64 ((j : Nat) : Int)) (w' := w11) rfl rfl rfl rfl rfl ?_
      refine rw_end ?_
      refine w_ret (post_ret1 rfl rfl ?_)
      refine ⟨_, rfl, ?_, (chain hB_L1 hb12)⟩
      rw [decide_eq_true (by omega)]
      symm
      rw [List.any_eq_true]
      exact ⟨ids.getD j z31, by rw [List.getD_eq_getElem?_getD, List.getElem?_eq_getElem (by omega)]; exact List.getElem_mem _, cO⟩
    · refine w_skip ?_
      refine w_blk ?_
      refine w_region ?_
      refine rw_val (v := .int .i64 ((j + 1 : Nat) : Int)) (w' := w11) rfl rfl rfl rfl (by simp [go_sem, sEv, sLook, nbeq, i64_w]; exact wrap_id (by omega) (by omega)) ?_
      refine rw_val (v := .int .i64 ((j + 1 : Nat) : Int)) (w' := w11) rfl rfl rfl rfl rfl ?_
      refine rw_end ?_
      exact w_back (m_ - 1) [(0, .slice (some ad5) ids.length c1), (1, .func (.func 35) #[] #[.pointer (some ⟨g, 0, none⟩)]), (7, .int .i64 ((ids.length : Nat) : Int)), (8, .int .i64 ((j + 1 : Nat) : Int))] (by omega) ⟨rfl, rfl, rfl, rfl, trivial⟩ ⟨(j + 1), by omega, (chain hB_L1 hb12), (by intro x hx; rw [List.take_succ_eq_append_getElem (by omega)] at hx; exact (List.mem_append.1 hx).elim (fun hx => hf3 x hx) (fun hx => by rw [List.mem_singleton.1 hx]; rw [List.getD_eq_getElem?_getD, List.getElem?_eq_getElem (by omega)] at cO; simpa using cO)), rfl⟩
  · have l13 : ¬ (((j : Nat) : Int) < ((ids.length : Nat) : Int)) := of_decide_eq_false cJ
    refine w_exit rfl ?_
    refine w_seq ?_
    refine w_region ?_
    refine rw_val (v := .int .i64 (-1)) (w' := w_L1) rfl rfl rfl rfl rfl ?_
    refine rw_end ?_
    refine w_ret (post_ret1 rfl rfl ?_)
    refine ⟨_, rfl, ?_, hB_L1⟩
    have ej_ : j = ids.length := by omega
    have hall_ : ids.all (okId ps) = true := List.all_eq_true.2 (fun x hx => hf3 x (by rw [ej_, List.take_length]; exact hx))
    rw [any_not, hall_]; rfl
set_option maxHeartbeats 4000000 in
theorem contains_calls (w : World) (g : Nat) (A1 A3 : Option Addr) (c1 c3 : Nat) (ps : List S29) (ids : List S31) (hI : k31.C w A1 ids.length ids) (hci : ids.length ≤ c1) (hsz : ids.length ≤ 100000) (hb : Blk w g 45 #[.slice A3 ps.length c3]) (hP : k29.C w A3 ps.length ps) (hcp : ps.length ≤ c3) :
    Calls Try.prog 36 #[.slice A1 ids.length c1, .func (.func 35) #[] #[.pointer (some ⟨g, 0, none⟩)]] w fun e w' => e = .returned (.bool (ids.any (fun x => !okId ps x))) ∧ Below w.heap.size w w' := by
  refine calls_flow Try.func36 rfl 9 rfl (Nat.le_of_ble_eq_true rfl) [(0, .slice A1 ids.length c1), (1, .func (.func 35) #[] #[.pointer (some ⟨g, 0, none⟩)])] ?_ ?_
  · intro t v h; exact args_look rfl t v h
  refine w_seq ?_
  refine w_region ?_
  refine rw_val (v := .bool false) (w' := w) rfl rfl rfl rfl rfl ?_
  refine rw_end ?_
  refine w_seq ?_
  refine w_region ?_
  refine rw_val (v := .slice A1 ids.length c1) (w' := w) rfl rfl rfl rfl rfl ?_
  refine rw_val (v := .func (.func 35) #[] #[.pointer (some ⟨g, 0, none⟩)]) (w' := w) rfl rfl rfl rfl rfl ?_
  refine rw_call rfl rfl rfl rfl (f := 38) (args := #[.slice A1 ids.length c1, .func (.func 35) #[] #[.pointer (some ⟨g, 0, none⟩)]]) (by simp [go_sem, sEv, sLook, nbeq, i64_w]) (index_calls w g A1 A3 c1 c3 ps ids hI hci hsz hb hP hcp) ?_
  rintro e_ w1 ⟨v3, rfl, hv4, hb2⟩
  refine ⟨_, rfl, ?_⟩
  have hs_w1 := hb2.size
  refine rw_val (v := .bool (decide (0 ≤ v3))) (w' := w1) rfl rfl rfl rfl (by simp [go_sem, sEv, sLook, nbeq, i64_w]) ?_
  refine rw_val (v := .bool (decide (0 ≤ v3))) (w' := w1) rfl rfl rfl rfl rfl ?_
  refine rw_end ?_
  refine w_weaken (G' := [(4, .bool (decide (0 ≤ v3)))]) ⟨rfl, trivial⟩ ?_
  refine w_ret (post_ret1 rfl rfl ?_)
  exact ⟨by rw [← hv4], hb2⟩
set_option maxHeartbeats 4000000 in
theorem covered_calls (w : World) (a0 a1 t key a4 sh : Int) (ht : -9223372036854775808 ≤ t ∧ t ≤ 9223372036854775807) (hk : -9223372036854775808 ≤ key ∧ key ≤ 9223372036854775807) (hsh : sh ≤ 9223372036854775807) (A1 A3 : Option Addr) (c1 c3 : Nat) (rs : List Int) (ps : List S29) (hR : (Kd.int .i64).C w A1 rs.length rs) (hcr : rs.length ≤ c1) (hP : k29.C w A3 ps.length ps) (hcp : ps.length ≤ c3) (hrs : rs.length ≤ 900) :
    Calls Try.prog 26 #[.agg #[.int .i64 a0, .int .i64 a1, .int .i64 t, .int .i64 key, .int .i64 a4], .slice A1 rs.length c1, .int .i64 sh, .slice A3 ps.length c3] w fun e w' => e = .returned (.bool (coversP ps (idsFrom t key sh 0 rs))) ∧ Below w.heap.size w w' := by
  refine calls_flow Try.func26 rfl 25 rfl (Nat.le_of_ble_eq_true rfl) [(0, .agg #[.int .i64 a0, .int .i64 a1, .int .i64 t, .int .i64 key, .int .i64 a4]), (1, .slice A1 rs.length c1), (2, .int .i64 sh), (3, .slice A3 ps.length c3)] ?_ ?_
  · intro t v h; exact args_look rfl t v h
  refine w_seq ?_
  refine w_region ?_
  refine rw_new (cs := #[.int .i64 a0, .int .i64 a1, .int .i64 t, .int .i64 key, .int .i64 a4]) (t := 23) (fun g => .pointer (some ⟨g, 0, none⟩)) rfl rfl rfl rfl (by simp [go_sem, sEv, sLook, nbeq, i64_w]) ?_
  intro g1 w2 hg6 hz5 hb3 hk4
  have hs_w2 := hb3.size
  refine rw_new (cs := #[.slice A3 ps.length c3]) (t := 45) (fun g => .pointer (some ⟨g, 0, none⟩)) rfl rfl rfl rfl (by simp [go_sem, sEv, sLook, nbeq, i64_w]) ?_
  intro g7 w8 hg12 hz11 hb9 hk10
  have hs_w8 := hb9.size
  refine rw_val (v := .bool false) (w' := w8) rfl rfl rfl rfl rfl ?_
  refine rw_end ?_
  refine w_seq ?_
  refine w_region ?_
  refine rw_val (v := .agg #[.int .i64 a0, .int .i64 a1, .int .i64 t, .int .i64 key, .int .i64 a4]) (w' := w8) rfl rfl rfl rfl (by have eb_ := (hk4.on hb9); have e0_ := eb_.cellv (i := 0) (v := (.int .i64 a0 : Value)) rfl; have e1_ := eb_.cellv (i := 1) (v := (.int .i64 a1 : Value)) rfl; have e2_ := eb_.cellv (i := 2) (v := (.int .i64 t : Value)) rfl; have e3_ := eb_.cellv (i := 3) (v := (.int .i64 key : Value)) rfl; have e4_ := eb_.cellv (i := 4) (v := (.int .i64 a4 : Value)) rfl; simp [go_sem, sEv, sLook, nbeq, i64_w, e0_, e1_, e2_, e3_, e4_, Try.underlying23]) ?_
  refine rw_val (v := .slice A1 rs.length c1) (w' := w8) rfl rfl rfl rfl rfl ?_
  refine rw_val (v := .int .i64 sh) (w' := w8) rfl rfl rfl rfl rfl ?_
  refine rw_call rfl rfl rfl rfl (f := 11) (args := #[.agg #[.int .i64 a0, .int .i64 a1, .int .i64 t, .int .i64 key, .int .i64 a4], .slice A1 rs.length c1, .int .i64 sh]) (by simp [go_sem, sEv, sLook, nbeq, i64_w]) (place_Ids.calls 1000 a0 a1 t key a4 A1 c1 rs sh (idsFrom t key sh 0 rs) w8 (Kd.C_below hR (chain hb3 hb9)) hcr (ids_f rs a0 a1 t key a4 sh (by omega) (by omega) (by omega) (by omega) 1000 (by omega))) ?_
  rintro e_ w14 ⟨v13, rfl, hR15, hB16⟩
  refine ⟨_, rfl, ?_⟩
  obtain ⟨A17, c18, rfl, hle19, _⟩ := Kd.R_reads hR15
  have hs_w14 := hB16.size
  have hl21 : OwnK k31 31 w14 w.heap.size w8.heap.size A17 (idsFrom t key sh 0 rs).length c18 (idsFrom t key sh 0 rs) := OwnK.born hR15 (by omega)
  have hs_w14 := hB16.size
  refine rw_val (v := .slice A17 ((idsFrom t key sh 0 rs).length) c18) (w' := w14) rfl rfl rfl rfl rfl ?_
  refine rw_end ?_
  refine w_weaken (G' := [(7, .pointer (some ⟨g7, 0, none⟩)), (8, .bool false), (9, .slice A17 ((idsFrom t key sh 0 rs).length) c18)]) ⟨rfl, rfl, rfl, trivial⟩ ?_
  refine w_seq ?_
  refine w_region ?_
  refine rw_val (v := .func (.func 35) #[] #[.pointer (some ⟨g7, 0, none⟩)]) (w' := w14) rfl rfl rfl rfl (by simp [go_sem, sEv, sLook, nbeq, i64_w]) ?_
  refine rw_val (v := .func (.func 35) #[] #[.pointer (some ⟨g7, 0, none⟩)]) (w' := w14) rfl rfl rfl rfl rfl ?_
  refine rw_end ?_
  refine w_seq ?_
  refine w_region ?_
  refine rw_val (v := .slice A17 ((idsFrom t key sh 0 rs).length) c18) (w' := w14) rfl rfl rfl rfl rfl ?_
  refine rw_val (v := .int .i64 (((idsFrom t key sh 0 rs).length : Nat) : Int)) (w' := w14) rfl rfl rfl rfl (by simp [go_sem, sEv, sLook, nbeq, i64_w]) ?_
  refine rw_val (v := .bool (decide (0 < (((idsFrom t key sh 0 rs).length : Nat) : Int)))) (w' := w14) rfl rfl rfl rfl (by simp [go_sem, sEv, sLook, nbeq, i64_w]) ?_
  refine rw_val (v := .bool (decide (0 < (((idsFrom t key sh 0 rs).length : Nat) : Int)))) (w' := w14) rfl rfl rfl rfl rfl ?_
  rcases bcase (decide (0 < (((idsFrom t key sh 0 rs).length : Nat) : Int))) with cL | cL
  · have l22 : ¬ (0 < (((idsFrom t key sh 0 rs).length : Nat) : Int)) := of_decide_eq_false cL
    refine rw_off (c := decide (0 < (((idsFrom t key sh 0 rs).length : Nat) : Int))) rfl rfl rfl (by first | (rw [cL]; rfl) | simp [cL]) rfl rfl ?_
    refine rw_off (c := decide (0 < (((idsFrom t key sh 0 rs).length : Nat) : Int))) rfl rfl rfl (by first | (rw [cL]; rfl) | simp [cL]) rfl rfl ?_
    refine rw_off (c := decide (0 < (((idsFrom t key sh 0 rs).length : Nat) : Int))) rfl rfl rfl (by first | (rw [cL]; rfl) | simp [cL]) rfl rfl ?_
    refine rw_off (c := decide (0 < (((idsFrom t key sh 0 rs).length : Nat) : Int))) rfl rfl rfl (by first | (rw [cL]; rfl) | simp [cL]) rfl rfl ?_
    refine rw_val (v := .bool false) (w' := w14) rfl rfl rfl rfl (by first | (simp [go_sem, sEv, sLook, nbeq, i64_w, cL]; done) | (rw [cL]; simp [go_sem, sEv, sLook, nbeq, i64_w]; done) | (simp [go_sem, sEv, sLook, nbeq, i64_w] <;> omega) | (simp [go_sem, sEv, sLook, nbeq, i64_w]; intro h_; exact absurd (by omega) h_)) ?_
    refine rw_val (v := .bool false) (w' := w14) rfl rfl rfl rfl rfl ?_
    refine rw_end ?_
    refine w_weaken (G' := [(8, .bool false)]) ⟨rfl, trivial⟩ ?_
    refine w_ret (post_ret1 rfl rfl ?_)
    refine ⟨?_, (chain (chain hb3 hb9) hB16)⟩
    congr 2
    unfold coversP
    rw [decide_eq_false (by omega)]; rfl
  · have l23 : (0 < (((idsFrom t key sh 0 rs).length : Nat) : Int)) := of_decide_eq_true cL
    refine rw_on (c := decide (0 < (((idsFrom t key sh 0 rs).length : Nat) : Int))) rfl rfl rfl (by first | (rw [cL]; rfl) | simp [cL]) ?_
    refine rw_val (v := .slice A17 ((idsFrom t key sh 0 rs).length) c18) (w' := w14) rfl rfl rfl rfl rfl ?_
    refine rw_on (c := decide (0 < (((idsFrom t key sh 0 rs).length : Nat) : Int))) rfl rfl rfl (by first | (rw [cL]; rfl) | simp [cL]) ?_
    refine rw_val (v := .func (.func 35) #[] #[.pointer (some ⟨g7, 0, none⟩)]) (w' := w14) rfl rfl rfl rfl rfl ?_
    refine rw_on (c := decide (0 < (((idsFrom t key sh 0 rs).length : Nat) : Int))) rfl rfl rfl (by first | (rw [cL]; rfl) | simp [cL]) ?_
    refine rw_call rfl rfl rfl rfl (f := 36) (args := #[.slice A17 ((idsFrom t key sh 0 rs).length) c18, .func (.func 35) #[] #[.pointer (some ⟨g7, 0, none⟩)]]) (by simp [go_sem, sEv, sLook, nbeq, i64_w]) (contains_calls w14 g7 A17 A3 c18 c3 ps (idsFrom t key sh 0 rs) (Kd.C_below (OwnK.C (d := k31) hl21) (Below.refl _ _)) (OwnK.cap (d := k31) hl21) (by rw [idsFrom_len]; omega) (hk10.on hB16) (Kd.C_below hP (chain (chain hb3 hb9) hB16)) hcp) ?_
    rintro e_ w24 ⟨rfl, hb25⟩
    refine ⟨_, rfl, ?_⟩
    have hs_w24 := hb25.size
    refine rw_on (c := decide (0 < (((idsFrom t key sh 0 rs).length : Nat) : Int))) rfl rfl rfl (by first | (rw [cL]; rfl) | simp [cL]) ?_
    refine rw_val (v := .bool (!((idsFrom t key sh 0 rs).any (fun x => !okId ps x)))) (w' := w24) rfl rfl rfl rfl (by simp [go_sem, sEv, sLook, nbeq, i64_w]) ?_
    refine rw_val (v := .bool (!((idsFrom t key sh 0 rs).any (fun x => !okId ps x)))) (w' := w24) rfl rfl rfl rfl (by first | (simp [go_sem, sEv, sLook, nbeq, i64_w, cL]; done) | (rw [cL]; simp [go_sem, sEv, sLook, nbeq, i64_w]; done) | (simp [go_sem, sEv, sLook, nbeq, i64_w] <;> omega) | (simp [go_sem, sEv, sLook, nbeq, i64_w]; intro h_; exact absurd (by omega) h_)) ?_
    refine rw_val (v := .bool (!((idsFrom t key sh 0 rs).any (fun x => !okId ps x)))) (w' := w24) rfl rfl rfl rfl rfl ?_
    refine rw_end ?_
    refine w_weaken (G' := [(8, .bool (!((idsFrom t key sh 0 rs).any (fun x => !okId ps x))))]) ⟨rfl, trivial⟩ ?_
    refine w_ret (post_ret1 rfl rfl ?_)
    refine ⟨?_, (chain (chain (chain hb3 hb9) hB16) hb25)⟩
    congr 2
    unfold coversP
    rw [decide_eq_true (by omega), any_not]; simp
end Go.Proofs.Ytgedckgkddpkkaa.PPlaceCells
