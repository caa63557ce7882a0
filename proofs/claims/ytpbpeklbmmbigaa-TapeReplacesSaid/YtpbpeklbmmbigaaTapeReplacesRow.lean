/- The law TapeReplaces holds of every input: the call answers true, and each argument reads as before. -/
import Derived.Test.YtpbpeklbmmbigaaRows
import Derived.Test.YtpbpeklbmmbigaaTpReplW
import Derived.Test.YtpbpeklbmmbigaaFlowJ
import Derived.Test.YtpbpeklbmmbigaaFlowR
namespace Go.Proofs.Ytpbpeklbmmbigaa.tapeReplacesRow
open Go.ChangeShapes Go.WideShapes Go.ChangeAt Go.RowKit
open Go.ChangeMaps (open_string shut_string)
open Go.Proofs.Ytpbpeklbmmbigaa.Tp
set_option linter.unusedVariables false
theorem own : ownKnob Try.prog.godebug = none := by kernel_rfl
theorem laidOut : laidOutB Try.prog = true := by kernel_rfl
set_option maxRecDepth 100000 in
theorem lifted (os : Os) (started : os.Started) (H : Type) (enc : TypeId × Value → H) :
    ReturnsInHanded {} Try.checked os 7 .any (Rows.tapeReplacesSpec.pre6 enc Try.prog Try.f7 Rows.tapeReplacesRow.domain false) (Rows.tapeReplacesSpec.post enc Try.prog Try.f7 false true false false) := by
  refine returnsInHanded_of_change_sized (C := Try.checked) own started (by kernel_rfl) Try.func7
    (ChangeSpec.witness6 (enc := enc) (C := Try.checked) false ⟨#[], #[.agg #[.slice none 0 0, .slice none 0 0, .int .i64 0, .int .i64 0]], []⟩ 8 (by kernel_rfl) (by kernel_rfl) (by kernel_rfl) (by kernel_rfl)) ?_
  intro W base args ds gs before hval0 hW hcnd hsz0 _
  have hsz : (DataW.weightsEach Try.prog (Try.f7.params.toList ++ Rows.tapeReplacesSpec.plain.varTypes Try.prog) (ds ++ gs)).all (· ≤ reachBytes) = true := hsz0
  have hval : ∀ (j : Nat) t v, Try.f7.params[j]? = some t → args[j]? = some v → Value.okWide Try.prog W .any base t v := hval0
  have hW' := hW
  obtain ⟨p, q, hA0, hV, rfl, hfz, hnd⟩ := hW
  have hA : DataW.TrodAll enc Try.prog W 0 (fun _ => true) true Try.f7.params.toList args.toList ds p := hA0
  rw [Try.params7] at hA hval hsz
  obtain ⟨v0, vs0, d0, ds0, p0, q0, hargs, rfl, rfl, h0, r0⟩ := trodAll_cons hA
  obtain ⟨rfl, rfl, rfl⟩ := trodAll_nil r0
  obtain rfl : args = #[v0] := by cases args; simp_all
  obtain ⟨rfl, rfl⟩ := trodVars_none hV
  have k0 := h0
  have lt0 : ∀ x ∈ p0, x.block < W.heap.size := by obtain ⟨m, hm⟩ := k0; exact DataW.trod_lt m _ _ _ hm
  obtain ⟨cs0, l0, rfl, g0⟩ := Flow.open_struct_cells Try.underlying44 (by kernel_rfl) (by kernel_rfl) (hval 0 44 v0 rfl rfl) h0
  obtain ⟨c0_0, c0_1, c0_2, c0_3, rfl⟩ := Flow.len4 l0
  obtain ⟨_, _, _, hc_, hg_⟩ := g0 0 _ rfl
  obtain rfl := Option.some.inj hc_
  obtain ⟨a0_0, k_a0_0, z_a0_0, rfl, w_a0_0, c_a0_0, g_a0_0⟩ := Flow.cell_row Try.underlying27 Try.underlying5 (by kernel_rfl) hg_
  obtain ⟨_, _, _, hc_, hg_⟩ := g0 1 _ rfl
  obtain rfl := Option.some.inj hc_
  obtain ⟨a0_1, k_a0_1, z_a0_1, rfl, w_a0_1, c_a0_1, g_a0_1⟩ := Flow.cell_row Try.underlying27 Try.underlying5 (by kernel_rfl) hg_
  obtain ⟨_, _, _, hc_, hg_⟩ := g0 2 _ rfl
  obtain rfl := Option.some.inj hc_
  obtain ⟨a0_2, rfl, w_a0_2⟩ := Flow.cell_int Try.underlying3 hg_
  have b0_2 := bounds_i64 w_a0_2
  obtain ⟨_, _, _, hc_, hg_⟩ := g0 3 _ rfl
  obtain rfl := Option.some.inj hc_
  obtain ⟨a0_3, rfl, w_a0_3⟩ := Flow.cell_int Try.underlying3 hg_
  have b0_3 := bounds_i64 w_a0_3
  clear hA0 hval0 hsz0 hsz
  refine (walkReplaces W a0_0 a0_1 k_a0_0 k_a0_1 z_a0_0 z_a0_1 w_a0_0 w_a0_1 c_a0_0 c_a0_1 a0_2 a0_3 b0_2 b0_3).mono fun e W' ⟨he, bel⟩ => ?_
  subst he
  exact ⟨_, rfl, _, _, _, [], _, [], hW', trodAll_mk1 (shut_bool Try.underlying4 _), (trodAll_cons_mk (Below.trod laidOut (by kernel_rfl) (of_decide_eq_true (by kernel_rfl)) k0 bel lt0) trodAll_mk0), rfl, bel.frame _, fun h => by cases h⟩
theorem over : Rows.tapeReplacesRow.holds Try.pinned (OpenSpec.ofChange Rows.tapeReplacesSpec) :=
  OpenClaim.holds_of_wide 7 Try.f7 rfl rfl rfl rfl rfl rfl rfl ⟨rfl, rfl, rfl, rfl, rfl⟩ rfl rfl rfl rfl rfl (by kernel_rfl) Try.func7 (by kernel_rfl)
    (of_decide_eq_true (by kernel_rfl)) (by unfold Func.isWrapper; first | (rw [if_pos (by decide +kernel)]; kernel_rfl) | (rw [if_neg (by decide +kernel)]; exact ⟨rfl, rfl⟩))
    (fun os started H enc _ => lifted os started H enc)
end Go.Proofs.Ytpbpeklbmmbigaa.tapeReplacesRow
namespace Go.Proofs.Ytpbpeklbmmbigaa
theorem tapeReplaces_holds : Rows.TapeReplacesSaid := tapeReplacesRow.over
#print axioms tapeReplaces_holds
end Go.Proofs.Ytpbpeklbmmbigaa
