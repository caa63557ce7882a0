/- The law CellLater holds of every input: the call answers true, and each argument reads as before. -/
import Derived.Test.YtheaipbnbnjlgaaRows
import Derived.Test.YtheaipbnbnjlgaaCeLater
import Derived.Test.YtheaipbnbnjlgaaFlowR
namespace Go.Proofs.Ytheaipbnbnjlgaa.cellLaterRow
open Go.ChangeShapes Go.WideShapes Go.ChangeAt Go.RowKit
open Go.ChangeMaps (open_string shut_string)
open Go.Proofs.Ytheaipbnbnjlgaa.Ce
set_option linter.unusedVariables false
theorem own : ownKnob Try.prog.godebug = none := by kernel_rfl
theorem laidOut : laidOutB Try.prog = true := by kernel_rfl
set_option maxRecDepth 100000 in
theorem lifted (os : Os) (started : os.Started) (H : Type) (enc : TypeId × Value → H) :
    ReturnsInHanded {} Try.checked os 6 .any (Rows.cellLaterSpec.pre6 enc Try.prog Try.f6 Rows.cellLaterRow.domain false) (Rows.cellLaterSpec.post enc Try.prog Try.f6 false true false false) := by
  refine returnsInHanded_of_change_sized (C := Try.checked) own started (by kernel_rfl) Try.func6
    (ChangeSpec.witness6 (enc := enc) (C := Try.checked) false ⟨#[], #[.agg #[.int .i64 0, .int .i64 0, .int .i64 0, .int .i64 0], .agg #[.int .i64 0, .int .i64 0, .int .i64 0, .int .i64 0]], []⟩ 8 (by kernel_rfl) (by kernel_rfl) (by kernel_rfl) (by kernel_rfl)) ?_
  intro W base args ds gs before hval0 hW hcnd hsz0 _
  have hsz : (DataW.weightsEach Try.prog (Try.f6.params.toList ++ Rows.cellLaterSpec.plain.varTypes Try.prog) (ds ++ gs)).all (· ≤ reachBytes) = true := hsz0
  have hval : ∀ (j : Nat) t v, Try.f6.params[j]? = some t → args[j]? = some v → Value.okWide Try.prog W .any base t v := hval0
  have hW' := hW
  obtain ⟨p, q, hA0, hV, rfl, hfz, hnd⟩ := hW
  have hA : DataW.TrodAll enc Try.prog W 0 (fun _ => true) true Try.f6.params.toList args.toList ds p := hA0
  rw [Try.params6] at hA hval hsz
  obtain ⟨v0, vs0, d0, ds0, p0, q0, hargs, rfl, rfl, h0, r0⟩ := trodAll_cons hA
  obtain ⟨v1, vs1, d1, ds1, p1, q1, rfl, rfl, rfl, h1, r1⟩ := trodAll_cons r0
  obtain ⟨rfl, rfl, rfl⟩ := trodAll_nil r1
  obtain rfl : args = #[v0, v1] := by cases args; simp_all
  obtain ⟨rfl, rfl⟩ := trodVars_none hV
  have k0 := h0
  have lt0 : ∀ x ∈ p0, x.block < W.heap.size := by obtain ⟨m, hm⟩ := k0; exact DataW.trod_lt m _ _ _ hm
  obtain ⟨xs0, l0, rfl, w0⟩ := Flow.open_struct_ints (kd := .i64) Try.underlying28 (by kernel_rfl) (by kernel_rfl) (fun j f hf => by
    match j, hf with
    | 0, hf => have := Option.some.inj hf; subst this; exact Try.underlying3
    | 1, hf => have := Option.some.inj hf; subst this; exact Try.underlying3
    | 2, hf => have := Option.some.inj hf; subst this; exact Try.underlying3
    | 3, hf => have := Option.some.inj hf; subst this; exact Try.underlying3
    | j + 4, hf => simp at hf) (hval 0 28 v0 rfl rfl) h0
  obtain ⟨a0_0, a0_1, a0_2, a0_3, rfl⟩ := Flow.len4 l0
  have b0_0 := bounds_i64 (w0 a0_0 (by simp))
  have b0_1 := bounds_i64 (w0 a0_1 (by simp))
  have b0_2 := bounds_i64 (w0 a0_2 (by simp))
  have b0_3 := bounds_i64 (w0 a0_3 (by simp))
  have k1 := h1
  have lt1 : ∀ x ∈ p1, x.block < W.heap.size := by obtain ⟨m, hm⟩ := k1; exact DataW.trod_lt m _ _ _ hm
  obtain ⟨xs1, l1, rfl, w1⟩ := Flow.open_struct_ints (kd := .i64) Try.underlying28 (by kernel_rfl) (by kernel_rfl) (fun j f hf => by
    match j, hf with
    | 0, hf => have := Option.some.inj hf; subst this; exact Try.underlying3
    | 1, hf => have := Option.some.inj hf; subst this; exact Try.underlying3
    | 2, hf => have := Option.some.inj hf; subst this; exact Try.underlying3
    | 3, hf => have := Option.some.inj hf; subst this; exact Try.underlying3
    | j + 4, hf => simp at hf) (hval 1 28 v1 rfl rfl) h1
  obtain ⟨a1_0, a1_1, a1_2, a1_3, rfl⟩ := Flow.len4 l1
  have b1_0 := bounds_i64 (w1 a1_0 (by simp))
  have b1_1 := bounds_i64 (w1 a1_1 (by simp))
  have b1_2 := bounds_i64 (w1 a1_2 (by simp))
  have b1_3 := bounds_i64 (w1 a1_3 (by simp))
  clear hA0 hval0 hsz0 hsz
  refine (walkLater W a0_0 a0_1 a0_2 a0_3 a1_0 a1_1 a1_2 a1_3).mono fun e W' ⟨he, bel⟩ => ?_
  subst he
  exact ⟨_, rfl, _, _, _, [], _, [], hW', trodAll_mk1 (shut_bool Try.underlying4 _), (trodAll_cons_mk (Below.trod laidOut (by kernel_rfl) (of_decide_eq_true (by kernel_rfl)) k0 bel lt0) (trodAll_cons_mk (Below.trod laidOut (by kernel_rfl) (of_decide_eq_true (by kernel_rfl)) k1 bel lt1) trodAll_mk0)), rfl, bel.frame _, fun h => by cases h⟩
theorem over : Rows.cellLaterRow.holds Try.pinned (OpenSpec.ofChange Rows.cellLaterSpec) :=
  OpenClaim.holds_of_wide 6 Try.f6 rfl rfl rfl rfl rfl rfl rfl ⟨rfl, rfl, rfl, rfl, rfl⟩ rfl rfl rfl rfl rfl (by kernel_rfl) Try.func6 (by kernel_rfl)
    (of_decide_eq_true (by kernel_rfl)) (by unfold Func.isWrapper; first | (rw [if_pos (by decide +kernel)]; kernel_rfl) | (rw [if_neg (by decide +kernel)]; exact ⟨rfl, rfl⟩))
    (fun os started H enc _ => lifted os started H enc)
end Go.Proofs.Ytheaipbnbnjlgaa.cellLaterRow
namespace Go.Proofs.Ytheaipbnbnjlgaa
theorem cellLater_holds : Rows.CellLaterSaid := cellLaterRow.over
#print axioms cellLater_holds
end Go.Proofs.Ytheaipbnbnjlgaa
