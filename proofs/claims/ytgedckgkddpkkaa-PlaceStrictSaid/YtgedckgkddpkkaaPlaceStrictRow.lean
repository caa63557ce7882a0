/- The law PlaceStrict holds of every input: the call answers true, and each argument reads as before. -/
import Derived.Test.YtgedckgkddpkkaaRows
import Derived.Test.YtgedckgkddpkkaaStWalk
import Derived.Test.YtgedckgkddpkkaaFlowR
namespace Go.Proofs.Ytgedckgkddpkkaa.placeStrictRow
open Go.ChangeShapes Go.WideShapes Go.ChangeAt Go.RowKit
open Go.ChangeMaps (open_string shut_string)
set_option linter.unusedVariables false
theorem own : ownKnob Try.prog.godebug = none := by kernel_rfl
theorem laidOut : laidOutB Try.prog = true := by kernel_rfl
set_option maxRecDepth 100000 in
theorem lifted (os : Os) (started : os.Started) (H : Type) (enc : TypeId × Value → H) :
    ReturnsInHanded {} Try.checked os 7 .any (Rows.placeStrictSpec.pre6 enc Try.prog Try.f7 Rows.placeStrictRow.domain false) (Rows.placeStrictSpec.post enc Try.prog Try.f7 false true false false) := by
  refine returnsInHanded_of_change_sized (C := Try.checked) own started (by kernel_rfl) Try.func7
    (ChangeSpec.witness6 (enc := enc) (C := Try.checked) false ⟨#[], #[.agg #[.int .i64 0, .int .i64 0], .agg #[.int .i64 0, .int .i64 0], .agg #[.int .i64 0, .int .i64 0]], []⟩ 8 (by kernel_rfl) (by kernel_rfl) (by kernel_rfl) (by kernel_rfl)) ?_
  intro W base args ds gs before hval0 hW hcnd hsz0 _
  have hsz : (DataW.weightsEach Try.prog (Try.f7.params.toList ++ Rows.placeStrictSpec.plain.varTypes Try.prog) (ds ++ gs)).all (· ≤ reachBytes) = true := hsz0
  have hval : ∀ (j : Nat) t v, Try.f7.params[j]? = some t → args[j]? = some v → Value.okWide Try.prog W .any base t v := hval0
  have hW' := hW
  obtain ⟨p, q, hA0, hV, rfl, hfz, hnd⟩ := hW
  have hA : DataW.TrodAll enc Try.prog W 0 (fun _ => true) true Try.f7.params.toList args.toList ds p := hA0
  rw [Try.params7] at hA hval hsz
  obtain ⟨v0, vs0, d0, ds0, p0, q0, hargs, rfl, rfl, h0, r0⟩ := trodAll_cons hA
  obtain ⟨v1, vs1, d1, ds1, p1, q1, rfl, rfl, rfl, h1, r1⟩ := trodAll_cons r0
  obtain ⟨v2, vs2, d2, ds2, p2, q2, rfl, rfl, rfl, h2, r2⟩ := trodAll_cons r1
  obtain ⟨rfl, rfl, rfl⟩ := trodAll_nil r2
  obtain rfl : args = #[v0, v1, v2] := by cases args; simp_all
  obtain ⟨rfl, rfl⟩ := trodVars_none hV
  have k0 := h0
  have lt0 : ∀ x ∈ p0, x.block < W.heap.size := by obtain ⟨m, hm⟩ := k0; exact DataW.trod_lt m _ _ _ hm
  obtain ⟨xs0, l0, rfl, w0⟩ := Flow.open_struct_ints (kd := .i64) Try.underlying29 (by kernel_rfl) (by kernel_rfl) (fun j f hf => by
    match j, hf with
    | 0, hf => have := Option.some.inj hf; subst this; exact Try.underlying3
    | 1, hf => have := Option.some.inj hf; subst this; exact Try.underlying3
    | j + 2, hf => simp at hf) (hval 0 29 v0 rfl rfl) h0
  obtain ⟨a0_0, a0_1, rfl⟩ := Flow.len2 l0
  have b0_0 := bounds_i64 (w0 a0_0 (by simp))
  have b0_1 := bounds_i64 (w0 a0_1 (by simp))
  have k1 := h1
  have lt1 : ∀ x ∈ p1, x.block < W.heap.size := by obtain ⟨m, hm⟩ := k1; exact DataW.trod_lt m _ _ _ hm
  obtain ⟨xs1, l1, rfl, w1⟩ := Flow.open_struct_ints (kd := .i64) Try.underlying29 (by kernel_rfl) (by kernel_rfl) (fun j f hf => by
    match j, hf with
    | 0, hf => have := Option.some.inj hf; subst this; exact Try.underlying3
    | 1, hf => have := Option.some.inj hf; subst this; exact Try.underlying3
    | j + 2, hf => simp at hf) (hval 1 29 v1 rfl rfl) h1
  obtain ⟨a1_0, a1_1, rfl⟩ := Flow.len2 l1
  have b1_0 := bounds_i64 (w1 a1_0 (by simp))
  have b1_1 := bounds_i64 (w1 a1_1 (by simp))
  have k2 := h2
  have lt2 : ∀ x ∈ p2, x.block < W.heap.size := by obtain ⟨m, hm⟩ := k2; exact DataW.trod_lt m _ _ _ hm
  obtain ⟨xs2, l2, rfl, w2⟩ := Flow.open_struct_ints (kd := .i64) Try.underlying29 (by kernel_rfl) (by kernel_rfl) (fun j f hf => by
    match j, hf with
    | 0, hf => have := Option.some.inj hf; subst this; exact Try.underlying3
    | 1, hf => have := Option.some.inj hf; subst this; exact Try.underlying3
    | j + 2, hf => simp at hf) (hval 2 29 v2 rfl rfl) h2
  obtain ⟨a2_0, a2_1, rfl⟩ := Flow.len2 l2
  have b2_0 := bounds_i64 (w2 a2_0 (by simp))
  have b2_1 := bounds_i64 (w2 a2_1 (by simp))
  clear hA0 hval0 hsz0 hsz
  refine (PPlaceOrders.strict_all a0_0 a0_1 a1_0 a1_1 a2_0 a2_1 W b0_0 b0_1 b1_0 b1_1).mono fun e W' ⟨he, bel⟩ => ?_
  subst he
  exact ⟨_, rfl, _, _, _, [], _, [], hW', trodAll_mk1 (shut_bool Try.underlying4 _), (trodAll_cons_mk (Below.trod laidOut (by kernel_rfl) (of_decide_eq_true (by kernel_rfl)) k0 bel lt0) (trodAll_cons_mk (Below.trod laidOut (by kernel_rfl) (of_decide_eq_true (by kernel_rfl)) k1 bel lt1) (trodAll_cons_mk (Below.trod laidOut (by kernel_rfl) (of_decide_eq_true (by kernel_rfl)) k2 bel lt2) trodAll_mk0))), rfl, bel.frame _, fun h => by cases h⟩
theorem over : Rows.placeStrictRow.holds Try.pinned (OpenSpec.ofChange Rows.placeStrictSpec) :=
  OpenClaim.holds_of_wide 7 Try.f7 rfl rfl rfl rfl rfl rfl rfl ⟨rfl, rfl, rfl, rfl, rfl⟩ rfl rfl rfl rfl rfl (by kernel_rfl) Try.func7 (by kernel_rfl)
    (of_decide_eq_true (by kernel_rfl)) (by unfold Func.isWrapper; first | (rw [if_pos (by decide +kernel)]; kernel_rfl) | (rw [if_neg (by decide +kernel)]; exact ⟨rfl, rfl⟩))
    (fun os started H enc _ => lifted os started H enc)
end Go.Proofs.Ytgedckgkddpkkaa.placeStrictRow
namespace Go.Proofs.Ytgedckgkddpkkaa
theorem placeStrict_holds : Rows.PlaceStrictSaid := placeStrictRow.over
#print axioms placeStrict_holds
end Go.Proofs.Ytgedckgkddpkkaa
