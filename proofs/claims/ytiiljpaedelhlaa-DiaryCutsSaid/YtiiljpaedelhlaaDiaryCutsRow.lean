/- The law DiaryCuts holds of every input: the call answers true, and each argument reads as before. -/
import Derived.Test.YtiiljpaedelhlaaRows
import Derived.Test.YtiiljpaedelhlaaDyCuts
import Derived.Test.YtiiljpaedelhlaaFlowU
import Derived.Test.YtiiljpaedelhlaaFlowR
namespace Go.Proofs.Ytiiljpaedelhlaa.diaryCutsRow
open Go.ChangeShapes Go.WideShapes Go.ChangeAt Go.RowKit
open Go.ChangeMaps (open_string shut_string)
open Go.Proofs.Ytiiljpaedelhlaa.Tp
set_option linter.unusedVariables false
theorem own : ownKnob Try.prog.godebug = none := by kernel_rfl
theorem laidOut : laidOutB Try.prog = true := by kernel_rfl
open Go.Proofs.Ytiiljpaedelhlaa.Flow
section
open Go.Proofs.YtiiljpaedelhlaaW.PrintWords
theorem opn_T45p {H : Type} {enc : TypeId × Value → H} {W : World} : OpW enc Try.prog W 45 (Kd.pair (Kd.slice 32 (Kd.slice 5 (Kd.int .u8))) (Kd.pair (Kd.slice 32 (Kd.slice 5 (Kd.int .u8))) (Kd.pair Kd.bool (Kd.pair (Kd.int .i64) (Kd.pair (Kd.int .i64) (Kd.int .i64)))))) (fun x : ((List (List Int)) × ((List (List Int)) × (Bool × (Int × (Int × Int))))) => (fun xs : List (List Int) => xs.length ≤ 140737488351232 ∧ ∀ x ∈ xs, (fun xs : List Int => xs.length ≤ 140737488351232 ∧ ∀ x ∈ xs, (fun x : Int => (Lit.int .u8 x).wf = true) x) x) x.1 ∧ (fun x : ((List (List Int)) × (Bool × (Int × (Int × Int)))) => (fun xs : List (List Int) => xs.length ≤ 140737488351232 ∧ ∀ x ∈ xs, (fun xs : List Int => xs.length ≤ 140737488351232 ∧ ∀ x ∈ xs, (fun x : Int => (Lit.int .u8 x).wf = true) x) x) x.1 ∧ (fun x : (Bool × (Int × (Int × Int))) => (fun _ : Bool => True) x.1 ∧ (fun x : (Int × (Int × Int)) => (fun x : Int => (Lit.int .i64 x).wf = true) x.1 ∧ (fun x : (Int × Int) => (fun x : Int => (Lit.int .i64 x).wf = true) x.1 ∧ (fun x : Int => (fun x : Int => (Lit.int .i64 x).wf = true) x) x.2) x.2) x.2) x.2) x.2) := opw_struct Try.underlying45 (fun n cs ys hcl hf hyl hLy => (opwAt_cons (opw_slice Try.underlying22 (by kernel_rfl) (Nat.le_of_ble_eq_true (by kernel_rfl)) [] (opw_slice Try.underlying32 (by kernel_rfl) (Nat.le_of_ble_eq_true (by kernel_rfl)) 0 (Opn.w (opn_int Try.underlying5)))) (by kernel_rfl) rfl ((hf 0 _ rfl).trans (List.getElem?_eq_getElem (by rw [hyl]; decide))) (hLy 0 _ _ rfl (List.getElem?_eq_getElem (by rw [hyl]; decide))) (opwAt_cons (opw_slice Try.underlying22 (by kernel_rfl) (Nat.le_of_ble_eq_true (by kernel_rfl)) [] (opw_slice Try.underlying32 (by kernel_rfl) (Nat.le_of_ble_eq_true (by kernel_rfl)) 0 (Opn.w (opn_int Try.underlying5)))) (by kernel_rfl) rfl ((hf 1 _ rfl).trans (List.getElem?_eq_getElem (by rw [hyl]; decide))) (hLy 1 _ _ rfl (List.getElem?_eq_getElem (by rw [hyl]; decide))) (opwAt_cons (Opn.w (opn_bool Try.underlying4)) (by kernel_rfl) rfl ((hf 2 _ rfl).trans (List.getElem?_eq_getElem (by rw [hyl]; decide))) (hLy 2 _ _ rfl (List.getElem?_eq_getElem (by rw [hyl]; decide))) (opwAt_cons (Opn.w (opn_int Try.underlying3)) (by kernel_rfl) rfl ((hf 3 _ rfl).trans (List.getElem?_eq_getElem (by rw [hyl]; decide))) (hLy 3 _ _ rfl (List.getElem?_eq_getElem (by rw [hyl]; decide))) (opwAt_cons (Opn.w (opn_int Try.underlying3)) (by kernel_rfl) rfl ((hf 4 _ rfl).trans (List.getElem?_eq_getElem (by rw [hyl]; decide))) (hLy 4 _ _ rfl (List.getElem?_eq_getElem (by rw [hyl]; decide))) (opwAt_last (Opn.w (opn_int Try.underlying3)) (by kernel_rfl) (hcl.trans (by kernel_rfl)) ((hf 5 _ rfl).trans (List.getElem?_eq_getElem (by rw [hyl]; decide))) (hLy 5 _ _ rfl (List.getElem?_eq_getElem (by rw [hyl]; decide))))))))))
end
set_option maxRecDepth 100000 in
theorem lifted (os : Os) (started : os.Started) (H : Type) (enc : TypeId × Value → H) :
    ReturnsInHanded {} Try.checked os 5 .any (Rows.diaryCutsSpec.pre6 enc Try.prog Try.f5 Rows.diaryCutsRow.domain false) (Rows.diaryCutsSpec.post enc Try.prog Try.f5 false true false false) := by
  refine returnsInHanded_of_change_sized (C := Try.checked) own started (by kernel_rfl) Try.func5
    (ChangeSpec.witness6 (enc := enc) (C := Try.checked) false ⟨#[], #[.agg #[.slice none 0 0, .slice none 0 0, .bool false, .int .i64 0, .int .i64 0, .int .i64 0]], []⟩ 8 (by kernel_rfl) (by kernel_rfl) (by kernel_rfl) (by kernel_rfl)) ?_
  intro W base args ds gs before hval0 hW hcnd hsz0 _
  have hsz : (DataW.weightsEach Try.prog (Try.f5.params.toList ++ Rows.diaryCutsSpec.plain.varTypes Try.prog) (ds ++ gs)).all (· ≤ reachBytes) = true := hsz0
  have hval : ∀ (j : Nat) t v, Try.f5.params[j]? = some t → args[j]? = some v → Value.okWide Try.prog W .any base t v := hval0
  have hW' := hW
  obtain ⟨p, q, hA0, hV, rfl, hfz, hnd⟩ := hW
  have hA : DataW.TrodAll enc Try.prog W 0 (fun _ => true) true Try.f5.params.toList args.toList ds p := hA0
  rw [Try.params5] at hA hval hsz
  obtain ⟨v0, vs0, d0, ds0, p0, q0, hargs, rfl, rfl, h0, r0⟩ := trodAll_cons hA
  obtain ⟨rfl, rfl, rfl⟩ := trodAll_nil r0
  obtain rfl : args = #[v0] := by cases args; simp_all
  obtain ⟨rfl, rfl⟩ := trodVars_none hV
  have k0 := h0
  have lt0 : ∀ x ∈ p0, x.block < W.heap.size := by obtain ⟨m, hm⟩ := k0; exact DataW.trod_lt m _ _ _ hm
  obtain ⟨x0, cs0, rfl, K0, ok0⟩ := argw_struct opn_T45p (light_arg hsz (j := 0) (t := 45) rfl rfl) (by obtain ⟨cs, h, _⟩ := okWide_struct Try.underlying45 (hval 0 45 v0 rfl rfl); exact ⟨cs, h⟩) h0
  obtain ⟨_, _, rfl, ⟨A0_0, c0_0, rfl, cap0_0, C0_0⟩, ⟨_, _, rfl, ⟨A0_1, c0_1, rfl, cap0_1, C0_1⟩, ⟨_, _, rfl, rfl, ⟨_, _, rfl, rfl, ⟨_, _, rfl, rfl, rfl⟩⟩⟩⟩⟩ := K0
  clear hA0 hval0 hsz0 hsz
  refine (walkCuts W A0_0 A0_1 c0_0 c0_1 x0.1 x0.2.1 x0.2.2.1 x0.2.2.2.1 x0.2.2.2.2.1 x0.2.2.2.2.2 C0_0 cap0_0 C0_1 cap0_1 (fun r hr c hc => by have h := bounds_u8 ((ok0.1.2 r hr).2 c hc); omega) (fun r hr c hc => by have h := bounds_u8 ((ok0.2.1.2 r hr).2 c hc); omega) (bounds_i64 ok0.2.2.2.1).2 (bounds_i64 ok0.2.2.2.2.1).2).mono fun e W' ⟨he, bel⟩ => ?_
  subst he
  exact ⟨_, rfl, _, _, _, [], _, [], hW', trodAll_mk1 (shut_bool Try.underlying4 _), (trodAll_cons_mk (Below.trod laidOut (by kernel_rfl) (of_decide_eq_true (by kernel_rfl)) k0 bel lt0) trodAll_mk0), rfl, bel.frame _, fun h => by cases h⟩
theorem over : Rows.diaryCutsRow.holds Try.pinned (OpenSpec.ofChange Rows.diaryCutsSpec) :=
  OpenClaim.holds_of_wide 5 Try.f5 rfl rfl rfl rfl rfl rfl rfl ⟨rfl, rfl, rfl, rfl, rfl⟩ rfl rfl rfl rfl rfl (by kernel_rfl) Try.func5 (by kernel_rfl)
    (of_decide_eq_true (by kernel_rfl)) (by unfold Func.isWrapper; first | (rw [if_pos (by decide +kernel)]; kernel_rfl) | (rw [if_neg (by decide +kernel)]; exact ⟨rfl, rfl⟩))
    (fun os started H enc _ => lifted os started H enc)
end Go.Proofs.Ytiiljpaedelhlaa.diaryCutsRow
namespace Go.Proofs.Ytiiljpaedelhlaa
theorem diaryCuts_holds : Rows.DiaryCutsSaid := diaryCutsRow.over
#print axioms diaryCuts_holds
end Go.Proofs.Ytiiljpaedelhlaa
