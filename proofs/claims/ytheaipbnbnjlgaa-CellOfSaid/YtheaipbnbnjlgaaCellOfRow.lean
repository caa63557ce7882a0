/- The law CellOf holds of every input: the call answers true, and each argument reads as before. -/
import Derived.Test.YtheaipbnbnjlgaaRows
import Derived.Test.YtheaipbnbnjlgaaCeOfW
import Derived.Test.YtheaipbnbnjlgaaFlowU
import Derived.Test.YtheaipbnbnjlgaaFlowR
namespace Go.Proofs.Ytheaipbnbnjlgaa.cellOfRow
open Go.ChangeShapes Go.WideShapes Go.ChangeAt Go.RowKit
open Go.ChangeMaps (open_string shut_string)
open Go.Proofs.YtheaipbnbnjlgaaW
open Go.Proofs.Ytheaipbnbnjlgaa.Ce
set_option linter.unusedVariables false
theorem own : ownKnob Try.prog.godebug = none := by kernel_rfl
theorem laidOut : laidOutB Try.prog = true := by kernel_rfl
open Go.Proofs.Ytheaipbnbnjlgaa.Flow
section
open Go.Proofs.YtheaipbnbnjlgaaW.PrintWords
theorem opn_T44p {H : Type} {enc : TypeId × Value → H} {W : World} : OpW enc Try.prog W 44 (Kd.pair (Kd.int .i64) (Kd.pair (Kd.int .i64) (Kd.pair (Kd.int .i64) (Kd.pair (Kd.int .i64) (Kd.int .i64))))) (fun x : (Int × (Int × (Int × (Int × Int)))) => (fun x : Int => (Lit.int .i64 x).wf = true) x.1 ∧ (fun x : (Int × (Int × (Int × Int))) => (fun x : Int => (Lit.int .i64 x).wf = true) x.1 ∧ (fun x : (Int × (Int × Int)) => (fun x : Int => (Lit.int .i64 x).wf = true) x.1 ∧ (fun x : (Int × Int) => (fun x : Int => (Lit.int .i64 x).wf = true) x.1 ∧ (fun x : Int => (fun x : Int => (Lit.int .i64 x).wf = true) x) x.2) x.2) x.2) x.2) := opw_struct Try.underlying44 (fun n cs ys hcl hf hyl hLy => (opwAt_cons (Opn.w (opn_int Try.underlying3)) (by kernel_rfl) rfl ((hf 0 _ rfl).trans (List.getElem?_eq_getElem (by rw [hyl]; decide))) (hLy 0 _ _ rfl (List.getElem?_eq_getElem (by rw [hyl]; decide))) (opwAt_cons (Opn.w (opn_int Try.underlying3)) (by kernel_rfl) rfl ((hf 1 _ rfl).trans (List.getElem?_eq_getElem (by rw [hyl]; decide))) (hLy 1 _ _ rfl (List.getElem?_eq_getElem (by rw [hyl]; decide))) (opwAt_cons (Opn.w (opn_int Try.underlying3)) (by kernel_rfl) rfl ((hf 2 _ rfl).trans (List.getElem?_eq_getElem (by rw [hyl]; decide))) (hLy 2 _ _ rfl (List.getElem?_eq_getElem (by rw [hyl]; decide))) (opwAt_cons (Opn.w (opn_int Try.underlying3)) (by kernel_rfl) rfl ((hf 3 _ rfl).trans (List.getElem?_eq_getElem (by rw [hyl]; decide))) (hLy 3 _ _ rfl (List.getElem?_eq_getElem (by rw [hyl]; decide))) (opwAt_last (Opn.w (opn_int Try.underlying3)) (by kernel_rfl) (hcl.trans (by kernel_rfl)) ((hf 4 _ rfl).trans (List.getElem?_eq_getElem (by rw [hyl]; decide))) (hLy 4 _ _ rfl (List.getElem?_eq_getElem (by rw [hyl]; decide)))))))))
theorem opn_T46p {H : Type} {enc : TypeId × Value → H} {W : World} : OpW enc Try.prog W 46 (Kd.pair (Kd.int .i64) (Kd.pair (Kd.int .i64) (Kd.pair (Kd.int .i64) (Kd.pair (Kd.int .i64) (Kd.pair (Kd.int .i64) (Kd.int .i64)))))) (fun x : (Int × (Int × (Int × (Int × (Int × Int))))) => (fun x : Int => (Lit.int .i64 x).wf = true) x.1 ∧ (fun x : (Int × (Int × (Int × (Int × Int)))) => (fun x : (Int × (Int × (Int × (Int × Int)))) => (fun x : Int => (Lit.int .i64 x).wf = true) x.1 ∧ (fun x : (Int × (Int × (Int × Int))) => (fun x : Int => (Lit.int .i64 x).wf = true) x.1 ∧ (fun x : (Int × (Int × Int)) => (fun x : Int => (Lit.int .i64 x).wf = true) x.1 ∧ (fun x : (Int × Int) => (fun x : Int => (Lit.int .i64 x).wf = true) x.1 ∧ (fun x : Int => (fun x : Int => (Lit.int .i64 x).wf = true) x) x.2) x.2) x.2) x.2) x) x.2) := opw_struct Try.underlying46 (fun n cs ys hcl hf hyl hLy => (opwAt_cons (Opn.w (opn_int Try.underlying3)) (by kernel_rfl) rfl ((hf 0 _ rfl).trans (List.getElem?_eq_getElem (by rw [hyl]; decide))) (hLy 0 _ _ rfl (List.getElem?_eq_getElem (by rw [hyl]; decide))) (opwAt_last opn_T44p (by kernel_rfl) (hcl.trans (by kernel_rfl)) ((hf 1 _ rfl).trans (List.getElem?_eq_getElem (by rw [hyl]; decide))) (hLy 1 _ _ rfl (List.getElem?_eq_getElem (by rw [hyl]; decide))))))
theorem opn_T46 {H : Type} {enc : TypeId × Value → H} {W : World} : OpW enc Try.prog W 46 kSample (fun x : (Int × Int × Int × Int × Int × Int) => (Lit.int .i64 x.1).wf = true ∧ (Lit.int .i64 x.2.1).wf = true ∧ (Lit.int .i64 x.2.2.1).wf = true ∧ (Lit.int .i64 x.2.2.2.1).wf = true ∧ (Lit.int .i64 x.2.2.2.2.1).wf = true ∧ (Lit.int .i64 x.2.2.2.2.2).wf = true) := (opn_T46p).as (fun x => (x.1, x.2.1, x.2.2.1, x.2.2.2.1, x.2.2.2.2.1, x.2.2.2.2.2)) (fun x cs h => by
  obtain ⟨_, _, rfl, rfl, ⟨_, _, rfl, rfl, ⟨_, _, rfl, rfl, ⟨_, _, rfl, rfl, ⟨_, _, rfl, rfl, rfl⟩⟩⟩⟩⟩ := h
  rfl) (fun x h => by obtain ⟨h0, ⟨h1, h2, h3, h4, h5⟩⟩ := h; exact ⟨h0, h1, h2, h3, h4, h5⟩)
end
set_option maxRecDepth 100000 in
theorem lifted (os : Os) (started : os.Started) (H : Type) (enc : TypeId × Value → H) :
    ReturnsInHanded {} Try.checked os 3 .any (Rows.cellOfSpec.pre6 enc Try.prog Try.f3 Rows.cellOfRow.domain false) (Rows.cellOfSpec.post enc Try.prog Try.f3 false true false false) := by
  refine returnsInHanded_of_change_sized (C := Try.checked) own started (by kernel_rfl) Try.func3
    (ChangeSpec.witness6 (enc := enc) (C := Try.checked) false ⟨#[], #[.slice none 0 0], []⟩ 8 (by kernel_rfl) (by kernel_rfl) (by kernel_rfl) (by kernel_rfl)) ?_
  intro W base args ds gs before hval0 hW hcnd hsz0 _
  have hsz : (DataW.weightsEach Try.prog (Try.f3.params.toList ++ Rows.cellOfSpec.plain.varTypes Try.prog) (ds ++ gs)).all (· ≤ reachBytes) = true := hsz0
  have hval : ∀ (j : Nat) t v, Try.f3.params[j]? = some t → args[j]? = some v → Value.okWide Try.prog W .any base t v := hval0
  have hW' := hW
  obtain ⟨p, q, hA0, hV, rfl, hfz, hnd⟩ := hW
  have hA : DataW.TrodAll enc Try.prog W 0 (fun _ => true) true Try.f3.params.toList args.toList ds p := hA0
  rw [Try.params3] at hA hval hsz
  obtain ⟨v0, vs0, d0, ds0, p0, q0, hargs, rfl, rfl, h0, r0⟩ := trodAll_cons hA
  obtain ⟨rfl, rfl, rfl⟩ := trodAll_nil r0
  obtain rfl : args = #[v0] := by cases args; simp_all
  obtain ⟨rfl, rfl⟩ := trodVars_none hV
  have k0 := h0
  have lt0 : ∀ x ∈ p0, x.block < W.heap.size := by obtain ⟨m, hm⟩ := k0; exact DataW.trod_lt m _ _ _ hm
  obtain ⟨a0, c0, x0, rfl, C0, cap0, ok0⟩ := argw_row (opw_slice Try.underlying22 (by kernel_rfl) (Nat.le_of_ble_eq_true (by kernel_rfl)) (0, 0, 0, 0, 0, 0) opn_T46) (light_arg hsz (j := 0) (t := 22) rfl rfl) (okWide_slice Try.underlying22 (hval 0 22 v0 rfl rfl)) h0
  clear hA0 hval0 hsz0 hsz
  refine (walkOf W a0 c0 x0 C0 cap0 (Nat.le_trans ok0.1 (by decide)) (fun s hs => bounds_i64 (ok0.2 s hs).2.2.2.2.2)).mono fun e W' ⟨he, bel⟩ => ?_
  subst he
  exact ⟨_, rfl, _, _, _, [], _, [], hW', trodAll_mk1 (shut_bool Try.underlying4 _), (trodAll_cons_mk (Below.trod laidOut (by kernel_rfl) (of_decide_eq_true (by kernel_rfl)) k0 bel lt0) trodAll_mk0), rfl, bel.frame _, fun h => by cases h⟩
theorem over : Rows.cellOfRow.holds Try.pinned (OpenSpec.ofChange Rows.cellOfSpec) :=
  OpenClaim.holds_of_wide 3 Try.f3 rfl rfl rfl rfl rfl rfl rfl ⟨rfl, rfl, rfl, rfl, rfl⟩ rfl rfl rfl rfl rfl (by kernel_rfl) Try.func3 (by kernel_rfl)
    (of_decide_eq_true (by kernel_rfl)) (by unfold Func.isWrapper; first | (rw [if_pos (by decide +kernel)]; kernel_rfl) | (rw [if_neg (by decide +kernel)]; exact ⟨rfl, rfl⟩))
    (fun os started H enc _ => lifted os started H enc)
end Go.Proofs.Ytheaipbnbnjlgaa.cellOfRow
namespace Go.Proofs.Ytheaipbnbnjlgaa
theorem cellOf_holds : Rows.CellOfSaid := cellOfRow.over
#print axioms cellOf_holds
end Go.Proofs.Ytheaipbnbnjlgaa
