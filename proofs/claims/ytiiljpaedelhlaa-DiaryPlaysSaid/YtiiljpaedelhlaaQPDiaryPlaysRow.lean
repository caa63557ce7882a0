/- The law DiaryPlays holds of every input: the call answers true, and each argument reads as before. -/
import Derived.Test.YtiiljpaedelhlaaRows
import Derived.Test.YtiiljpaedelhlaaQPDypLaw
import Derived.Test.YtiiljpaedelhlaaQP5
namespace Go.Proofs.Ytiiljpaedelhlaa.diaryPlaysRow
open Go.ChangeShapes Go.WideShapes Go.ChangeAt Go.RowKit
open Go.ChangeMaps (open_string shut_string)
open Go.Proofs.YtiiljpaedelhlaaW
open Go.Proofs.Ytiiljpaedelhlaa.Tp
set_option linter.unusedVariables false
theorem own : ownKnob Try.prog.godebug = none := by kernel_rfl
theorem laidOut : laidOutB Try.prog = true := by kernel_rfl
open Go.Proofs.Ytiiljpaedelhlaa.Flow
section
open Go.Proofs.YtiiljpaedelhlaaW.PrintWords
theorem opn_T64p {H : Type} {enc : TypeId × Value → H} {W : World} : OpW enc Try.prog W 64 (Kd.pair (Kd.int .i64) (Kd.pair (Kd.slice 5 (Kd.int .u8)) (Kd.pair (Kd.slice 32 (Kd.slice 5 (Kd.int .u8))) (Kd.int .i64)))) (fun x : (Int × ((List Int) × ((List (List Int)) × Int))) => (fun x : Int => (Lit.int .i64 x).wf = true) x.1 ∧ (fun x : ((List Int) × ((List (List Int)) × Int)) => (fun xs : List Int => xs.length ≤ 140737488351232 ∧ ∀ x ∈ xs, (fun x : Int => (Lit.int .u8 x).wf = true) x) x.1 ∧ (fun x : ((List (List Int)) × Int) => (fun xs : List (List Int) => xs.length * 24 ≤ 140737488351232 ∧ ∀ x ∈ xs, (fun xs : List Int => xs.length ≤ 140737488351232 ∧ ∀ x ∈ xs, (fun x : Int => (Lit.int .u8 x).wf = true) x) x) x.1 ∧ (fun x : Int => (fun x : Int => (Lit.int .i64 x).wf = true) x) x.2) x.2) x.2) := opw_struct Try.underlying64 (fun n cs ys hcl hf hyl hLy => (opwAt_cons (Opn.w (opn_int Try.underlying3)) (by kernel_rfl) rfl ((hf 0 _ rfl).trans (List.getElem?_eq_getElem (by rw [hyl]; decide))) (hLy 0 _ _ rfl (List.getElem?_eq_getElem (by rw [hyl]; decide))) (opwAt_cons (opw_slice Try.underlying32 (by kernel_rfl) (Nat.le_of_ble_eq_true (by kernel_rfl)) 0 (Opn.w (opn_int Try.underlying5))) (by kernel_rfl) rfl ((hf 1 _ rfl).trans (List.getElem?_eq_getElem (by rw [hyl]; decide))) (hLy 1 _ _ rfl (List.getElem?_eq_getElem (by rw [hyl]; decide))) (opwAt_cons (opw_sliceb 24 Try.underlying22 (by kernel_rfl) (Nat.le_of_ble_eq_true (by kernel_rfl)) (by decide) [] (opw_slice Try.underlying32 (by kernel_rfl) (Nat.le_of_ble_eq_true (by kernel_rfl)) 0 (Opn.w (opn_int Try.underlying5)))) (by kernel_rfl) rfl ((hf 2 _ rfl).trans (List.getElem?_eq_getElem (by rw [hyl]; decide))) (hLy 2 _ _ rfl (List.getElem?_eq_getElem (by rw [hyl]; decide))) (opwAt_last (Opn.w (opn_int Try.underlying3)) (by kernel_rfl) (hcl.trans (by kernel_rfl)) ((hf 3 _ rfl).trans (List.getElem?_eq_getElem (by rw [hyl]; decide))) (hLy 3 _ _ rfl (List.getElem?_eq_getElem (by rw [hyl]; decide))))))))
end
set_option maxRecDepth 100000 in
theorem lifted (os : Os) (started : os.Started) (H : Type) (enc : TypeId × Value → H) :
    ReturnsInHanded {} Try.checked os 8 .any (Rows.diaryPlaysSpec.pre6 enc Try.prog Try.f8 Rows.diaryPlaysRow.domain false) (Rows.diaryPlaysSpec.post enc Try.prog Try.f8 false true false false) := by
  refine returnsInHanded_of_change_sized (C := Try.checked) own started (by kernel_rfl) Try.func8
    (ChangeSpec.witness6 (enc := enc) (C := Try.checked) false ⟨#[], #[.slice none 0 0], []⟩ 8 (by kernel_rfl) (by kernel_rfl) (by kernel_rfl) (by kernel_rfl)) ?_
  intro W base args ds gs before hval0 hW hcnd hsz0 _
  have hsz : (DataW.weightsEach Try.prog (Try.f8.params.toList ++ Rows.diaryPlaysSpec.plain.varTypes Try.prog) (ds ++ gs)).all (· ≤ reachBytes) = true := hsz0
  have hval : ∀ (j : Nat) t v, Try.f8.params[j]? = some t → args[j]? = some v → Value.okWide Try.prog W .any base t v := hval0
  have hW' := hW
  obtain ⟨p, q, hA0, hV, rfl, hfz, hnd⟩ := hW
  have hA : DataW.TrodAll enc Try.prog W 0 (fun _ => true) true Try.f8.params.toList args.toList ds p := hA0
  rw [Try.params8] at hA hval hsz
  obtain ⟨v0, vs0, d0, ds0, p0, q0, hargs, rfl, rfl, h0, r0⟩ := trodAll_cons hA
  obtain ⟨rfl, rfl, rfl⟩ := trodAll_nil r0
  obtain rfl : args = #[v0] := by cases args; simp_all
  obtain ⟨rfl, rfl⟩ := trodVars_none hV
  have k0 := h0
  have lt0 : ∀ x ∈ p0, x.block < W.heap.size := by obtain ⟨m, hm⟩ := k0; exact DataW.trod_lt m _ _ _ hm
  obtain ⟨a0, c0, x0, rfl, C0, cap0, ok0⟩ := argw_row (opw_sliceb 64 Try.underlying55 (by kernel_rfl) (Nat.le_of_ble_eq_true (by kernel_rfl)) (by decide) (0, [], [], 0) opn_T64p) (light_arg hsz (j := 0) (t := 55) rfl rfl) (okWide_slice Try.underlying55 (hval 0 55 v0 rfl rfl)) h0
  clear hA0 hval0 hsz0 hsz
  refine (walkPlays W a0 c0 x0 C0 cap0 (by have h_ := ok0.1; omega) (fun o ho => ⟨by have h_ := (ok0.2 o ho).2.1.1; omega, by have h_ := (ok0.2 o ho).2.2.1.1; omega, fun p hp => by have h_ := ((ok0.2 o ho).2.2.1.2 p hp).1; omega⟩) (fun o ho => ⟨fun c hc => by have h := bounds_u8 ((ok0.2 o ho).2.1.2 c hc); omega, fun p hp c hc => by have h := bounds_u8 (((ok0.2 o ho).2.2.1.2 p hp).2 c hc); omega⟩) (fun o ho => by have h := bounds_i64 (ok0.2 o ho).2.2.2; omega)).mono fun e W' ⟨he, bel⟩ => ?_
  subst he
  exact ⟨_, rfl, _, _, _, [], _, [], hW', trodAll_mk1 (shut_bool Try.underlying4 _), (trodAll_cons_mk (Below.trod laidOut (by kernel_rfl) (of_decide_eq_true (by kernel_rfl)) k0 bel lt0) trodAll_mk0), rfl, bel.frame _, fun h => by cases h⟩
theorem over : Rows.diaryPlaysRow.holds Try.pinned (OpenSpec.ofChange Rows.diaryPlaysSpec) :=
  OpenClaim.holds_of_wide 8 Try.f8 rfl rfl rfl rfl rfl rfl rfl ⟨rfl, rfl, rfl, rfl, rfl⟩ rfl rfl rfl rfl rfl (by kernel_rfl) Try.func8 (by kernel_rfl)
    (of_decide_eq_true (by kernel_rfl)) (by unfold Func.isWrapper; first | (rw [if_pos (by decide +kernel)]; kernel_rfl) | (rw [if_neg (by decide +kernel)]; exact ⟨rfl, rfl⟩))
    (fun os started H enc _ => lifted os started H enc)
end Go.Proofs.Ytiiljpaedelhlaa.diaryPlaysRow
namespace Go.Proofs.Ytiiljpaedelhlaa
theorem diaryPlays_holds : Rows.DiaryPlaysSaid := diaryPlaysRow.over
end Go.Proofs.Ytiiljpaedelhlaa
open Go.Proofs.Ytiiljpaedelhlaa in
#print axioms diaryPlays_holds
