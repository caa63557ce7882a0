/- The law NotePlaces holds of every input: the call answers true, and each argument reads as before. -/
import Derived.Test.YtbbhdohjhipalaaRows
import Derived.Test.YtbbhdohjhipalaaQANtPlaces
import Derived.Test.YtbbhdohjhipalaaQA6
namespace Go.Proofs.Ytbbhdohjhipalaa.notePlacesRow
open Go.ChangeShapes Go.WideShapes Go.ChangeAt Go.RowKit
open Go.ChangeMaps (open_string shut_string)
open Go.Proofs.YtbbhdohjhipalaaW
open Go.Proofs.Ytbbhdohjhipalaa.Ce
set_option linter.unusedVariables false
theorem own : ownKnob Try.prog.godebug = none := by kernel_rfl
theorem laidOut : laidOutB Try.prog = true := by kernel_rfl
open Go.Proofs.Ytbbhdohjhipalaa.Flow
section
open Go.Proofs.YtbbhdohjhipalaaW.PrintWords
theorem opn_T55p {H : Type} {enc : TypeId × Value → H} {W : World} : OpW enc Try.prog W 55 (Kd.pair (Kd.int .i64) (Kd.int .i64)) (fun x : (Int × Int) => (fun x : Int => (Lit.int .i64 x).wf = true) x.1 ∧ (fun x : Int => (fun x : Int => (Lit.int .i64 x).wf = true) x) x.2) := opw_struct Try.underlying55 (fun n cs ys hcl hf hyl hLy => (opwAt_cons (Opn.w (opn_int Try.underlying3)) (by kernel_rfl) rfl ((hf 0 _ rfl).trans (List.getElem?_eq_getElem (by rw [hyl]; decide))) (hLy 0 _ _ rfl (List.getElem?_eq_getElem (by rw [hyl]; decide))) (opwAt_last (Opn.w (opn_int Try.underlying3)) (by kernel_rfl) (hcl.trans (by kernel_rfl)) ((hf 1 _ rfl).trans (List.getElem?_eq_getElem (by rw [hyl]; decide))) (hLy 1 _ _ rfl (List.getElem?_eq_getElem (by rw [hyl]; decide))))))
theorem opn_T55 {H : Type} {enc : TypeId × Value → H} {W : World} : OpW enc Try.prog W 55 kPlace (fun x : (Int × Int) => (Lit.int .i64 x.1).wf = true ∧ (Lit.int .i64 x.2).wf = true) := (opn_T55p).as (fun x => (x.1, x.2)) (fun x cs h => by
  obtain ⟨_, _, rfl, rfl, rfl⟩ := h
  rfl) (fun x h => by obtain ⟨h0, h1⟩ := h; exact ⟨h0, h1⟩)
end
set_option maxRecDepth 100000 in
theorem lifted (os : Os) (started : os.Started) (H : Type) (enc : TypeId × Value → H) :
    ReturnsInHanded {} Try.checked os 8 .any (Rows.notePlacesSpec.pre6 enc Try.prog Try.f8 Rows.notePlacesRow.domain false) (Rows.notePlacesSpec.post enc Try.prog Try.f8 false true false false) := by
  refine returnsInHanded_of_change_sized (C := Try.checked) own started (by kernel_rfl) Try.func8
    (ChangeSpec.witness6 (enc := enc) (C := Try.checked) false ⟨#[], #[.slice none 0 0, .slice none 0 0], []⟩ 8 (by kernel_rfl) (by kernel_rfl) (by kernel_rfl) (by kernel_rfl)) ?_
  intro W base args ds gs before hval0 hW hcnd hsz0 _
  have hsz : (DataW.weightsEach Try.prog (Try.f8.params.toList ++ Rows.notePlacesSpec.plain.varTypes Try.prog) (ds ++ gs)).all (· ≤ reachBytes) = true := hsz0
  have hval : ∀ (j : Nat) t v, Try.f8.params[j]? = some t → args[j]? = some v → Value.okWide Try.prog W .any base t v := hval0
  have hW' := hW
  obtain ⟨p, q, hA0, hV, rfl, hfz, hnd⟩ := hW
  have hA : DataW.TrodAll enc Try.prog W 0 (fun _ => true) true Try.f8.params.toList args.toList ds p := hA0
  rw [Try.params8] at hA hval hsz
  obtain ⟨v0, vs0, d0, ds0, p0, q0, hargs, rfl, rfl, h0, r0⟩ := trodAll_cons hA
  obtain ⟨v1, vs1, d1, ds1, p1, q1, rfl, rfl, rfl, h1, r1⟩ := trodAll_cons r0
  obtain ⟨rfl, rfl, rfl⟩ := trodAll_nil r1
  obtain rfl : args = #[v0, v1] := by cases args; simp_all
  obtain ⟨rfl, rfl⟩ := trodVars_none hV
  have k0 := h0
  have lt0 : ∀ x ∈ p0, x.block < W.heap.size := by obtain ⟨m, hm⟩ := k0; exact DataW.trod_lt m _ _ _ hm
  obtain ⟨a0, c0, x0, rfl, C0, cap0, ok0⟩ := argw_row (opw_slice Try.underlying51 (by kernel_rfl) (Nat.le_of_ble_eq_true (by kernel_rfl)) (0, 0) opn_T55) (light_arg hsz (j := 0) (t := 51) rfl rfl) (okWide_slice Try.underlying51 (hval 0 51 v0 rfl rfl)) h0
  have k1 := h1
  have lt1 : ∀ x ∈ p1, x.block < W.heap.size := by obtain ⟨m, hm⟩ := k1; exact DataW.trod_lt m _ _ _ hm
  obtain ⟨a1, c1, x1, rfl, C1, cap1, ok1⟩ := argw_row (opw_slice Try.underlying22 (by kernel_rfl) (Nat.le_of_ble_eq_true (by kernel_rfl)) 0 (Opn.w (opn_int Try.underlying3))) (light_arg hsz (j := 1) (t := 22) rfl rfl) (okWide_slice Try.underlying22 (hval 1 22 v1 rfl rfl)) h1
  clear hA0 hval0 hsz0 hsz
  refine (placesL_calls W a0 c0 x0 C0 cap0 (Nat.le_trans ok0.1 (by decide)) a1 c1 x1 C1 cap1 (Nat.le_trans ok1.1 (by decide))).mono fun e W' ⟨he, bel⟩ => ?_
  subst he
  exact ⟨_, rfl, _, _, _, [], _, [], hW', trodAll_mk1 (shut_bool Try.underlying4 _), (trodAll_cons_mk (Below.trod laidOut (by kernel_rfl) (of_decide_eq_true (by kernel_rfl)) k0 bel lt0) (trodAll_cons_mk (Below.trod laidOut (by kernel_rfl) (of_decide_eq_true (by kernel_rfl)) k1 bel lt1) trodAll_mk0)), rfl, bel.frame _, fun h => by cases h⟩
theorem over : Rows.notePlacesRow.holds Try.pinned (OpenSpec.ofChange Rows.notePlacesSpec) :=
  OpenClaim.holds_of_wide 8 Try.f8 rfl rfl rfl rfl rfl rfl rfl ⟨rfl, rfl, rfl, rfl, rfl⟩ rfl rfl rfl rfl rfl (by kernel_rfl) Try.func8 (by kernel_rfl)
    (of_decide_eq_true (by kernel_rfl)) (by unfold Func.isWrapper; first | (rw [if_pos (by decide +kernel)]; kernel_rfl) | (rw [if_neg (by decide +kernel)]; exact ⟨rfl, rfl⟩))
    (fun os started H enc _ => lifted os started H enc)
end Go.Proofs.Ytbbhdohjhipalaa.notePlacesRow
namespace Go.Proofs.Ytbbhdohjhipalaa
theorem notePlaces_holds : Rows.NotePlacesSaid := notePlacesRow.over
end Go.Proofs.Ytbbhdohjhipalaa
open Go.Proofs.Ytbbhdohjhipalaa in
#print axioms notePlaces_holds
