/- The law PlaceCovers holds of every input: the call answers true, and each argument reads as before. -/
import Derived.Test.YtgedckgkddpkkaaRows
import Derived.Test.YtgedckgkddpkkaaPcCovers
import Derived.Test.YtgedckgkddpkkaaFlowU
import Derived.Test.YtgedckgkddpkkaaFlowR
namespace Go.Proofs.Ytgedckgkddpkkaa.placeCoversRow
open Go.ChangeShapes Go.WideShapes Go.ChangeAt Go.RowKit
open Go.ChangeMaps (open_string shut_string)
open Go.Proofs.YtgedckgkddpkkaaW
open Go.Proofs.Ytgedckgkddpkkaa.PPlaceCells
set_option linter.unusedVariables false
theorem own : ownKnob Try.prog.godebug = none := by kernel_rfl
theorem laidOut : laidOutB Try.prog = true := by kernel_rfl
open Go.Proofs.Ytgedckgkddpkkaa.Flow
section
open Go.Proofs.YtgedckgkddpkkaaW.PrintWords
theorem opn_T23p {H : Type} {enc : TypeId × Value → H} {W : World} : OpW enc Try.prog W 23 (Kd.pair (Kd.int .i64) (Kd.pair (Kd.int .i64) (Kd.pair (Kd.int .i64) (Kd.pair (Kd.int .i64) (Kd.int .i64))))) (fun x : (Int × (Int × (Int × (Int × Int)))) => (fun x : Int => (Lit.int .i64 x).wf = true) x.1 ∧ (fun x : (Int × (Int × (Int × Int))) => (fun x : Int => (Lit.int .i64 x).wf = true) x.1 ∧ (fun x : (Int × (Int × Int)) => (fun x : Int => (Lit.int .i64 x).wf = true) x.1 ∧ (fun x : (Int × Int) => (fun x : Int => (Lit.int .i64 x).wf = true) x.1 ∧ (fun x : Int => (fun x : Int => (Lit.int .i64 x).wf = true) x) x.2) x.2) x.2) x.2) := opw_struct Try.underlying23 (fun n cs ys hcl hf hyl hLy => (opwAt_cons (Opn.w (opn_int Try.underlying3)) (by kernel_rfl) rfl ((hf 0 _ rfl).trans (List.getElem?_eq_getElem (by rw [hyl]; decide))) (hLy 0 _ _ rfl (List.getElem?_eq_getElem (by rw [hyl]; decide))) (opwAt_cons (Opn.w (opn_int Try.underlying3)) (by kernel_rfl) rfl ((hf 1 _ rfl).trans (List.getElem?_eq_getElem (by rw [hyl]; decide))) (hLy 1 _ _ rfl (List.getElem?_eq_getElem (by rw [hyl]; decide))) (opwAt_cons (Opn.w (opn_int Try.underlying3)) (by kernel_rfl) rfl ((hf 2 _ rfl).trans (List.getElem?_eq_getElem (by rw [hyl]; decide))) (hLy 2 _ _ rfl (List.getElem?_eq_getElem (by rw [hyl]; decide))) (opwAt_cons (Opn.w (opn_int Try.underlying3)) (by kernel_rfl) rfl ((hf 3 _ rfl).trans (List.getElem?_eq_getElem (by rw [hyl]; decide))) (hLy 3 _ _ rfl (List.getElem?_eq_getElem (by rw [hyl]; decide))) (opwAt_last (Opn.w (opn_int Try.underlying3)) (by kernel_rfl) (hcl.trans (by kernel_rfl)) ((hf 4 _ rfl).trans (List.getElem?_eq_getElem (by rw [hyl]; decide))) (hLy 4 _ _ rfl (List.getElem?_eq_getElem (by rw [hyl]; decide)))))))))
theorem opn_T23 {H : Type} {enc : TypeId × Value → H} {W : World} : OpW enc Try.prog W 23 kOp (fun x : (Int × Int × Int × Int × Int) => (Lit.int .i64 x.1).wf = true ∧ (Lit.int .i64 x.2.1).wf = true ∧ (Lit.int .i64 x.2.2.1).wf = true ∧ (Lit.int .i64 x.2.2.2.1).wf = true ∧ (Lit.int .i64 x.2.2.2.2).wf = true) := (opn_T23p).as (fun x => (x.1, x.2.1, x.2.2.1, x.2.2.2.1, x.2.2.2.2)) (fun x cs h => by
  obtain ⟨_, _, rfl, rfl, ⟨_, _, rfl, rfl, ⟨_, _, rfl, rfl, ⟨_, _, rfl, rfl, rfl⟩⟩⟩⟩ := h
  rfl) (fun x h => by obtain ⟨h0, h1, h2, h3, h4⟩ := h; exact ⟨h0, h1, h2, h3, h4⟩)
theorem opn_T29p {H : Type} {enc : TypeId × Value → H} {W : World} : OpW enc Try.prog W 29 (Kd.pair (Kd.int .i64) (Kd.int .i64)) (fun x : (Int × Int) => (fun x : Int => (Lit.int .i64 x).wf = true) x.1 ∧ (fun x : Int => (fun x : Int => (Lit.int .i64 x).wf = true) x) x.2) := opw_struct Try.underlying29 (fun n cs ys hcl hf hyl hLy => (opwAt_cons (Opn.w (opn_int Try.underlying3)) (by kernel_rfl) rfl ((hf 0 _ rfl).trans (List.getElem?_eq_getElem (by rw [hyl]; decide))) (hLy 0 _ _ rfl (List.getElem?_eq_getElem (by rw [hyl]; decide))) (opwAt_last (Opn.w (opn_int Try.underlying3)) (by kernel_rfl) (hcl.trans (by kernel_rfl)) ((hf 1 _ rfl).trans (List.getElem?_eq_getElem (by rw [hyl]; decide))) (hLy 1 _ _ rfl (List.getElem?_eq_getElem (by rw [hyl]; decide))))))
theorem opn_T29 {H : Type} {enc : TypeId × Value → H} {W : World} : OpW enc Try.prog W 29 k29 (fun x : S29 => (Lit.int .i64 x.f0).wf = true ∧ (Lit.int .i64 x.f1).wf = true) := (opn_T29p).as (fun x => ⟨x.1, x.2⟩) (fun x cs h => h) (fun x h => by obtain ⟨h0, h1⟩ := h; exact ⟨h0, h1⟩)
theorem opn_T47p {H : Type} {enc : TypeId × Value → H} {W : World} : OpW enc Try.prog W 47 (Kd.pair kOp (Kd.pair (Kd.slice 3 (Kd.int .i64)) (Kd.pair (Kd.int .i64) (Kd.slice 29 k29)))) (fun x : ((Int × Int × Int × Int × Int) × ((List Int) × (Int × (List S29)))) => (fun x : (Int × Int × Int × Int × Int) => (Lit.int .i64 x.1).wf = true ∧ (Lit.int .i64 x.2.1).wf = true ∧ (Lit.int .i64 x.2.2.1).wf = true ∧ (Lit.int .i64 x.2.2.2.1).wf = true ∧ (Lit.int .i64 x.2.2.2.2).wf = true) x.1 ∧ (fun x : ((List Int) × (Int × (List S29))) => (fun xs : List Int => xs.length ≤ 140737488351232 ∧ ∀ x ∈ xs, (fun x : Int => (Lit.int .i64 x).wf = true) x) x.1 ∧ (fun x : (Int × (List S29)) => (fun x : Int => (Lit.int .i64 x).wf = true) x.1 ∧ (fun x : (List S29) => (fun xs : List S29 => xs.length ≤ 140737488351232 ∧ ∀ x ∈ xs, (fun x : S29 => (Lit.int .i64 x.f0).wf = true ∧ (Lit.int .i64 x.f1).wf = true) x) x) x.2) x.2) x.2) := opw_struct Try.underlying47 (fun n cs ys hcl hf hyl hLy => (opwAt_cons opn_T23 (by kernel_rfl) rfl ((hf 0 _ rfl).trans (List.getElem?_eq_getElem (by rw [hyl]; decide))) (hLy 0 _ _ rfl (List.getElem?_eq_getElem (by rw [hyl]; decide))) (opwAt_cons (opw_slice Try.underlying27 (by kernel_rfl) (Nat.le_of_ble_eq_true (by kernel_rfl)) 0 (Opn.w (opn_int Try.underlying3))) (by kernel_rfl) rfl ((hf 1 _ rfl).trans (List.getElem?_eq_getElem (by rw [hyl]; decide))) (hLy 1 _ _ rfl (List.getElem?_eq_getElem (by rw [hyl]; decide))) (opwAt_cons (Opn.w (opn_int Try.underlying3)) (by kernel_rfl) rfl ((hf 2 _ rfl).trans (List.getElem?_eq_getElem (by rw [hyl]; decide))) (hLy 2 _ _ rfl (List.getElem?_eq_getElem (by rw [hyl]; decide))) (opwAt_last (opw_slice Try.underlying45 (by kernel_rfl) (Nat.le_of_ble_eq_true (by kernel_rfl)) z29 opn_T29) (by kernel_rfl) (hcl.trans (by kernel_rfl)) ((hf 3 _ rfl).trans (List.getElem?_eq_getElem (by rw [hyl]; decide))) (hLy 3 _ _ rfl (List.getElem?_eq_getElem (by rw [hyl]; decide))))))))
end
set_option maxRecDepth 100000 in
theorem lifted (os : Os) (started : os.Started) (H : Type) (enc : TypeId × Value → H) :
    ReturnsInHanded {} Try.checked os 9 .any (Rows.placeCoversSpec.pre6 enc Try.prog Try.f9 Rows.placeCoversRow.domain false) (Rows.placeCoversSpec.post enc Try.prog Try.f9 false true false false) := by
  refine returnsInHanded_of_change_sized (C := Try.checked) own started (by kernel_rfl) Try.func9
    (ChangeSpec.witness6 (enc := enc) (C := Try.checked) false ⟨#[], #[.agg #[.int .i64 0, .int .i64 0, .int .i64 0, .int .i64 0, .int .i64 0, .slice none 0 0, .int .i64 0, .slice none 0 0], .slice none 0 0], []⟩ 8 (by kernel_rfl) (by kernel_rfl) (by kernel_rfl) (by kernel_rfl)) ?_
  intro W base args ds gs before hval0 hW hcnd hsz0 _
  have hsz : (DataW.weightsEach Try.prog (Try.f9.params.toList ++ Rows.placeCoversSpec.plain.varTypes Try.prog) (ds ++ gs)).all (· ≤ reachBytes) = true := hsz0
  have hval : ∀ (j : Nat) t v, Try.f9.params[j]? = some t → args[j]? = some v → Value.okWide Try.prog W .any base t v := hval0
  have hW' := hW
  obtain ⟨p, q, hA0, hV, rfl, hfz, hnd⟩ := hW
  have hA : DataW.TrodAll enc Try.prog W 0 (fun _ => true) true Try.f9.params.toList args.toList ds p := hA0
  rw [Try.params9] at hA hval hsz
  obtain ⟨v0, vs0, d0, ds0, p0, q0, hargs, rfl, rfl, h0, r0⟩ := trodAll_cons hA
  obtain ⟨v1, vs1, d1, ds1, p1, q1, rfl, rfl, rfl, h1, r1⟩ := trodAll_cons r0
  obtain ⟨rfl, rfl, rfl⟩ := trodAll_nil r1
  obtain rfl : args = #[v0, v1] := by cases args; simp_all
  obtain ⟨rfl, rfl⟩ := trodVars_none hV
  have k0 := h0
  have lt0 : ∀ x ∈ p0, x.block < W.heap.size := by obtain ⟨m, hm⟩ := k0; exact DataW.trod_lt m _ _ _ hm
  obtain ⟨x0, cs0, rfl, K0, ok0⟩ := argw_struct opn_T47p (light_arg hsz (j := 0) (t := 47) rfl rfl) (by obtain ⟨cs, h, _⟩ := okWide_struct Try.underlying47 (hval 0 47 v0 rfl rfl); exact ⟨cs, h⟩) h0
  obtain ⟨_, _, rfl, rfl, ⟨_, _, rfl, ⟨A0_1, c0_1, rfl, cap0_1, C0_1⟩, ⟨_, _, rfl, rfl, ⟨A0_3, c0_3, rfl, cap0_3, C0_3⟩⟩⟩⟩ := K0
  have k1 := h1
  have lt1 : ∀ x ∈ p1, x.block < W.heap.size := by obtain ⟨m, hm⟩ := k1; exact DataW.trod_lt m _ _ _ hm
  obtain ⟨a1, c1, x1, rfl, C1, cap1, ok1⟩ := argw_row (opw_slice Try.underlying27 (by kernel_rfl) (Nat.le_of_ble_eq_true (by kernel_rfl)) 0 (Opn.w (opn_int Try.underlying3))) (light_arg hsz (j := 1) (t := 27) rfl rfl) (okWide_slice Try.underlying27 (hval 1 27 v1 rfl rfl)) h1
  clear hA0 hval0 hsz0 hsz
  refine (walkCovers W x0.1 x0.2.2.1 (by obtain ⟨⟨_, _, h2, h3, _⟩, _, h5, _⟩ := ok0; exact bounds_i64 h2) (by obtain ⟨⟨_, _, h2, h3, _⟩, _, h5, _⟩ := ok0; exact bounds_i64 h3) (by obtain ⟨⟨_, _, h2, h3, _⟩, _, h5, _⟩ := ok0; exact (bounds_i64 h5).2) A0_1 a1 A0_3 c0_1 c1 c0_3 x0.2.1 x1 x0.2.2.2 C0_1 cap0_1 C1 cap1 C0_3 cap0_3 (by obtain ⟨_, _, _, h6⟩ := ok0; intro p_ hp_; have h7 := h6.2 p_ hp_; exact ⟨bounds_i64 h7.1, bounds_i64 h7.2⟩)).mono fun e W' ⟨he, bel⟩ => ?_
  subst he
  exact ⟨_, rfl, _, _, _, [], _, [], hW', trodAll_mk1 (shut_bool Try.underlying4 _), (trodAll_cons_mk (Below.trod laidOut (by kernel_rfl) (of_decide_eq_true (by kernel_rfl)) k0 bel lt0) (trodAll_cons_mk (Below.trod laidOut (by kernel_rfl) (of_decide_eq_true (by kernel_rfl)) k1 bel lt1) trodAll_mk0)), rfl, bel.frame _, fun h => by cases h⟩
theorem over : Rows.placeCoversRow.holds Try.pinned (OpenSpec.ofChange Rows.placeCoversSpec) :=
  OpenClaim.holds_of_wide 9 Try.f9 rfl rfl rfl rfl rfl rfl rfl ⟨rfl, rfl, rfl, rfl, rfl⟩ rfl rfl rfl rfl rfl (by kernel_rfl) Try.func9 (by kernel_rfl)
    (of_decide_eq_true (by kernel_rfl)) (by unfold Func.isWrapper; first | (rw [if_pos (by decide +kernel)]; kernel_rfl) | (rw [if_neg (by decide +kernel)]; exact ⟨rfl, rfl⟩))
    (fun os started H enc _ => lifted os started H enc)
end Go.Proofs.Ytgedckgkddpkkaa.placeCoversRow
namespace Go.Proofs.Ytgedckgkddpkkaa
theorem placeCovers_holds : Rows.PlaceCoversSaid := placeCoversRow.over
#print axioms placeCovers_holds
end Go.Proofs.Ytgedckgkddpkkaa
