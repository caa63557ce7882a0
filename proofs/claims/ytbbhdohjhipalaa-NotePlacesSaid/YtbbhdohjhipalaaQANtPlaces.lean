/- A law's own walk: NtPlaces. -/
import Derived.Test.YtbbhdohjhipalaaQA6
section
namespace Go.Proofs.Ytbbhdohjhipalaa.Ce
open Go.RowKit Go.Proofs.YtbbhdohjhipalaaW.PrintWords Go.Proofs.YtbbhdohjhipalaaW.PrintLast Go.Proofs.YtbbhdohjhipalaaW.PrintMore
open Go.Proofs.Ytbbhdohjhipalaa.Flow
open Go.Proofs.Ytbbhdohjhipalaa.PNoteReads
set_option linter.unusedVariables false
set_option linter.unusedSimpArgs false
theorem eqA58 (d : Nat) (w : World) (x0 y0 : Int) (x1 y1 : Int) (x2 y2 : Int) :
    (Op.equalIn (d + 2) 58 (.agg #[.int .i64 x0, .int .i64 x1, .int .i64 x2]) (.agg #[.int .i64 y0, .int .i64 y1, .int .i64 y2])).run Try.prog w = .ok (x0 == y0 && (x1 == y1 && (x2 == y2))) w := by
  refine eqA_of Try.underlying58 (by kernel_rfl) ?_
  refine eqf_cons (by rfl) (by go_simp; rfl) (by go_simp; rfl) (by go_simp) ?_
  refine eqf_cons (by rfl) (by go_simp; rfl) (by go_simp; rfl) (by go_simp) ?_
  exact eqf_last (by rfl) (by go_simp; rfl) (by go_simp; rfl) (by go_simp)
theorem cells_of {w : World} {A : Option Addr} {n : Nat} {xs : List Int} (h : (Kd.int .i64).C w A n xs) (hp : 0 < n) : ∃ ad, A = some ad ∧ ∀ j v, (xs.map (Value.int .i64))[j]? = some v → w.cell? (ad.add j) = some v := by
  obtain ⟨ad, rfl, hc⟩ := h.2.2 hp
  refine ⟨ad, rfl, fun j v hj => ?_⟩
  rw [List.getElem?_map] at hj
  cases hx : xs[j]? with
  | none => rw [hx] at hj; cases hj
  | some x =>
    rw [hx] at hj
    obtain ⟨c, _, hr, h2⟩ := hc j x hx
    have e1 : c = [Value.int .i64 x] := hr
    subst e1
    have h3 := h2 0 _ rfl
    have e2 : j * (Kd.int .i64).sz + 0 = j := by show j * 1 + 0 = j; omega
    rw [e2] at h3
    rw [h3]
    simpa using hj
theorem copy3_run {w : World} {g t ty : Nat} (hb : Blk w g t #[.int .i64 0, .int .i64 0, .int .i64 0]) {A : Option Addr} {l : List Int} {c : Nat} (hC : (Kd.int .i64).C w A l.length l) :
    ∃ v, (Builtin.copy_ #[22, 22] ty #[.slice (some ⟨g, 0, none⟩) 3 3, .slice A l.length c]).run Try.prog w = .ok v (w.setRow g #[.int .i64 (l.getD 0 0), .int .i64 (l.getD 1 0), .int .i64 (l.getD 2 0)]) := by
  rcases Nat.eq_zero_or_pos l.length with h0 | h0
  · have e := List.length_eq_zero_iff.1 h0
    subst e
    have h1 := run_copy_none (P := Try.prog) w 22 22 ty 3 (some ⟨g, 0, none⟩) A 3 3 0 c (by kernel_rfl) (by kernel_rfl) (by decide)
    have h2 : w.setRow g #[.int .i64 (([] : List Int).getD 0 0), .int .i64 (([] : List Int).getD 1 0), .int .i64 (([] : List Int).getD 2 0)] = w := setRow_self w g #[.int .i64 0, .int .i64 0, .int .i64 0] t (0, 0) hb
    rw [h2]
    exact ⟨_, h1⟩
  · obtain ⟨ad, rfl, hc⟩ := cells_of hC h0
    have hl : ((l.take 3).map (Value.int .i64)).length = Nat.min l.length 3 := by
      rw [List.length_map, List.length_take]
      exact Nat.min_comm 3 l.length
    have h1 := run_copy_row (P := Try.prog) w 22 22 ty 3 g 0 3 3 ad l.length c #[.int .i64 0, .int .i64 0, .int .i64 0] t ((l.take 3).map (Value.int .i64)) (by kernel_rfl) (by kernel_rfl) hb hl (fun j v hj => hc j v (by
      rw [List.getElem?_map] at hj ⊢
      rw [List.getElem?_take] at hj
      split at hj
      · exact hj
      · cases hj)) (by rw [hl]; show 0 + min l.length 3 ≤ 3; omega) (by
      intro v hv
      obtain ⟨x, _, rfl⟩ := List.mem_map.1 hv
      rfl)
    have e : (((#[.int .i64 0, .int .i64 0, .int .i64 0] : Array Value).toList.take 0 ++ (l.take 3).map (Value.int .i64) ++ (#[.int .i64 0, .int .i64 0, .int .i64 0] : Array Value).toList.drop (0 + ((l.take 3).map (Value.int .i64)).length)).toArray : Array Value) = #[.int .i64 (l.getD 0 0), .int .i64 (l.getD 1 0), .int .i64 (l.getD 2 0)] := by
      clear h1 hl hC hc
      match l, h0 with
      | [a], _ => rfl
      | [a, b], _ => rfl
      | a :: b :: d :: r, _ => rfl
    rw [e] at h1
    exact ⟨_, h1⟩
section
variable {cx : Cx} {n : Nat} {Q : Exit → Act → World → Prop} {G : Env} {w : World} {ops : Array Oper} {o : Oper} {rest : List Oper}
theorem rw_copy3 {g t dd : Nat} {d s : Operand} {A : Option Addr} {l : List Int} {c : Nat} (hg : o.guard = none) (hd : o.dst = some dd) (hdn : Nat.blt dd n = true) (hk : known G o = true) (ho : o.op = .call { callee := .builtin .copy, args := #[d, s], argTypes := #[22, 22] }) (he : sEv G d = .slice (some ⟨g, 0, none⟩) 3 3) (hx : sEv G s = .slice A l.length c)
    (hb : Blk w g t #[.int .i64 0, .int .i64 0, .int .i64 0]) (hC : (Kd.int .i64).C w A l.length l) (k : ∀ v w', Keep g w w' → Blk w' g t #[.int .i64 (l.getD 0 0), .int .i64 (l.getD 1 0), .int .i64 (l.getD 2 0)] → RW Try.prog ops cx n Q rest ((dd, v) :: G) w') : RW Try.prog ops cx n Q (o :: rest) G w := by
  obtain ⟨v, h1⟩ := copy3_run (ty := o.type) (c := c) hb hC
  refine rw_val (v := v) hg hd hdn hk ?_ (k v _ (setRow_keep w g _) (Blk.setRow hb _))
  unfold execOp
  simp only [ho]
  simp [go_sem, he, hx, h1]
end
set_option maxHeartbeats 4000000 in
theorem ballot_calls (w : World) (A1 : Option Addr) (c1 : Nat) (l : List Int) (hl : (Kd.int .i64).C w A1 l.length l) (hc : l.length ≤ c1) :
    Calls Try.prog 26 #[.slice A1 l.length c1] w fun e w' => e = .returned (.agg #[.int .i64 (l.getD 0 0), .int .i64 (l.getD 1 0), .int .i64 (l.getD 2 0)]) ∧ Below w.heap.size w w' := by
  refine calls_flow Try.func26 rfl 14 rfl (Nat.le_of_ble_eq_true rfl) [(0, .slice A1 l.length c1)] ?_ ?_
  · intro t v h; exact args_look rfl t v h
  refine w_seq ?_
  refine w_region ?_
  refine rw_new (cs := #[.int .i64 0, .int .i64 0, .int .i64 0]) (t := 58) (fun g => .pointer (some ⟨g, 0, none⟩)) rfl rfl rfl rfl (by kernel_rfl) ?_
  intro g1 w2 hg6 hz5 hb3 hk4
  have hs_w2 := hb3.size
  refine rw_end ?_
  refine w_seq ?_
  refine w_region ?_
  refine rw_new (cs := #[.int .i64 0, .int .i64 0, .int .i64 0]) (t := 99) (fun g => .pointer (some ⟨g, 0, none⟩)) rfl rfl rfl rfl (by kernel_rfl) ?_
  intro g7 w8 hg12 hz11 hb9 hk10
  have hs_w8 := hb9.size
  refine rw_end ?_
  refine w_seq ?_
  refine w_region ?_
  refine rw_val (v := .slice (some ⟨g7, 0, none⟩) 3 3) (w' := w8) rfl rfl rfl rfl (by first | kernel_rfl | simp [go_sem, sEv, sLook, nbeq, i64_w, -List.getD_eq_getElem?_getD, Try.underlying99]) ?_
  refine rw_val (v := .slice A1 l.length c1) (w' := w8) rfl rfl rfl rfl rfl ?_
  refine rw_copy3 (l := l) rfl rfl rfl rfl rfl rfl rfl hk10 (Kd.C_below hl (chain hb3 hb9)) ?_
  intro v13 w14 hk15 hb16
  have hs_w14 := hk15.size
  refine rw_end ?_
  refine w_seq ?_
  refine w_region ?_
  refine rw_val (v := .pointer (some ⟨g7, 0, none⟩)) (w' := w14) rfl rfl rfl rfl (by first | kernel_rfl | simp [go_sem, sEv, sLook, nbeq, i64_w, -List.getD_eq_getElem?_getD, Try.underlying99]) ?_
  refine rw_val (v := .int .i64 (l.getD 0 0)) (w' := w14) rfl rfl rfl rfl (by have eb_ := hb16; have e0_ := eb_.cellv (i := 0) (v := (.int .i64 (l.getD 0 0) : Value)) rfl; simp [go_sem, sEv, sLook, nbeq, i64_w, -List.getD_eq_getElem?_getD, e0_]) ?_
  refine rw_val (v := .pointer (some ⟨g7, 1, none⟩)) (w' := w14) rfl rfl rfl rfl (by first | kernel_rfl | simp [go_sem, sEv, sLook, nbeq, i64_w, -List.getD_eq_getElem?_getD, Try.underlying99]) ?_
  refine rw_val (v := .int .i64 (l.getD 1 0)) (w' := w14) rfl rfl rfl rfl (by have eb_ := hb16; have e0_ := eb_.cellv (i := 1) (v := (.int .i64 (l.getD 1 0) : Value)) rfl; simp [go_sem, sEv, sLook, nbeq, i64_w, -List.getD_eq_getElem?_getD, e0_]) ?_
  refine rw_val (v := .pointer (some ⟨g7, 2, none⟩)) (w' := w14) rfl rfl rfl rfl (by first | kernel_rfl | simp [go_sem, sEv, sLook, nbeq, i64_w, -List.getD_eq_getElem?_getD, Try.underlying99]) ?_
  refine rw_val (v := .int .i64 (l.getD 2 0)) (w' := w14) rfl rfl rfl rfl (by have eb_ := hb16; have e0_ := eb_.cellv (i := 2) (v := (.int .i64 (l.getD 2 0) : Value)) rfl; simp [go_sem, sEv, sLook, nbeq, i64_w, -List.getD_eq_getElem?_getD, e0_]) ?_
  refine rw_val (v := .agg #[.int .i64 (l.getD 0 0), .int .i64 (l.getD 1 0), .int .i64 (l.getD 2 0)]) (w' := w14) rfl rfl rfl rfl (by kernel_rfl) ?_
  have hb20 := ((hk4.on hb9).keep hk15 (by omega))
  refine rw_store (g := g1) (i := 0) (l := [.int .i64 (l.getD 0 0), .int .i64 (l.getD 1 0), .int .i64 (l.getD 2 0)]) (cs' := #[.int .i64 (l.getD 0 0), .int .i64 (l.getD 1 0), .int .i64 (l.getD 2 0)]) rfl rfl rfl hb20 rfl (by have e0_ := hb20.cellv (i := 0) (v := (.int .i64 0 : Value)) rfl; have f0_ := hb20.frozen 0; have e1_ := hb20.cellv (i := 1) (v := (.int .i64 0 : Value)) rfl; have f1_ := hb20.frozen 1; have e2_ := hb20.cellv (i := 2) (v := (.int .i64 0 : Value)) rfl; have f2_ := hb20.frozen 2; simp [go_sem, sEv, sLook, nbeq, i64_w, -List.getD_eq_getElem?_getD, putCells, e0_, f0_, e1_, f1_, e2_, f2_, Try.underlying58]) ?_
  intro w17 hk18 hk19
  have hs_w17 := hk18.size
  refine rw_end ?_
  refine w_weaken (G' := [(2, .pointer (some ⟨g1, 0, none⟩))]) ⟨rfl, trivial⟩ ?_
  refine w_ret (post_retc (v := .agg #[.int .i64 (l.getD 0 0), .int .i64 (l.getD 1 0), .int .i64 (l.getD 2 0)]) rfl rfl (by have eb_ := hk19; have e0_ := eb_.cellv (i := 0) (v := (.int .i64 (l.getD 0 0) : Value)) rfl; have e1_ := eb_.cellv (i := 1) (v := (.int .i64 (l.getD 1 0) : Value)) rfl; have e2_ := eb_.cellv (i := 2) (v := (.int .i64 (l.getD 2 0) : Value)) rfl; simp [go_sem, e0_, e1_, e2_, Try.underlying58]) ?_)
  exact ⟨rfl, (hk18.below (by omega) (hk15.below (by omega) (chain hb3 hb9)))⟩
theorem spread_at (l : List (Int × Int)) (j : Nat) (h : j < l.length) : (spreadL l).getD (2 * j) 0 = (l.getD j (0, 0)).1 ∧ (spreadL l).getD (2 * j + 1) 0 = (l.getD j (0, 0)).2 := by
  induction l generalizing j with
  | nil => simp at h
  | cons p l ih =>
    cases j with
    | zero => exact ⟨rfl, rfl⟩
    | succ j =>
      have h2 := ih j (by simpa using h)
      have e : spreadL (p :: l) = p.1 :: p.2 :: spreadL l := rfl
      rw [e, show 2 * (j + 1) = 2 * j + 1 + 1 by omega, List.getD_cons_succ, List.getD_cons_succ, List.getD_cons_succ, List.getD_cons_succ, List.getD_cons_succ]
      exact h2
theorem places_get (l : List Int) : ∀ k j, j < k → (placesN l k).getD j (0, 0) = (l.getD (2 * j) 0, l.getD (2 * j + 1) 0)
  | 0, j, h => absurd h (by omega)
  | k + 1, j, h => by
    have hk := places_len l k
    rw [placesN, List.getD_eq_getElem?_getD]
    by_cases hj : j < k
    · rw [List.getElem?_append_left (by omega), ← List.getD_eq_getElem?_getD]
      exact places_get l k j hj
    · have : j = k := by omega
      subst this
      rw [List.getElem?_append_right (by omega), hk]
      simp
theorem places_spread (l : List (Int × Int)) : placesN (spreadL l) ((spreadL l).length / 2) = l := by
  have hs := spread_len l
  have e : (spreadL l).length / 2 = l.length := by omega
  rw [e]
  apply List.ext_getElem?
  intro j
  have hk := places_len (spreadL l) l.length
  by_cases hj : j < l.length
  · have h1 := places_get (spreadL l) l.length j hj
    obtain ⟨h2, h3⟩ := spread_at l j hj
    rw [h2, h3, List.getD_eq_getElem?_getD, List.getD_eq_getElem?_getD, List.getElem?_eq_getElem (by omega), List.getElem?_eq_getElem hj] at h1
    rw [List.getElem?_eq_getElem (by omega), List.getElem?_eq_getElem hj]
    simpa using h1
  · rw [List.getElem?_eq_none (by omega), List.getElem?_eq_none (by omega)]
theorem spread_places (l : List Int) : spreadL (placesN l (l.length / 2)) = l.take (l.length / 2 * 2) := by
  have gen : ∀ k, 2 * k ≤ l.length → spreadL (placesN l k) = l.take (2 * k) := by
    intro k
    induction k with
    | zero => intro _; simp [placesN, spreadL]
    | succ k ih =>
      intro h
      have h1 := ih (by omega)
      rw [placesN]
      unfold spreadL at h1 ⊢
      rw [List.map_append, List.flatten_append, h1, show 2 * (k + 1) = 2 * k + 1 + 1 by omega, List.take_succ_eq_append_getElem (by omega), List.take_succ_eq_append_getElem (by omega)]
      simp only [List.map_cons, List.map_nil, List.flatten_cons, List.flatten_nil, List.append_nil, List.getD_eq_getElem?_getD, List.getElem?_eq_getElem (show 2 * k < l.length by omega), List.getElem?_eq_getElem (show 2 * k + 1 < l.length by omega), Option.getD_some, List.append_assoc, List.cons_append, List.nil_append]
  rw [gen (l.length / 2) (by omega), Nat.mul_comm]
theorem places_back (w : World) (A1 : Option Addr) (c1 : Nat) (l : List (Int × Int)) (hl : (Kd.int .i64).C w A1 (spreadL l).length (spreadL l)) (hc : (spreadL l).length ≤ c1) (hln : l.length ≤ 3000) : Calls Try.prog 24 #[.slice A1 (spreadL l).length c1] w fun e w' => ∃ A' c', e = .returned (.slice A' l.length c') ∧ OwnK kPlace 55 w' w.heap.size w.heap.size A' l.length c' l ∧ Below w.heap.size w w' := by
  have hs := spread_len l
  have h := places_calls w A1 c1 (spreadL l) hl hc (by omega)
  rw [places_spread] at h
  exact h
theorem spread_back (w : World) (A1 : Option Addr) (c1 : Nat) (l : List Int) (hl : kPlace.C w A1 (placesN l (l.length / 2)).length (placesN l (l.length / 2))) (hc : (placesN l (l.length / 2)).length ≤ c1) (hln : l.length ≤ 3000) : Calls Try.prog 23 #[.slice A1 (placesN l (l.length / 2)).length c1] w fun e w' => ∃ A' c', e = .returned (.slice A' (l.take (l.length / 2 * 2)).length c') ∧ OwnK (Kd.int .i64) 3 w' w.heap.size w.heap.size A' (l.take (l.length / 2 * 2)).length c' (l.take (l.length / 2 * 2)) ∧ Below w.heap.size w w' := by
  have hs := places_len l (l.length / 2)
  have h := spread_calls w A1 c1 (placesN l (l.length / 2)) hl hc (by omega)
  rw [spread_places] at h
  exact h
theorem three_at (l : List Int) (j : Nat) (h : j < 3) : (l ++ [0, 0, 0]).getD j 0 = l.getD j 0 := by
  rw [List.getD_eq_getElem?_getD, List.getD_eq_getElem?_getD]
  by_cases hj : j < l.length
  · rw [List.getElem?_append_left hj]
  · rw [List.getElem?_append_right (by omega), List.getElem?_eq_none (l := l) (by omega)]
    have : j - l.length < 3 := by omega
    generalize j - l.length = q at this ⊢
    match q, this with
    | 0, _ => rfl
    | 1, _ => rfl
    | 2, _ => rfl
set_option maxHeartbeats 4000000 in
theorem placesL_calls (w : World) (A1 : Option Addr) (c1 : Nat) (l : List (Int × Int)) (h1 : kPlace.C w A1 l.length l) (hc1 : l.length ≤ c1) (hl1 : l.length ≤ 140737488355328) (A2 : Option Addr) (c2 : Nat) (m : List Int) (h2 : (Kd.int .i64).C w A2 m.length m) (hc2 : m.length ≤ c2) (hl2 : m.length ≤ 140737488355328) :
    Calls Try.prog 8 #[.slice A1 l.length c1, .slice A2 m.length c2] w fun e w' => e = .returned (.bool true) ∧ Below w.heap.size w w' := by
  refine calls_flow Try.func8 rfl 109 rfl (Nat.le_of_ble_eq_true rfl) [(0, .slice A1 l.length c1), (1, .slice A2 m.length c2)] ?_ ?_
  · intro t v h; exact args_look rfl t v h
  refine w_seq ?_
  refine w_region ?_
  refine rw_val (v := .bool false) (w' := w) rfl rfl rfl rfl rfl ?_
  refine rw_end ?_
  refine w_seq ?_
  refine w_seq ?_
  refine w_region ?_
  refine rw_call rfl rfl rfl rfl (f := 9) (args := #[]) (by simp [go_sem, sEv, sLook, nbeq, i64_w, -List.getD_eq_getElem?_getD]) (alive_calls w) ?_
  rintro e_ w1 ⟨rfl, hb2⟩
  refine ⟨_, rfl, ?_⟩
  have hs_w1 := hb2.size
  refine rw_val (v := .bool false) (w' := w1) rfl rfl rfl rfl (by simp [go_sem, sEv, sLook, nbeq, i64_w, -List.getD_eq_getElem?_getD]) ?_
  refine rw_end ?_
  refine w_cond_f rfl rfl rfl ?_
  refine w_skip ?_
  refine w_seq ?_
  refine w_seq ?_
  refine w_region ?_
  refine rw_val (v := .slice A1 l.length c1) (w' := w1) rfl rfl rfl rfl rfl ?_
  refine rw_val (v := .int .i64 ((l.length : Nat) : Int)) (w' := w1) rfl rfl rfl rfl (by simp [go_sem, sEv, sLook, nbeq, i64_w, -List.getD_eq_getElem?_getD]) ?_
  refine rw_val (v := .bool (decide (3000 < ((l.length : Nat) : Int)))) (w' := w1) rfl rfl rfl rfl (by simp [go_sem, sEv, sLook, nbeq, i64_w, -List.getD_eq_getElem?_getD]) ?_
  refine rw_val (v := .bool (decide (3000 < ((l.length : Nat) : Int)))) (w' := w1) rfl rfl rfl rfl rfl ?_
  rcases bcase (decide (3000 < ((l.length : Nat) : Int))) with cA | cA
  · have l3 : ¬ (3000 < ((l.length : Nat) : Int)) := of_decide_eq_false cA
    refine rw_on (c := decide (3000 < ((l.length : Nat) : Int))) rfl rfl rfl (by first | (rw [cA]; rfl) | simp [cA]) ?_
    refine rw_val (v := .slice A2 m.length c2) (w' := w1) rfl rfl rfl rfl rfl ?_
    refine rw_on (c := decide (3000 < ((l.length : Nat) : Int))) rfl rfl rfl (by first | (rw [cA]; rfl) | simp [cA]) ?_
    refine rw_val (v := .int .i64 ((m.length : Nat) : Int)) (w' := w1) rfl rfl rfl rfl (by simp [go_sem, sEv, sLook, nbeq, i64_w, -List.getD_eq_getElem?_getD]) ?_
    refine rw_on (c := decide (3000 < ((l.length : Nat) : Int))) rfl rfl rfl (by first | (rw [cA]; rfl) | simp [cA]) ?_
    refine rw_val (v := .bool (decide (3000 < ((m.length : Nat) : Int)))) (w' := w1) rfl rfl rfl rfl (by simp [go_sem, sEv, sLook, nbeq, i64_w, -List.getD_eq_getElem?_getD]) ?_
    refine rw_val (v := .bool (decide (3000 < ((m.length : Nat) : Int)))) (w' := w1) rfl rfl rfl rfl (by first | (simp [go_sem, sEv, sLook, nbeq, i64_w, -List.getD_eq_getElem?_getD, cA]; done) | (rw [cA]; simp [go_sem, sEv, sLook, nbeq, i64_w, -List.getD_eq_getElem?_getD]; done) | (simp [go_sem, sEv, sLook, nbeq, i64_w, -List.getD_eq_getElem?_getD] <;> omega) | (simp [go_sem, sEv, sLook, nbeq, i64_w, -List.getD_eq_getElem?_getD]; intro h_; exact absurd (by omega) h_)) ?_
    refine rw_end ?_
    refine w_weaken (G' := [(0, .slice A1 l.length c1), (1, .slice A2 m.length c2), (4, .bool false), (19, .bool (decide (3000 < ((m.length : Nat) : Int))))]) ⟨rfl, rfl, rfl, rfl, trivial⟩ ?_
    refine w_cond rfl rfl (fun cB => ?_) (fun cB => ?_)
    · have l4 : (3000 < ((m.length : Nat) : Int)) := of_decide_eq_true cB
      refine w_seq ?_
      refine w_region ?_
      refine rw_val (v := .bool true) (w' := w1) rfl rfl rfl rfl rfl ?_
      refine rw_end ?_
      refine w_ret (post_ret1 rfl rfl ?_)
      exact ⟨by first | rfl | (simp only [three_at _ _ (show 0 < 3 by decide), three_at _ _ (show 1 < 3 by decide), three_at _ _ (show 2 < 3 by decide)]; simp; done) | (simp_all; done), hb2⟩
    · have l5 : ¬ (3000 < ((m.length : Nat) : Int)) := of_decide_eq_false cB
      refine w_skip ?_
      refine w_seq ?_
      refine w_region ?_
      refine rw_val (v := .slice A1 l.length c1) (w' := w1) rfl rfl rfl rfl rfl ?_
      refine rw_call rfl rfl rfl rfl (f := 23) (args := #[.slice A1 l.length c1]) (by simp [go_sem, sEv, sLook, nbeq, i64_w, -List.getD_eq_getElem?_getD]) (spread_calls w1 A1 c1 l (Kd.C_below h1 hb2) hc1 (by omega)) ?_
      rintro e_ w8 ⟨A6, c7, rfl, hO9, hB10⟩
      refine ⟨_, rfl, ?_⟩
      have hs_w8 := hB10.size
      have hL11 : OwnK (Kd.int .i64) 3 w8 w.heap.size w1.heap.size A6 (spreadL l).length c7 (spreadL l) := OwnK.lower hO9 (by omega)
      refine rw_val (v := .slice A6 ((spreadL l).length) c7) (w' := w8) rfl rfl rfl rfl rfl ?_
      refine rw_end ?_
      refine w_seq ?_
      refine w_region ?_
      refine rw_val (v := .slice A6 ((spreadL l).length) c7) (w' := w8) rfl rfl rfl rfl rfl ?_
      refine rw_call rfl rfl rfl rfl (f := 24) (args := #[.slice A6 ((spreadL l).length) c7]) (by simp [go_sem, sEv, sLook, nbeq, i64_w, -List.getD_eq_getElem?_getD]) (places_back w8 A6 c7 l (OwnK.C (d := (Kd.int .i64)) hL11) (OwnK.cap (d := (Kd.int .i64)) hL11) (by omega)) ?_
      rintro e_ w14 ⟨A12, c13, rfl, hO15, hB16⟩
      refine ⟨_, rfl, ?_⟩
      have hs_w14 := hB16.size
      have hL17 : OwnK kPlace 55 w14 w.heap.size w8.heap.size A12 l.length c13 l := OwnK.lower hO15 (by omega)
      refine rw_val (v := .slice A12 l.length c13) (w' := w14) rfl rfl rfl rfl rfl ?_
      refine rw_end ?_
      refine w_seq ?_
      refine w_seq ?_
      refine w_region ?_
      refine rw_val (v := .slice A6 ((spreadL l).length) c7) (w' := w14) rfl rfl rfl rfl rfl ?_
      refine rw_val (v := .int .i64 (((spreadL l).length : Nat) : Int)) (w' := w14) rfl rfl rfl rfl (by simp [go_sem, sEv, sLook, nbeq, i64_w, -List.getD_eq_getElem?_getD]) ?_
      refine rw_val (v := .slice A1 l.length c1) (w' := w14) rfl rfl rfl rfl rfl ?_
      refine rw_val (v := .int .i64 ((l.length : Nat) : Int)) (w' := w14) rfl rfl rfl rfl (by simp [go_sem, sEv, sLook, nbeq, i64_w, -List.getD_eq_getElem?_getD]) ?_
      refine rw_val (v := .int .i64 ((2 * l.length : Nat) : Int)) (w' := w14) rfl rfl rfl rfl (by simp [go_sem, sEv, sLook, nbeq, i64_w, -List.getD_eq_getElem?_getD]; exact wrap_id (by omega) (by omega)) ?_
      refine rw_val (v := .bool ((((spreadL l).length : Nat) : Int) != ((2 * l.length : Nat) : Int))) (w' := w14) rfl rfl rfl rfl (by simp [go_sem, sEv, sLook, nbeq, i64_w, -List.getD_eq_getElem?_getD]) ?_
      refine rw_val (v := .bool ((((spreadL l).length : Nat) : Int) != ((2 * l.length : Nat) : Int))) (w' := w14) rfl rfl rfl rfl rfl ?_
      rcases bcase ((((spreadL l).length : Nat) : Int) != ((2 * l.length : Nat) : Int)) with c18 | c18
      · have l19 : (((spreadL l).length : Nat) : Int) = ((2 * l.length : Nat) : Int) := by simpa using c18
        refine rw_on (c := ((((spreadL l).length : Nat) : Int) != ((2 * l.length : Nat) : Int))) rfl rfl rfl (by first | (rw [c18]; rfl) | simp [c18]) ?_
        refine rw_val (v := .slice A12 l.length c13) (w' := w14) rfl rfl rfl rfl rfl ?_
        refine rw_on (c := ((((spreadL l).length : Nat) : Int) != ((2 * l.length : Nat) : Int))) rfl rfl rfl (by first | (rw [c18]; rfl) | simp [c18]) ?_
        refine rw_val (v := .int .i64 ((l.length : Nat) : Int)) (w' := w14) rfl rfl rfl rfl (by simp [go_sem, sEv, sLook, nbeq, i64_w, -List.getD_eq_getElem?_getD]) ?_
        refine rw_on (c := ((((spreadL l).length : Nat) : Int) != ((2 * l.length : Nat) : Int))) rfl rfl rfl (by first | (rw [c18]; rfl) | simp [c18]) ?_
        refine rw_val (v := .slice A1 l.length c1) (w' := w14) rfl rfl rfl rfl rfl ?_
        refine rw_on (c := ((((spreadL l).length : Nat) : Int) != ((2 * l.length : Nat) : Int))) rfl rfl rfl (by first | (rw [c18]; rfl) | simp [c18]) ?_
        refine rw_val (v := .int .i64 ((l.length : Nat) : Int)) (w' := w14) rfl rfl rfl rfl (by simp [go_sem, sEv, sLook, nbeq, i64_w, -List.getD_eq_getElem?_getD]) ?_
        refine rw_on (c := ((((spreadL l).length : Nat) : Int) != ((2 * l.length : Nat) : Int))) rfl rfl rfl (by first | (rw [c18]; rfl) | simp [c18]) ?_
        refine rw_val (v := .bool false) (w' := w14) rfl rfl rfl rfl (by simp [go_sem, sEv, sLook, nbeq, i64_w, -List.getD_eq_getElem?_getD]) ?_
        refine rw_val (v := .bool false) (w' := w14) rfl rfl rfl rfl (by first | (simp [go_sem, sEv, sLook, nbeq, i64_w, -List.getD_eq_getElem?_getD, c18]; done) | (rw [c18]; simp [go_sem, sEv, sLook, nbeq, i64_w, -List.getD_eq_getElem?_getD]; done) | (simp [go_sem, sEv, sLook, nbeq, i64_w, -List.getD_eq_getElem?_getD] <;> omega) | (simp [go_sem, sEv, sLook, nbeq, i64_w, -List.getD_eq_getElem?_getD]; intro h_; exact absurd (by omega) h_)) ?_
        refine rw_end ?_
        refine w_weaken (G' := [(0, .slice A1 l.length c1), (1, .slice A2 m.length c2), (4, .bool false), (5, .slice A6 ((spreadL l).length) c7), (6, .slice A12 l.length c13), (36, .bool false)]) ⟨rfl, rfl, rfl, rfl, rfl, rfl, trivial⟩ ?_
        refine w_cond_f rfl rfl rfl ?_
        refine w_skip ?_
        refine w_seq ?_
        refine w_seq ?_
        refine w_region ?_
        refine rw_val (v := .slice A12 l.length c13) (w' := w14) rfl rfl rfl rfl rfl ?_
        refine rw_val (v := .int .i64 ((l.length : Nat) : Int)) (w' := w14) rfl rfl rfl rfl (by simp [go_sem, sEv, sLook, nbeq, i64_w, -List.getD_eq_getElem?_getD]) ?_
        refine rw_val (v := .int .i64 0) (w' := w14) rfl rfl rfl rfl rfl ?_
        refine rw_end ?_
        refine w_block ?_
        refine w_loop (fun m_ G W_ => ∃ (j : Nat), j + m_ = l.length ∧ Below w14.heap.size w14 W_ ∧ G = [(0, .slice A1 l.length c1), (1, .slice A2 m.length c2), (5, .slice A6 ((spreadL l).length) c7), (6, .slice A12 l.length c13), (38, .int .i64 ((l.length : Nat) : Int)), (39, .int .i64 ((j : Nat) : Int))]) l.length [(0, .slice A1 l.length c1), (1, .slice A2 m.length c2), (5, .slice A6 ((spreadL l).length) c7), (6, .slice A12 l.length c13), (38, .int .i64 ((l.length : Nat) : Int)), (39, .int .i64 0)] ⟨0, by omega, (Below.refl _ _), rfl⟩ ⟨rfl, rfl, rfl, rfl, rfl, rfl, trivial⟩ ?_
        rintro m_ G w_L20 ⟨j, hp21, hB_L20, rfl⟩
        have hs_w_L20 := hB_L20.size
        refine w_seq ?_
        refine w_region ?_
        refine rw_val (v := .bool (decide (((j : Nat) : Int) < ((l.length : Nat) : Int)))) (w' := w_L20) rfl rfl rfl rfl (by simp [go_sem, sEv, sLook, nbeq, i64_w, -List.getD_eq_getElem?_getD]) ?_
        refine rw_end ?_
        refine w_seq ?_
        refine w_cond rfl rfl (fun cJ => ?_) (fun cJ => ?_)
        · have l22 : (((j : Nat) : Int) < ((l.length : Nat) : Int)) := of_decide_eq_true cJ
          refine w_skip ?_
          refine w_seq ?_
          refine w_block ?_
          refine w_seq ?_
          refine w_region ?_
          refine rw_val (v := .int .i64 ((j : Nat) : Int)) (w' := w_L20) rfl rfl rfl rfl rfl ?_
          refine rw_val (v := .int .i64 ((j : Nat) : Int)) (w' := w_L20) rfl rfl rfl rfl rfl ?_
          refine rw_end ?_
          refine w_seq ?_
          rcases bcase (((spreadL l).getD (2 * j) 0) != ((l.getD j (0, 0)).1)) with c23 | c23
          · have l24 : ((spreadL l).getD (2 * j) 0) = ((l.getD j (0, 0)).1) := by simpa using c23
            obtain ⟨g28, rfl⟩ := OwnK.adr (d := kPlace) hL17 (by first | omega | (simp only [List.length_append, List.length_cons, List.length_nil]; omega))
            obtain ⟨ad25, hA26, hc27⟩ := flat_at (OwnK.C (d := kPlace) (OwnK.on (d := kPlace) hL17 hB_L20)) (0, 0) j (by first | omega | (simp only [List.length_append, List.length_cons, List.length_nil]; omega))
            obtain rfl := Option.some.inj hA26
            have he29 : w_L20.cell? ⟨g28, j * 2, none⟩ = some (.int .i64 ((l.getD j (0, 0)).1)) := cell_g (hc27 0 _ rfl) rfl
            have he30 : w_L20.cell? ⟨g28, j * 2 + 1, none⟩ = some (.int .i64 ((l.getD j (0, 0)).2)) := cell_g (hc27 1 _ rfl) rfl
            obtain ⟨ad31, hA32, hc33⟩ := flat_at (Kd.C_below h1 (chain (chain (chain hb2 hB10) hB16) hB_L20)) (0, 0) j (by first | omega | (simp only [List.length_append, List.length_cons, List.length_nil]; omega))
            subst hA32
            have he34 : w_L20.cell? (ad31.add (j * 2)) = some (.int .i64 ((l.getD j (0, 0)).1)) := cell_0 (hc33 0 _ rfl)
            have he35 : w_L20.cell? ⟨(ad31.add (j * 2)).block, (ad31.add (j * 2)).off + 1, none⟩ = some (.int .i64 ((l.getD j (0, 0)).2)) := cell_j (hc33 1 _ rfl)
            obtain ⟨g39, rfl⟩ := OwnK.adr (d := (Kd.int .i64)) hL11 (by first | omega | (simp only [List.length_append, List.length_cons, List.length_nil]; omega))
            obtain ⟨ad36, hA37, hc38⟩ := int_at (OwnK.C (d := (Kd.int .i64)) (OwnK.on (d := (Kd.int .i64)) (OwnK.on (d := (Kd.int .i64)) hL11 hB16) hB_L20)) 0 (2 * j) (by first | omega | (simp only [List.length_append, List.length_cons, List.length_nil]; omega))
            obtain rfl := Option.some.inj hA37
            have he40 : w_L20.cell? ⟨g39, 2 * j, none⟩ = some (.int .i64 ((spreadL l).getD (2 * j) 0)) := cell_g (hc38 0 _ rfl) rfl
            obtain ⟨ad41, hA42, hc43⟩ := int_at (OwnK.C (d := (Kd.int .i64)) (OwnK.on (d := (Kd.int .i64)) (OwnK.on (d := (Kd.int .i64)) hL11 hB16) hB_L20)) 0 (2 * j + 1) (by first | omega | (simp only [List.length_append, List.length_cons, List.length_nil]; omega))
            obtain rfl := Option.some.inj hA42
            have he44 : w_L20.cell? ⟨g39, 2 * j + 1, none⟩ = some (.int .i64 ((spreadL l).getD (2 * j + 1) 0)) := cell_g (hc43 0 _ rfl) rfl
            refine w_drawk (M := [0, 0, 3, 7, 0, 0, 48, 112, 255, 511, 1023, 1023, 3071, 8191, 16383, 1023, 1023, 99327, 230399, 492543, 1048575, 2097151, 4194303, 8388607, 8388607, 25165823, 58720255, 134217727, 268435455, 8388607, 8388607, 1619001343, 3766484991, 8061452287, 17179869183, 34359738367]) (ss := [Is (.slice (some ⟨g28, 0, none⟩) l.length c13), Is (.int .i64 ((j : Nat) : Int)), Is (.pointer (some ⟨g28, j * 2, none⟩)), Is (.agg #[.int .i64 ((l.getD j (0, 0)).1), .int .i64 ((l.getD j (0, 0)).2)]), Is (.slice (some ad31) l.length c1), Is (.int .i64 ((j : Nat) : Int)), Is (.pointer (some (ad31.add (j * 2)))), Is (.agg #[.int .i64 ((l.getD j (0, 0)).1), .int .i64 ((l.getD j (0, 0)).2)]), Is (.bool false), Is (.bool false), Is (.slice (some ⟨g39, 0, none⟩) ((spreadL l).length) c7), Is (.int .i64 ((j : Nat) : Int)), Is (.int .i64 ((2 * j : Nat) : Int)), Is (.pointer (some ⟨g39, 2 * j, none⟩)), Is (.int .i64 ((spreadL l).getD (2 * j) 0)), Is (.slice (some ad31) l.length c1), Is (.int .i64 ((j : Nat) : Int)), Is (.pointer (some (ad31.add (j * 2)))), Is (.pointer (some (ad31.add (j * 2)))), Is (.int .i64 ((l.getD j (0, 0)).1)), Is (.bool (((spreadL l).getD (2 * j) 0) != ((l.getD j (0, 0)).1))), Is (.bool (((spreadL l).getD (2 * j) 0) != ((l.getD j (0, 0)).1))), Is (.bool (((spreadL l).getD (2 * j) 0) != ((l.getD j (0, 0)).1))), Is (.slice (some ⟨g39, 0, none⟩) ((spreadL l).length) c7), Is (.int .i64 ((j : Nat) : Int)), Is (.int .i64 ((2 * j : Nat) : Int)), Is (.int .i64 ((2 * j + 1 : Nat) : Int)), Is (.pointer (some ⟨g39, 2 * j + 1, none⟩)), Is (.int .i64 ((spreadL l).getD (2 * j + 1) 0)), Is (.slice (some ad31) l.length c1), Is (.int .i64 ((j : Nat) : Int)), Is (.pointer (some (ad31.add (j * 2)))), Is (.pointer (some ⟨(ad31.add (j * 2)).block, (ad31.add (j * 2)).off + 1, none⟩)), Is (.int .i64 ((l.getD j (0, 0)).2))]) 34 rfl (by decide +kernel) ?_
            refine t_is (.slice (some ⟨g28, 0, none⟩) l.length c13) rfl rfl rfl rfl (fun W_ hW_ F_ => rfl) ?_
            refine t_is (.int .i64 ((j : Nat) : Int)) rfl rfl rfl rfl (fun W_ hW_ F_ => rfl) ?_
            refine t_is (.pointer (some ⟨g28, j * 2, none⟩)) rfl rfl rfl rfl (fun W_ hW_ F_ => (by rw [← add_plain g28 (j * 2)]; exact (run_as (run_at_k (P := Try.prog) (e := 55) (sz := 2) (by kernel_rfl) (by kernel_rfl) j (by first | omega | (simp only [List.length_append, List.length_cons, List.length_nil]; omega)) _)))) ?_
            refine t_is (.agg #[.int .i64 ((l.getD j (0, 0)).1), .int .i64 ((l.getD j (0, 0)).2)]) rfl rfl rfl rfl (fun W_ hW_ F_ => by have e0_ := cellOn he29 (below_of_drew hW_); have e1_ := cellOn he30 (below_of_drew hW_); simp [go_sem, sEv, sLook, nbeq, i64_w, -List.getD_eq_getElem?_getD, e0_, e1_, Try.underlying55]) ?_
            refine t_is (.slice (some ad31) l.length c1) rfl rfl rfl rfl (fun W_ hW_ F_ => rfl) ?_
            refine t_is (.int .i64 ((j : Nat) : Int)) rfl rfl rfl rfl (fun W_ hW_ F_ => rfl) ?_
            refine t_is (.pointer (some (ad31.add (j * 2)))) rfl rfl rfl rfl (fun W_ hW_ F_ => (run_as (run_at_k (P := Try.prog) (e := 55) (sz := 2) (by kernel_rfl) (by kernel_rfl) j (by first | omega | (simp only [List.length_append, List.length_cons, List.length_nil]; omega)) _))) ?_
            refine t_is (.agg #[.int .i64 ((l.getD j (0, 0)).1), .int .i64 ((l.getD j (0, 0)).2)]) rfl rfl rfl rfl (fun W_ hW_ F_ => by have e0_ := cellOn he34 (below_of_drew hW_); have e1_ := cellOn he35 (below_of_drew hW_); simp [go_sem, sEv, sLook, nbeq, i64_w, -List.getD_eq_getElem?_getD, e0_, e1_, Try.underlying55]) ?_
            refine t_is (.bool false) rfl rfl rfl rfl (fun W_ hW_ F_ => by simp [go_sem, sEv, sLook, nbeq, i64_w, -List.getD_eq_getElem?_getD, eqA55]) ?_
            refine t_is (.bool false) rfl rfl rfl rfl (fun W_ hW_ F_ => rfl) ?_
            refine t_gis (c := false) (.slice (some ⟨g39, 0, none⟩) ((spreadL l).length) c7) rfl rfl rfl rfl rfl rfl rfl (fun W_ hW_ F_ => rfl) ?_
            refine t_gis (c := false) (.int .i64 ((j : Nat) : Int)) rfl rfl rfl rfl rfl rfl rfl (fun W_ hW_ F_ => rfl) ?_
            refine t_gis (c := false) (.int .i64 ((2 * j : Nat) : Int)) rfl rfl rfl rfl rfl rfl rfl (fun W_ hW_ F_ => by simp [go_sem, sEv, sLook, nbeq, i64_w, -List.getD_eq_getElem?_getD]; exact wrap_id (by omega) (by omega)) ?_
            refine t_gis (c := false) (.pointer (some ⟨g39, 2 * j, none⟩)) rfl rfl rfl rfl rfl rfl rfl (fun W_ hW_ F_ => (by rw [← add_plain g39 (2 * j)]; exact (run_as (run_at_1 (P := Try.prog) (e := 3) (by kernel_rfl) (by kernel_rfl) (2 * j) (by first | omega | (simp only [List.length_append, List.length_cons, List.length_nil]; omega)) _)))) ?_
            refine t_gis (c := false) (.int .i64 ((spreadL l).getD (2 * j) 0)) rfl rfl rfl rfl rfl rfl rfl (fun W_ hW_ F_ => by have e0_ := cellOn he40 (below_of_drew hW_); simp [go_sem, sEv, sLook, nbeq, i64_w, -List.getD_eq_getElem?_getD, e0_]) ?_
            refine t_gis (c := false) (.slice (some ad31) l.length c1) rfl rfl rfl rfl rfl rfl rfl (fun W_ hW_ F_ => rfl) ?_
            refine t_gis (c := false) (.int .i64 ((j : Nat) : Int)) rfl rfl rfl rfl rfl rfl rfl (fun W_ hW_ F_ => rfl) ?_
            refine t_gis (c := false) (.pointer (some (ad31.add (j * 2)))) rfl rfl rfl rfl rfl rfl rfl (fun W_ hW_ F_ => (run_as (run_at_k (P := Try.prog) (e := 55) (sz := 2) (by kernel_rfl) (by kernel_rfl) j (by first | omega | (simp only [List.length_append, List.length_cons, List.length_nil]; omega)) _))) ?_
            refine t_gis (c := false) (.pointer (some (ad31.add (j * 2)))) rfl rfl rfl rfl rfl rfl rfl (fun W_ hW_ F_ => by simp [go_sem, sEv, sLook, nbeq, i64_w, -List.getD_eq_getElem?_getD, Try.underlying55]) ?_
            refine t_gis (c := false) (.int .i64 ((l.getD j (0, 0)).1)) rfl rfl rfl rfl rfl rfl rfl (fun W_ hW_ F_ => by have e0_ := cellOn he34 (below_of_drew hW_); simp [go_sem, sEv, sLook, nbeq, i64_w, -List.getD_eq_getElem?_getD, e0_]) ?_
            refine t_gis (c := false) (.bool (((spreadL l).getD (2 * j) 0) != ((l.getD j (0, 0)).1))) rfl rfl rfl rfl rfl rfl rfl (fun W_ hW_ F_ => by simp [go_sem, sEv, sLook, nbeq, i64_w, -List.getD_eq_getElem?_getD]) ?_
            refine t_is (.bool (((spreadL l).getD (2 * j) 0) != ((l.getD j (0, 0)).1))) rfl rfl rfl rfl (fun W_ hW_ F_ => by simp [go_sem, sEv, sLook, nbeq, i64_w, -List.getD_eq_getElem?_getD]) ?_
            refine t_is (.bool (((spreadL l).getD (2 * j) 0) != ((l.getD j (0, 0)).1))) rfl rfl rfl rfl (fun W_ hW_ F_ => rfl) ?_
            refine t_gis (c := (((spreadL l).getD (2 * j) 0) != ((l.getD j (0, 0)).1))) (.slice (some ⟨g39, 0, none⟩) ((spreadL l).length) c7) rfl rfl rfl (by first | (rw [c23]; rfl) | simp [c23]) rfl rfl rfl (fun W_ hW_ F_ => rfl) ?_
            refine t_gis (c := (((spreadL l).getD (2 * j) 0) != ((l.getD j (0, 0)).1))) (.int .i64 ((j : Nat) : Int)) rfl rfl rfl (by first | (rw [c23]; rfl) | simp [c23]) rfl rfl rfl (fun W_ hW_ F_ => rfl) ?_
            refine t_gis (c := (((spreadL l).getD (2 * j) 0) != ((l.getD j (0, 0)).1))) (.int .i64 ((2 * j : Nat) : Int)) rfl rfl rfl (by first | (rw [c23]; rfl) | simp [c23]) rfl rfl rfl (fun W_ hW_ F_ => by simp [go_sem, sEv, sLook, nbeq, i64_w, -List.getD_eq_getElem?_getD]; exact wrap_id (by omega) (by omega)) ?_
            refine t_gis (c := (((spreadL l).getD (2 * j) 0) != ((l.getD j (0, 0)).1))) (.int .i64 ((2 * j + 1 : Nat) : Int)) rfl rfl rfl (by first | (rw [c23]; rfl) | simp [c23]) rfl rfl rfl (fun W_ hW_ F_ => by simp [go_sem, sEv, sLook, nbeq, i64_w, -List.getD_eq_getElem?_getD]; exact wrap_id (by omega) (by omega)) ?_
            refine t_gis (c := (((spreadL l).getD (2 * j) 0) != ((l.getD j (0, 0)).1))) (.pointer (some ⟨g39, 2 * j + 1, none⟩)) rfl rfl rfl (by first | (rw [c23]; rfl) | simp [c23]) rfl rfl rfl (fun W_ hW_ F_ => (by rw [← add_plain g39 (2 * j + 1)]; exact (run_as (run_at_1 (P := Try.prog) (e := 3) (by kernel_rfl) (by kernel_rfl) (2 * j + 1) (by first | omega | (simp only [List.length_append, List.length_cons, List.length_nil]; omega)) _)))) ?_
            refine t_gis (c := (((spreadL l).getD (2 * j) 0) != ((l.getD j (0, 0)).1))) (.int .i64 ((spreadL l).getD (2 * j + 1) 0)) rfl rfl rfl (by first | (rw [c23]; rfl) | simp [c23]) rfl rfl rfl (fun W_ hW_ F_ => by have e0_ := cellOn he44 (below_of_drew hW_); simp [go_sem, sEv, sLook, nbeq, i64_w, -List.getD_eq_getElem?_getD, e0_]) ?_
            refine t_gis (c := (((spreadL l).getD (2 * j) 0) != ((l.getD j (0, 0)).1))) (.slice (some ad31) l.length c1) rfl rfl rfl (by first | (rw [c23]; rfl) | simp [c23]) rfl rfl rfl (fun W_ hW_ F_ => rfl) ?_
            refine t_gis (c := (((spreadL l).getD (2 * j) 0) != ((l.getD j (0, 0)).1))) (.int .i64 ((j : Nat) : Int)) rfl rfl rfl (by first | (rw [c23]; rfl) | simp [c23]) rfl rfl rfl (fun W_ hW_ F_ => rfl) ?_
            refine t_gis (c := (((spreadL l).getD (2 * j) 0) != ((l.getD j (0, 0)).1))) (.pointer (some (ad31.add (j * 2)))) rfl rfl rfl (by first | (rw [c23]; rfl) | simp [c23]) rfl rfl rfl (fun W_ hW_ F_ => (run_as (run_at_k (P := Try.prog) (e := 55) (sz := 2) (by kernel_rfl) (by kernel_rfl) j (by first | omega | (simp only [List.length_append, List.length_cons, List.length_nil]; omega)) _))) ?_
            refine t_gis (c := (((spreadL l).getD (2 * j) 0) != ((l.getD j (0, 0)).1))) (.pointer (some ⟨(ad31.add (j * 2)).block, (ad31.add (j * 2)).off + 1, none⟩)) rfl rfl rfl (by first | (rw [c23]; rfl) | simp [c23]) rfl rfl rfl (fun W_ hW_ F_ => by simp [go_sem, sEv, sLook, nbeq, i64_w, -List.getD_eq_getElem?_getD, Try.underlying55]) ?_
            refine t_gis (c := (((spreadL l).getD (2 * j) 0) != ((l.getD j (0, 0)).1))) (.int .i64 ((l.getD j (0, 0)).2)) rfl rfl rfl (by first | (rw [c23]; rfl) | simp [c23]) rfl rfl rfl (fun W_ hW_ F_ => by have e0_ := cellOn he35 (below_of_drew hW_); simp [go_sem, sEv, sLook, nbeq, i64_w, -List.getD_eq_getElem?_getD, e0_]) ?_
            refine t_tail ?_
            intro w45 hb46_ F47
            have hb46 := below_of_drew hb46_
            have hs_w45 := hb46.size
            clear F47
            refine rw_on (c := (((spreadL l).getD (2 * j) 0) != ((l.getD j (0, 0)).1))) rfl rfl rfl (by first | (rw [c23]; rfl) | simp [c23]) ?_
            refine rw_val (v := .bool (((spreadL l).getD (2 * j + 1) 0) != ((l.getD j (0, 0)).2))) (w' := w45) rfl rfl rfl rfl (by simp [go_sem, sEv, sLook, nbeq, i64_w, -List.getD_eq_getElem?_getD]) ?_
            refine rw_val (v := .bool (((spreadL l).getD (2 * j + 1) 0) != ((l.getD j (0, 0)).2))) (w' := w45) rfl rfl rfl rfl (by first | (simp [go_sem, sEv, sLook, nbeq, i64_w, -List.getD_eq_getElem?_getD, c23]; done) | (rw [c23]; simp [go_sem, sEv, sLook, nbeq, i64_w, -List.getD_eq_getElem?_getD]; done) | (simp [go_sem, sEv, sLook, nbeq, i64_w, -List.getD_eq_getElem?_getD] <;> omega) | (simp [go_sem, sEv, sLook, nbeq, i64_w, -List.getD_eq_getElem?_getD]; intro h_; exact absurd (by omega) h_)) ?_
            refine rw_end ?_
            refine w_weaken (G' := [(0, .slice (some ad31) l.length c1), (1, .slice A2 m.length c2), (5, .slice (some ⟨g39, 0, none⟩) ((spreadL l).length) c7), (6, .slice (some ⟨g28, 0, none⟩) l.length c13), (38, .int .i64 ((l.length : Nat) : Int)), (39, .int .i64 ((j : Nat) : Int)), (77, .bool (((spreadL l).getD (2 * j + 1) 0) != ((l.getD j (0, 0)).2)))]) ⟨rfl, rfl, rfl, rfl, rfl, rfl, rfl, trivial⟩ ?_
            refine w_cond rfl rfl (fun c48 => ?_) (fun c48 => ?_)
            · have l49 : ¬ ((spreadL l).getD (2 * j + 1) 0) = ((l.getD j (0, 0)).2) := by simpa using c48
              refine w_seq ?_
              refine w_region ?_
              refine rw_val (v := .bool false) (w' := w45) rfl rfl rfl rfl rfl ?_
              refine rw_end ?_
              refine w_ret (post_ret1 rfl rfl ?_)
              exfalso
              have hs9_ := spread_len l
              first | omega | (obtain ⟨q1_, q2_⟩ := spread_at l j (by omega); simp_all; done) | (simp_all; omega)
            · have l50 : ((spreadL l).getD (2 * j + 1) 0) = ((l.getD j (0, 0)).2) := by simpa using c48
              refine w_skip ?_
              refine w_blk ?_
              refine w_region ?_
              refine rw_val (v := .int .i64 ((j + 1 : Nat) : Int)) (w' := w45) rfl rfl rfl rfl (by simp [go_sem, sEv, sLook, nbeq, i64_w, -List.getD_eq_getElem?_getD]; exact wrap_id (by omega) (by omega)) ?_
              refine rw_val (v := .int .i64 ((j + 1 : Nat) : Int)) (w' := w45) rfl rfl rfl rfl rfl ?_
              refine rw_end ?_
              exact w_back (m_ - 1) [(0, .slice (some ad31) l.length c1), (1, .slice A2 m.length c2), (5, .slice (some ⟨g39, 0, none⟩) ((spreadL l).length) c7), (6, .slice (some ⟨g28, 0, none⟩) l.length c13), (38, .int .i64 ((l.length : Nat) : Int)), (39, .int .i64 ((j + 1 : Nat) : Int))] (by omega) ⟨rfl, rfl, rfl, rfl, rfl, rfl, trivial⟩ ⟨(j + 1), by omega, (chain hB_L20 hb46), rfl⟩
          · have l51 : ¬ ((spreadL l).getD (2 * j) 0) = ((l.getD j (0, 0)).1) := by simpa using c23
            obtain ⟨g55, rfl⟩ := OwnK.adr (d := kPlace) hL17 (by first | omega | (simp only [List.length_append, List.length_cons, List.length_nil]; omega))
            obtain ⟨ad52, hA53, hc54⟩ := flat_at (OwnK.C (d := kPlace) (OwnK.on (d := kPlace) hL17 hB_L20)) (0, 0) j (by first | omega | (simp only [List.length_append, List.length_cons, List.length_nil]; omega))
            obtain rfl := Option.some.inj hA53
            have he56 : w_L20.cell? ⟨g55, j * 2, none⟩ = some (.int .i64 ((l.getD j (0, 0)).1)) := cell_g (hc54 0 _ rfl) rfl
            have he57 : w_L20.cell? ⟨g55, j * 2 + 1, none⟩ = some (.int .i64 ((l.getD j (0, 0)).2)) := cell_g (hc54 1 _ rfl) rfl
            obtain ⟨ad58, hA59, hc60⟩ := flat_at (Kd.C_below h1 (chain (chain (chain hb2 hB10) hB16) hB_L20)) (0, 0) j (by first | omega | (simp only [List.length_append, List.length_cons, List.length_nil]; omega))
            subst hA59
            have he61 : w_L20.cell? (ad58.add (j * 2)) = some (.int .i64 ((l.getD j (0, 0)).1)) := cell_0 (hc60 0 _ rfl)
            have he62 : w_L20.cell? ⟨(ad58.add (j * 2)).block, (ad58.add (j * 2)).off + 1, none⟩ = some (.int .i64 ((l.getD j (0, 0)).2)) := cell_j (hc60 1 _ rfl)
            obtain ⟨g66, rfl⟩ := OwnK.adr (d := (Kd.int .i64)) hL11 (by first | omega | (simp only [List.length_append, List.length_cons, List.length_nil]; omega))
            obtain ⟨ad63, hA64, hc65⟩ := int_at (OwnK.C (d := (Kd.int .i64)) (OwnK.on (d := (Kd.int .i64)) (OwnK.on (d := (Kd.int .i64)) hL11 hB16) hB_L20)) 0 (2 * j) (by first | omega | (simp only [List.length_append, List.length_cons, List.length_nil]; omega))
            obtain rfl := Option.some.inj hA64
            have he67 : w_L20.cell? ⟨g66, 2 * j, none⟩ = some (.int .i64 ((spreadL l).getD (2 * j) 0)) := cell_g (hc65 0 _ rfl) rfl
            refine w_drawk (M := [0, 0, 3, 7, 0, 0, 48, 112, 255, 511, 1023, 1023, 3071, 8191, 16383, 1023, 1023, 99327, 230399, 492543, 1048575, 2097151, 4194303, 8388607, 8388607, 25165823, 58720255, 134217727, 268435455, 8388607, 8388607, 1619001343, 3766484991, 8061452287, 17179869183, 34359738367]) (ss := [Is (.slice (some ⟨g55, 0, none⟩) l.length c13), Is (.int .i64 ((j : Nat) : Int)), Is (.pointer (some ⟨g55, j * 2, none⟩)), Is (.agg #[.int .i64 ((l.getD j (0, 0)).1), .int .i64 ((l.getD j (0, 0)).2)]), Is (.slice (some ad58) l.length c1), Is (.int .i64 ((j : Nat) : Int)), Is (.pointer (some (ad58.add (j * 2)))), Is (.agg #[.int .i64 ((l.getD j (0, 0)).1), .int .i64 ((l.getD j (0, 0)).2)]), Is (.bool false), Is (.bool false), Is (.slice (some ⟨g66, 0, none⟩) ((spreadL l).length) c7), Is (.int .i64 ((j : Nat) : Int)), Is (.int .i64 ((2 * j : Nat) : Int)), Is (.pointer (some ⟨g66, 2 * j, none⟩)), Is (.int .i64 ((spreadL l).getD (2 * j) 0)), Is (.slice (some ad58) l.length c1), Is (.int .i64 ((j : Nat) : Int)), Is (.pointer (some (ad58.add (j * 2)))), Is (.pointer (some (ad58.add (j * 2)))), Is (.int .i64 ((l.getD j (0, 0)).1)), Is (.bool (((spreadL l).getD (2 * j) 0) != ((l.getD j (0, 0)).1))), Is (.bool (((spreadL l).getD (2 * j) 0) != ((l.getD j (0, 0)).1))), Is (.bool (((spreadL l).getD (2 * j) 0) != ((l.getD j (0, 0)).1))), Is undef, Is undef, Is undef, Is undef, Is undef, Is undef, Is undef, Is undef, Is undef, Is undef, Is undef]) 34 rfl (by decide +kernel) ?_
            refine t_is (.slice (some ⟨g55, 0, none⟩) l.length c13) rfl rfl rfl rfl (fun W_ hW_ F_ => rfl) ?_
            refine t_is (.int .i64 ((j : Nat) : Int)) rfl rfl rfl rfl (fun W_ hW_ F_ => rfl) ?_
            refine t_is (.pointer (some ⟨g55, j * 2, none⟩)) rfl rfl rfl rfl (fun W_ hW_ F_ => (by rw [← add_plain g55 (j * 2)]; exact (run_as (run_at_k (P := Try.prog) (e := 55) (sz := 2) (by kernel_rfl) (by kernel_rfl) j (by first | omega | (simp only [List.length_append, List.length_cons, List.length_nil]; omega)) _)))) ?_
            refine t_is (.agg #[.int .i64 ((l.getD j (0, 0)).1), .int .i64 ((l.getD j (0, 0)).2)]) rfl rfl rfl rfl (fun W_ hW_ F_ => by have e0_ := cellOn he56 (below_of_drew hW_); have e1_ := cellOn he57 (below_of_drew hW_); simp [go_sem, sEv, sLook, nbeq, i64_w, -List.getD_eq_getElem?_getD, e0_, e1_, Try.underlying55]) ?_
            refine t_is (.slice (some ad58) l.length c1) rfl rfl rfl rfl (fun W_ hW_ F_ => rfl) ?_
            refine t_is (.int .i64 ((j : Nat) : Int)) rfl rfl rfl rfl (fun W_ hW_ F_ => rfl) ?_
            refine t_is (.pointer (some (ad58.add (j * 2)))) rfl rfl rfl rfl (fun W_ hW_ F_ => (run_as (run_at_k (P := Try.prog) (e := 55) (sz := 2) (by kernel_rfl) (by kernel_rfl) j (by first | omega | (simp only [List.length_append, List.length_cons, List.length_nil]; omega)) _))) ?_
            refine t_is (.agg #[.int .i64 ((l.getD j (0, 0)).1), .int .i64 ((l.getD j (0, 0)).2)]) rfl rfl rfl rfl (fun W_ hW_ F_ => by have e0_ := cellOn he61 (below_of_drew hW_); have e1_ := cellOn he62 (below_of_drew hW_); simp [go_sem, sEv, sLook, nbeq, i64_w, -List.getD_eq_getElem?_getD, e0_, e1_, Try.underlying55]) ?_
            refine t_is (.bool false) rfl rfl rfl rfl (fun W_ hW_ F_ => by simp [go_sem, sEv, sLook, nbeq, i64_w, -List.getD_eq_getElem?_getD, eqA55]) ?_
            refine t_is (.bool false) rfl rfl rfl rfl (fun W_ hW_ F_ => rfl) ?_
            refine t_gis (c := false) (.slice (some ⟨g66, 0, none⟩) ((spreadL l).length) c7) rfl rfl rfl rfl rfl rfl rfl (fun W_ hW_ F_ => rfl) ?_
            refine t_gis (c := false) (.int .i64 ((j : Nat) : Int)) rfl rfl rfl rfl rfl rfl rfl (fun W_ hW_ F_ => rfl) ?_
            refine t_gis (c := false) (.int .i64 ((2 * j : Nat) : Int)) rfl rfl rfl rfl rfl rfl rfl (fun W_ hW_ F_ => by simp [go_sem, sEv, sLook, nbeq, i64_w, -List.getD_eq_getElem?_getD]; exact wrap_id (by omega) (by omega)) ?_
            refine t_gis (c := false) (.pointer (some ⟨g66, 2 * j, none⟩)) rfl rfl rfl rfl rfl rfl rfl (fun W_ hW_ F_ => (by rw [← add_plain g66 (2 * j)]; exact (run_as (run_at_1 (P := Try.prog) (e := 3) (by kernel_rfl) (by kernel_rfl) (2 * j) (by first | omega | (simp only [List.length_append, List.length_cons, List.length_nil]; omega)) _)))) ?_
            refine t_gis (c := false) (.int .i64 ((spreadL l).getD (2 * j) 0)) rfl rfl rfl rfl rfl rfl rfl (fun W_ hW_ F_ => by have e0_ := cellOn he67 (below_of_drew hW_); simp [go_sem, sEv, sLook, nbeq, i64_w, -List.getD_eq_getElem?_getD, e0_]) ?_
            refine t_gis (c := false) (.slice (some ad58) l.length c1) rfl rfl rfl rfl rfl rfl rfl (fun W_ hW_ F_ => rfl) ?_
            refine t_gis (c := false) (.int .i64 ((j : Nat) : Int)) rfl rfl rfl rfl rfl rfl rfl (fun W_ hW_ F_ => rfl) ?_
            refine t_gis (c := false) (.pointer (some (ad58.add (j * 2)))) rfl rfl rfl rfl rfl rfl rfl (fun W_ hW_ F_ => (run_as (run_at_k (P := Try.prog) (e := 55) (sz := 2) (by kernel_rfl) (by kernel_rfl) j (by first | omega | (simp only [List.length_append, List.length_cons, List.length_nil]; omega)) _))) ?_
            refine t_gis (c := false) (.pointer (some (ad58.add (j * 2)))) rfl rfl rfl rfl rfl rfl rfl (fun W_ hW_ F_ => by simp [go_sem, sEv, sLook, nbeq, i64_w, -List.getD_eq_getElem?_getD, Try.underlying55]) ?_
            refine t_gis (c := false) (.int .i64 ((l.getD j (0, 0)).1)) rfl rfl rfl rfl rfl rfl rfl (fun W_ hW_ F_ => by have e0_ := cellOn he61 (below_of_drew hW_); simp [go_sem, sEv, sLook, nbeq, i64_w, -List.getD_eq_getElem?_getD, e0_]) ?_
            refine t_gis (c := false) (.bool (((spreadL l).getD (2 * j) 0) != ((l.getD j (0, 0)).1))) rfl rfl rfl rfl rfl rfl rfl (fun W_ hW_ F_ => by simp [go_sem, sEv, sLook, nbeq, i64_w, -List.getD_eq_getElem?_getD]) ?_
            refine t_is (.bool (((spreadL l).getD (2 * j) 0) != ((l.getD j (0, 0)).1))) rfl rfl rfl rfl (fun W_ hW_ F_ => by simp [go_sem, sEv, sLook, nbeq, i64_w, -List.getD_eq_getElem?_getD]) ?_
            refine t_is (.bool (((spreadL l).getD (2 * j) 0) != ((l.getD j (0, 0)).1))) rfl rfl rfl rfl (fun W_ hW_ F_ => rfl) ?_
            refine t_off (c := (((spreadL l).getD (2 * j) 0) != ((l.getD j (0, 0)).1))) rfl rfl rfl (by first | (rw [c23]; rfl) | simp [c23]) rfl rfl ?_
            refine t_off (c := (((spreadL l).getD (2 * j) 0) != ((l.getD j (0, 0)).1))) rfl rfl rfl (by first | (rw [c23]; rfl) | simp [c23]) rfl rfl ?_
            refine t_off (c := (((spreadL l).getD (2 * j) 0) != ((l.getD j (0, 0)).1))) rfl rfl rfl (by first | (rw [c23]; rfl) | simp [c23]) rfl rfl ?_
            refine t_off (c := (((spreadL l).getD (2 * j) 0) != ((l.getD j (0, 0)).1))) rfl rfl rfl (by first | (rw [c23]; rfl) | simp [c23]) rfl rfl ?_
            refine t_off (c := (((spreadL l).getD (2 * j) 0) != ((l.getD j (0, 0)).1))) rfl rfl rfl (by first | (rw [c23]; rfl) | simp [c23]) rfl rfl ?_
            refine t_off (c := (((spreadL l).getD (2 * j) 0) != ((l.getD j (0, 0)).1))) rfl rfl rfl (by first | (rw [c23]; rfl) | simp [c23]) rfl rfl ?_
            refine t_off (c := (((spreadL l).getD (2 * j) 0) != ((l.getD j (0, 0)).1))) rfl rfl rfl (by first | (rw [c23]; rfl) | simp [c23]) rfl rfl ?_
            refine t_off (c := (((spreadL l).getD (2 * j) 0) != ((l.getD j (0, 0)).1))) rfl rfl rfl (by first | (rw [c23]; rfl) | simp [c23]) rfl rfl ?_
            refine t_off (c := (((spreadL l).getD (2 * j) 0) != ((l.getD j (0, 0)).1))) rfl rfl rfl (by first | (rw [c23]; rfl) | simp [c23]) rfl rfl ?_
            refine t_off (c := (((spreadL l).getD (2 * j) 0) != ((l.getD j (0, 0)).1))) rfl rfl rfl (by first | (rw [c23]; rfl) | simp [c23]) rfl rfl ?_
            refine t_off (c := (((spreadL l).getD (2 * j) 0) != ((l.getD j (0, 0)).1))) rfl rfl rfl (by first | (rw [c23]; rfl) | simp [c23]) rfl rfl ?_
            refine t_tail ?_
            intro w68 hb69_ F70
            have hb69 := below_of_drew hb69_
            have hs_w68 := hb69.size
            clear F70
            refine rw_off (c := (((spreadL l).getD (2 * j) 0) != ((l.getD j (0, 0)).1))) rfl rfl rfl (by first | (rw [c23]; rfl) | simp [c23]) rfl rfl ?_
            refine rw_val (v := .bool true) (w' := w68) rfl rfl rfl rfl (by first | (simp [go_sem, sEv, sLook, nbeq, i64_w, -List.getD_eq_getElem?_getD, c23]; done) | (rw [c23]; simp [go_sem, sEv, sLook, nbeq, i64_w, -List.getD_eq_getElem?_getD]; done) | (simp [go_sem, sEv, sLook, nbeq, i64_w, -List.getD_eq_getElem?_getD] <;> omega) | (simp [go_sem, sEv, sLook, nbeq, i64_w, -List.getD_eq_getElem?_getD]; intro h_; exact absurd (by omega) h_)) ?_
            refine rw_end ?_
            refine w_weaken (G' := [(0, .slice (some ad58) l.length c1), (1, .slice A2 m.length c2), (5, .slice (some ⟨g66, 0, none⟩) ((spreadL l).length) c7), (6, .slice (some ⟨g55, 0, none⟩) l.length c13), (38, .int .i64 ((l.length : Nat) : Int)), (39, .int .i64 ((j : Nat) : Int)), (77, .bool true)]) ⟨rfl, rfl, rfl, rfl, rfl, rfl, rfl, trivial⟩ ?_
            refine w_cond_t rfl rfl rfl ?_
            refine w_seq ?_
            refine w_region ?_
            refine rw_val (v := .bool false) (w' := w68) rfl rfl rfl rfl rfl ?_
            refine rw_end ?_
            refine w_ret (post_ret1 rfl rfl ?_)
            exfalso
            have hs9_ := spread_len l
            first | omega | (obtain ⟨q1_, q2_⟩ := spread_at l j (by omega); simp_all; done) | (simp_all; omega)
        · have l71 : ¬ (((j : Nat) : Int) < ((l.length : Nat) : Int)) := of_decide_eq_false cJ
          refine w_exit rfl ?_
          refine w_seq ?_
          refine w_region ?_
          refine rw_val (v := .slice A2 m.length c2) (w' := w_L20) rfl rfl rfl rfl rfl ?_
          refine rw_call rfl rfl rfl rfl (f := 24) (args := #[.slice A2 m.length c2]) (by simp [go_sem, sEv, sLook, nbeq, i64_w, -List.getD_eq_getElem?_getD]) (places_calls w_L20 A2 c2 m (Kd.C_below h2 (chain (chain (chain hb2 hB10) hB16) hB_L20)) hc2 (by omega)) ?_
          rintro e_ w74 ⟨A72, c73, rfl, hO75, hB76⟩
          refine ⟨_, rfl, ?_⟩
          have hs_w74 := hB76.size
          have hL77 : OwnK kPlace 55 w74 w.heap.size w_L20.heap.size A72 (placesN m (m.length / 2)).length c73 (placesN m (m.length / 2)) := OwnK.lower hO75 (by omega)
          refine rw_val (v := .slice A72 ((placesN m (m.length / 2)).length) c73) (w' := w74) rfl rfl rfl rfl rfl ?_
          refine rw_end ?_
          refine w_seq ?_
          refine w_seq ?_
          have hP82 : (Kd.int .i64).C w74 A2 (m.take (m.length / 2 * 2)).length (m.take (m.length / 2 * 2)) := Kd.C_take (Kd.C_below h2 (chain (chain (chain (chain hb2 hB10) hB16) hB_L20) hB76)) (by omega)
          have hP82_ : (m.take (m.length / 2 * 2)).length = m.length / 2 * 2 := by rw [List.length_take]; omega
          refine w_drawk (M := [0, 1, 0, 0, 8, 24, 56, 124, 255, 511]) (ss := [Is (.slice A72 ((placesN m (m.length / 2)).length) c73), (OwnKSpec (Kd.int .i64) 3 w74.heap.size w74.heap.size (m.take (m.length / 2 * 2))), Is (.slice A2 m.length c2), Is (.slice A2 m.length c2), Is (.int .i64 ((m.length : Nat) : Int)), Is (.int .i64 ((m.length / 2 : Nat) : Int)), Is (.int .i64 ((m.length / 2 * 2 : Nat) : Int)), Is (.slice A2 ((m.take (m.length / 2 * 2)).length) c2)]) 8 rfl (by decide +kernel) ?_
          refine t_is (.slice A72 ((placesN m (m.length / 2)).length) c73) rfl rfl rfl rfl (fun W_ hW_ F_ => rfl) ?_
          refine t_call (f := 23) (args := #[.slice A72 ((placesN m (m.length / 2)).length) c73]) (OwnKSpec (Kd.int .i64) 3 w74.heap.size w74.heap.size (m.take (m.length / 2 * 2))) rfl rfl rfl rfl (fun W_ => by simp [go_sem, sEv, sLook, nbeq, i64_w, -List.getD_eq_getElem?_getD]) (fun W_ hW_ F_ => ?_) ?_
          · have hs_ := (below_of_drew hW_).size
            refine (spread_back W_ A72 c73 m (Kd.C_below (OwnK.C (d := kPlace) hL77) (chain (Below.refl _ _) (below_of_drew hW_))) (OwnK.cap (d := kPlace) hL77) (by omega)).mono ?_
            rintro e_ w_ ⟨A_, c_, rfl, hO_, hb_⟩
            exact ⟨_, rfl, ⟨A_, c_, rfl, OwnK.mono (OwnK.lower hO_ (by omega)) (by omega)⟩, hb_⟩
          rintro _ ⟨A78, c79, rfl, hle80⟩
          refine t_is (.slice A2 m.length c2) rfl rfl rfl rfl (fun W_ hW_ F_ => rfl) ?_
          refine t_is (.slice A2 m.length c2) rfl rfl rfl rfl (fun W_ hW_ F_ => rfl) ?_
          refine t_is (.int .i64 ((m.length : Nat) : Int)) rfl rfl rfl rfl (fun W_ hW_ F_ => (by simp [go_sem, sEv, sLook, nbeq, i64_w, -List.getD_eq_getElem?_getD])) ?_
          refine t_is (.int .i64 ((m.length / 2 : Nat) : Int)) rfl rfl rfl rfl (fun W_ hW_ F_ => by simp [go_sem, sEv, sLook, nbeq, i64_w, -List.getD_eq_getElem?_getD]; first | done | (rw [Int.tdiv_eq_ediv_of_nonneg (by omega)]; first | done | (unfold wrap64; omega)) | (unfold wrap64; omega)) ?_
          refine t_is (.int .i64 ((m.length / 2 * 2 : Nat) : Int)) rfl rfl rfl rfl (fun W_ hW_ F_ => by simp [go_sem, sEv, sLook, nbeq, i64_w, -List.getD_eq_getElem?_getD]; first | done | exact wrap_id (by omega) (by omega) | (unfold wrap64; omega)) ?_
          refine t_is (.slice A2 ((m.take (m.length / 2 * 2)).length) c2) rfl rfl rfl rfl (fun W_ hW_ F_ => (by rw [hP82_]; exact run_as (sl_to (sz := 1) (e := 3) (by kernel_rfl) (fun _ => by kernel_rfl) (m.length / 2 * 2) _ (by first | rfl | (simp; done) | omega) (by have q_ := hc2; omega) _))) ?_
          refine t_tail ?_
          intro w83 hb84_ F85
          have hb84 := below_of_drew hb84_
          have hs_w83 := hb84.size
          have hO81 : OwnK (Kd.int .i64) 3 w83 w.heap.size w74.heap.size A78 (m.take (m.length / 2 * 2)).length c79 (m.take (m.length / 2 * 2)) := OwnK.lower (ownk_fact (F85 1 (OwnKSpec (Kd.int .i64) 3 w74.heap.size w74.heap.size (m.take (m.length / 2 * 2))) (.slice A78 (m.take (m.length / 2 * 2)).length c79) (by kernel_rfl))) (by omega)
          clear F85
          refine rw_call rfl rfl rfl rfl (f := 25) (args := #[.slice A78 ((m.take (m.length / 2 * 2)).length) c79, .slice A2 ((m.take (m.length / 2 * 2)).length) c2]) (by simp [go_sem, sEv, sLook, nbeq, i64_w, -List.getD_eq_getElem?_getD]) (ints_calls w83 A78 c79 A2 c2 (m.take (m.length / 2 * 2)) (OwnK.C (d := (Kd.int .i64)) hO81) (OwnK.cap (d := (Kd.int .i64)) hO81) (Kd.C_below hP82 hb84) (by rw [hP82_]; have q_ := hc2; omega) (by rw [List.length_take]; omega)) ?_
          rintro e_ w86 ⟨rfl, hb87⟩
          refine ⟨_, rfl, ?_⟩
          have hs_w86 := hb87.size
          refine rw_val (v := .bool false) (w' := w86) rfl rfl rfl rfl (by simp [go_sem, sEv, sLook, nbeq, i64_w, -List.getD_eq_getElem?_getD]) ?_
          refine rw_end ?_
          refine w_weaken (G' := [(1, .slice A2 m.length c2), (90, .bool false)]) ⟨rfl, rfl, trivial⟩ ?_
          refine w_cond_f rfl rfl rfl ?_
          refine w_skip ?_
          refine w_seq ?_
          refine w_region ?_
          refine rw_new (cs := #[]) (t := 3) (fun g => .slice (some ⟨g, 0, none⟩) 0 0) rfl rfl rfl rfl (by kernel_rfl) ?_
          intro g88 w89 hg93 hz92 hb90 hk91
          have hs_w89 := hb90.size
          have hk91r : OwnK (Kd.int .i64) 3 w89 w.heap.size g88 (some ⟨g88, 0, none⟩) 0 0 ([] : List Int) := lit_nilK _ w.heap.size hk91 (by omega)
          refine rw_val (v := .slice A2 m.length c2) (w' := w89) rfl rfl rfl rfl rfl ?_
          have oA100 : OwnK (Kd.int .i64) 3 w89 w.heap.size g88 (some ⟨g88, 0, none⟩) 0 0 ([] : List Int) := hk91r
          refine rw_append_kd (d := (Kd.int .i64)) w.heap.size rfl rfl rfl (.tmp 91) (.tmp 92) rfl rfl 22 3 (.int .i64 0) 8 rfl (by kernel_rfl) (by kernel_rfl) rfl (show 0 < 1 by decide) (by decide) (fun _ _ h => h) (b := g88) rfl rfl (by omega) oA100 (Kd.C_below h2 (chain (chain (chain (chain (chain (chain (chain hb2 hB10) hB16) hB_L20) hB76) hb84) hb87) hb90)) (chain (chain (chain (chain (chain (chain (chain hb2 hB10) hB16) hB_L20) hB76) hb84) hb87) hb90) (by omega) (by first | omega | (simp only [List.length_append, List.length_nil, List.length_cons]; omega)) ?_
          intro A94 c95 w96 hO97 hB98 hG99
          rw [List.nil_append] at hO97
          try rw [List.nil_append]
          have hs_w96 := hB98.size
          have hgs_w96 := hG99.size
          refine rw_new (cs := #[.int .i64 0, .int .i64 0, .int .i64 0]) (t := 3) (fun g => .slice (some ⟨g, 0, none⟩) 3 3) rfl rfl rfl rfl (by kernel_rfl) ?_
          intro g101 w102 hg106 hz105 hb103 hk104
          have hs_w102 := hb103.size
          have hk104r : OwnK (Kd.int .i64) 3 w102 w.heap.size g101 (some ⟨g101, 0, none⟩) 3 3 ([0, 0, 0] : List Int) := scal_own w.heap.size hk104 (by omega) rfl rfl (by simp)
          have oA113 : OwnK (Kd.int .i64) 3 w102 w.heap.size g88 A94 m.length c95 m := (OwnK.on (d := (Kd.int .i64)) hO97 hb103)
          refine rw_append_kd (d := (Kd.int .i64)) w.heap.size rfl rfl rfl (.tmp 93) (.tmp 94) rfl rfl 22 3 (.int .i64 0) 8 rfl (by kernel_rfl) (by kernel_rfl) rfl (show 0 < 1 by decide) (by decide) (fun _ _ h => h) (b := g88) rfl rfl (by omega) oA113 (OwnK.Cn (d := (Kd.int .i64)) hk104r) (chain hB98 hb103) (by omega) (by first | omega | (simp only [List.length_append, List.length_nil, List.length_cons]; omega)) ?_
          intro A107 c108 w109 hO110 hB111 hG112
          have hs_w109 := hB111.size
          have hgs_w109 := hG112.size
          refine rw_val (v := .slice A107 ((m ++ ([0, 0, 0] : List Int)).length) c108) (w' := w109) rfl rfl rfl rfl rfl ?_
          refine rw_end ?_
          refine w_weaken (G' := [(1, .slice A2 m.length c2), (9, .slice A107 ((m ++ ([0, 0, 0] : List Int)).length) c108)]) ⟨rfl, rfl, trivial⟩ ?_
          refine w_seq ?_
          obtain ⟨g118, rfl⟩ := OwnK.adr (d := (Kd.int .i64)) hO110 (by first | omega | (simp only [List.length_append, List.length_cons, List.length_nil]; omega))
          obtain ⟨ad115, hA116, hc117⟩ := int_at (OwnK.C (d := (Kd.int .i64)) hO110) 0 0 (by first | omega | (simp only [List.length_append, List.length_cons, List.length_nil]; omega))
          obtain rfl := Option.some.inj hA116
          have he119 : w109.cell? ⟨g118, 0, none⟩ = some (.int .i64 ((m ++ ([0, 0, 0] : List Int)).getD 0 0)) := cell_g (hc117 0 _ rfl) (by first | rfl | (show 0 * 1 + 0 = 0; omega) | omega)
          obtain ⟨ad120, hA121, hc122⟩ := int_at (OwnK.C (d := (Kd.int .i64)) hO110) 0 1 (by first | omega | (simp only [List.length_append, List.length_cons, List.length_nil]; omega))
          obtain rfl := Option.some.inj hA121
          have he123 : w109.cell? ⟨g118, 1, none⟩ = some (.int .i64 ((m ++ ([0, 0, 0] : List Int)).getD 1 0)) := cell_g (hc122 0 _ rfl) rfl
          obtain ⟨ad124, hA125, hc126⟩ := int_at (OwnK.C (d := (Kd.int .i64)) hO110) 0 2 (by first | omega | (simp only [List.length_append, List.length_cons, List.length_nil]; omega))
          obtain rfl := Option.some.inj hA125
          have he127 : w109.cell? ⟨g118, 2, none⟩ = some (.int .i64 ((m ++ ([0, 0, 0] : List Int)).getD 2 0)) := cell_g (hc126 0 _ rfl) rfl
          refine w_drawk (M := [0, 1, 0, 4, 12, 0, 32, 96, 0, 256, 768, 2044, 4095, 8191]) (ss := [Is (.slice A2 m.length c2), (Is (.agg #[.int .i64 (m.getD 0 0), .int .i64 (m.getD 1 0), .int .i64 (m.getD 2 0)])), Is (.slice (some ⟨g118, 0, none⟩) ((m ++ ([0, 0, 0] : List Int)).length) c108), Is (.pointer (some ⟨g118, 0, none⟩)), Is (.int .i64 ((m ++ ([0, 0, 0] : List Int)).getD 0 0)), Is (.slice (some ⟨g118, 0, none⟩) ((m ++ ([0, 0, 0] : List Int)).length) c108), Is (.pointer (some ⟨g118, 1, none⟩)), Is (.int .i64 ((m ++ ([0, 0, 0] : List Int)).getD 1 0)), Is (.slice (some ⟨g118, 0, none⟩) ((m ++ ([0, 0, 0] : List Int)).length) c108), Is (.pointer (some ⟨g118, 2, none⟩)), Is (.int .i64 ((m ++ ([0, 0, 0] : List Int)).getD 2 0)), Is (.agg #[.int .i64 ((m ++ ([0, 0, 0] : List Int)).getD 0 0), .int .i64 ((m ++ ([0, 0, 0] : List Int)).getD 1 0), .int .i64 ((m ++ ([0, 0, 0] : List Int)).getD 2 0)])]) 12 rfl (by decide +kernel) ?_
          refine t_is (.slice A2 m.length c2) rfl rfl rfl rfl (fun W_ hW_ F_ => rfl) ?_
          refine t_call (f := 26) (args := #[.slice A2 m.length c2]) (Is (.agg #[.int .i64 (m.getD 0 0), .int .i64 (m.getD 1 0), .int .i64 (m.getD 2 0)])) rfl rfl rfl rfl (fun W_ => by simp [go_sem, sEv, sLook, nbeq, i64_w, -List.getD_eq_getElem?_getD]) (fun W_ hW_ F_ => ?_) ?_
          · refine (ballot_calls W_ A2 c2 m (Kd.C_below h2 (chain hB111 (below_of_drew hW_))) hc2).mono ?_
            rintro e_ w_ ⟨rfl, hb_⟩
            exact ⟨_, rfl, rfl, hb_⟩
          rintro _ rfl
          refine t_is (.slice (some ⟨g118, 0, none⟩) ((m ++ ([0, 0, 0] : List Int)).length) c108) rfl rfl rfl rfl (fun W_ hW_ F_ => rfl) ?_
          refine t_is (.pointer (some ⟨g118, 0, none⟩)) rfl rfl rfl rfl (fun W_ hW_ F_ => (run_as (run_at_z (P := Try.prog) (e := 3) (sz := 1) (by kernel_rfl) (by kernel_rfl)  (by first | omega | (simp only [List.length_append, List.length_cons, List.length_nil]; omega)) _))) ?_
          refine t_is (.int .i64 ((m ++ ([0, 0, 0] : List Int)).getD 0 0)) rfl rfl rfl rfl (fun W_ hW_ F_ => by have e0_ := cellOn he119 (below_of_drew hW_); simp [go_sem, sEv, sLook, nbeq, i64_w, -List.getD_eq_getElem?_getD, e0_]) ?_
          refine t_is (.slice (some ⟨g118, 0, none⟩) ((m ++ ([0, 0, 0] : List Int)).length) c108) rfl rfl rfl rfl (fun W_ hW_ F_ => rfl) ?_
          refine t_is (.pointer (some ⟨g118, 1, none⟩)) rfl rfl rfl rfl (fun W_ hW_ F_ => (by rw [← add_plain g118 (1)]; exact (run_as (run_at_1 (P := Try.prog) (e := 3) (by kernel_rfl) (by kernel_rfl) 1 (by first | omega | (simp only [List.length_append, List.length_cons, List.length_nil]; omega)) _)))) ?_
          refine t_is (.int .i64 ((m ++ ([0, 0, 0] : List Int)).getD 1 0)) rfl rfl rfl rfl (fun W_ hW_ F_ => by have e0_ := cellOn he123 (below_of_drew hW_); simp [go_sem, sEv, sLook, nbeq, i64_w, -List.getD_eq_getElem?_getD, e0_]) ?_
          refine t_is (.slice (some ⟨g118, 0, none⟩) ((m ++ ([0, 0, 0] : List Int)).length) c108) rfl rfl rfl rfl (fun W_ hW_ F_ => rfl) ?_
          refine t_is (.pointer (some ⟨g118, 2, none⟩)) rfl rfl rfl rfl (fun W_ hW_ F_ => (by rw [← add_plain g118 (2)]; exact (run_as (run_at_1 (P := Try.prog) (e := 3) (by kernel_rfl) (by kernel_rfl) 2 (by first | omega | (simp only [List.length_append, List.length_cons, List.length_nil]; omega)) _)))) ?_
          refine t_is (.int .i64 ((m ++ ([0, 0, 0] : List Int)).getD 2 0)) rfl rfl rfl rfl (fun W_ hW_ F_ => by have e0_ := cellOn he127 (below_of_drew hW_); simp [go_sem, sEv, sLook, nbeq, i64_w, -List.getD_eq_getElem?_getD, e0_]) ?_
          refine t_is (.agg #[.int .i64 ((m ++ ([0, 0, 0] : List Int)).getD 0 0), .int .i64 ((m ++ ([0, 0, 0] : List Int)).getD 1 0), .int .i64 ((m ++ ([0, 0, 0] : List Int)).getD 2 0)]) rfl rfl rfl rfl (fun W_ hW_ F_ => by kernel_rfl) ?_
          refine t_tail ?_
          intro w128 hb129_ F130
          have hb129 := below_of_drew hb129_
          have hs_w128 := hb129.size
          clear F130
          refine rw_val (v := .bool ((m.getD 0 0) == ((m ++ ([0, 0, 0] : List Int)).getD 0 0) && ((m.getD 1 0) == ((m ++ ([0, 0, 0] : List Int)).getD 1 0) && ((m.getD 2 0) == ((m ++ ([0, 0, 0] : List Int)).getD 2 0))))) (w' := w128) rfl rfl rfl rfl (by simp [go_sem, sEv, sLook, nbeq, i64_w, -List.getD_eq_getElem?_getD, eqA58]) ?_
          refine rw_val (v := .bool ((m.getD 0 0) == ((m ++ ([0, 0, 0] : List Int)).getD 0 0) && ((m.getD 1 0) == ((m ++ ([0, 0, 0] : List Int)).getD 1 0) && ((m.getD 2 0) == ((m ++ ([0, 0, 0] : List Int)).getD 2 0))))) (w' := w128) rfl rfl rfl rfl rfl ?_
          refine rw_end ?_
          refine w_weaken (G' := [(4, .bool ((m.getD 0 0) == ((m ++ ([0, 0, 0] : List Int)).getD 0 0) && ((m.getD 1 0) == ((m ++ ([0, 0, 0] : List Int)).getD 1 0) && ((m.getD 2 0) == ((m ++ ([0, 0, 0] : List Int)).getD 2 0)))))]) ⟨rfl, trivial⟩ ?_
          refine w_ret (post_ret1 rfl rfl ?_)
          exact ⟨by first | rfl | (simp only [three_at _ _ (show 0 < 3 by decide), three_at _ _ (show 1 < 3 by decide), three_at _ _ (show 2 < 3 by decide)]; simp; done) | (simp_all; done), (chain hB111 hb129)⟩
      · have l131 : ¬ (((spreadL l).length : Nat) : Int) = ((2 * l.length : Nat) : Int) := by simpa using c18
        refine rw_off (c := ((((spreadL l).length : Nat) : Int) != ((2 * l.length : Nat) : Int))) rfl rfl rfl (by first | (rw [c18]; rfl) | simp [c18]) rfl rfl ?_
        refine rw_off (c := ((((spreadL l).length : Nat) : Int) != ((2 * l.length : Nat) : Int))) rfl rfl rfl (by first | (rw [c18]; rfl) | simp [c18]) rfl rfl ?_
        refine rw_off (c := ((((spreadL l).length : Nat) : Int) != ((2 * l.length : Nat) : Int))) rfl rfl rfl (by first | (rw [c18]; rfl) | simp [c18]) rfl rfl ?_
        refine rw_off (c := ((((spreadL l).length : Nat) : Int) != ((2 * l.length : Nat) : Int))) rfl rfl rfl (by first | (rw [c18]; rfl) | simp [c18]) rfl rfl ?_
        refine rw_off (c := ((((spreadL l).length : Nat) : Int) != ((2 * l.length : Nat) : Int))) rfl rfl rfl (by first | (rw [c18]; rfl) | simp [c18]) rfl rfl ?_
        refine rw_val (v := .bool true) (w' := w14) rfl rfl rfl rfl (by first | (simp [go_sem, sEv, sLook, nbeq, i64_w, -List.getD_eq_getElem?_getD, c18]; done) | (rw [c18]; simp [go_sem, sEv, sLook, nbeq, i64_w, -List.getD_eq_getElem?_getD]; done) | (simp [go_sem, sEv, sLook, nbeq, i64_w, -List.getD_eq_getElem?_getD] <;> omega) | (simp [go_sem, sEv, sLook, nbeq, i64_w, -List.getD_eq_getElem?_getD]; intro h_; exact absurd (by omega) h_)) ?_
        refine rw_end ?_
        refine w_weaken (G' := [(0, .slice A1 l.length c1), (1, .slice A2 m.length c2), (4, .bool false), (5, .slice A6 ((spreadL l).length) c7), (6, .slice A12 l.length c13), (36, .bool true)]) ⟨rfl, rfl, rfl, rfl, rfl, rfl, trivial⟩ ?_
        refine w_cond_t rfl rfl rfl ?_
        refine w_seq ?_
        refine w_region ?_
        refine rw_val (v := .bool false) (w' := w14) rfl rfl rfl rfl rfl ?_
        refine rw_end ?_
        refine w_ret (post_ret1 rfl rfl ?_)
        exfalso
        have hs9_ := spread_len l
        first | omega | (obtain ⟨q1_, q2_⟩ := spread_at l j (by omega); simp_all; done) | (simp_all; omega)
  · have l132 : (3000 < ((l.length : Nat) : Int)) := of_decide_eq_true cA
    refine rw_off (c := decide (3000 < ((l.length : Nat) : Int))) rfl rfl rfl (by first | (rw [cA]; rfl) | simp [cA]) rfl rfl ?_
    refine rw_off (c := decide (3000 < ((l.length : Nat) : Int))) rfl rfl rfl (by first | (rw [cA]; rfl) | simp [cA]) rfl rfl ?_
    refine rw_off (c := decide (3000 < ((l.length : Nat) : Int))) rfl rfl rfl (by first | (rw [cA]; rfl) | simp [cA]) rfl rfl ?_
    refine rw_val (v := .bool true) (w' := w1) rfl rfl rfl rfl (by first | (simp [go_sem, sEv, sLook, nbeq, i64_w, -List.getD_eq_getElem?_getD, cA]; done) | (rw [cA]; simp [go_sem, sEv, sLook, nbeq, i64_w, -List.getD_eq_getElem?_getD]; done) | (simp [go_sem, sEv, sLook, nbeq, i64_w, -List.getD_eq_getElem?_getD] <;> omega) | (simp [go_sem, sEv, sLook, nbeq, i64_w, -List.getD_eq_getElem?_getD]; intro h_; exact absurd (by omega) h_)) ?_
    refine rw_end ?_
    refine w_weaken (G' := [(0, .slice A1 l.length c1), (1, .slice A2 m.length c2), (4, .bool false), (19, .bool true)]) ⟨rfl, rfl, rfl, rfl, trivial⟩ ?_
    refine w_cond_t rfl rfl rfl ?_
    refine w_seq ?_
    refine w_region ?_
    refine rw_val (v := .bool true) (w' := w1) rfl rfl rfl rfl rfl ?_
    refine rw_end ?_
    refine w_ret (post_ret1 rfl rfl ?_)
    exact ⟨by first | rfl | (simp only [three_at _ _ (show 0 < 3 by decide), three_at _ _ (show 1 < 3 by decide), three_at _ _ (show 2 < 3 by decide)]; simp; done) | (simp_all; done), hb2⟩
end Go.Proofs.Ytbbhdohjhipalaa.Ce
end
