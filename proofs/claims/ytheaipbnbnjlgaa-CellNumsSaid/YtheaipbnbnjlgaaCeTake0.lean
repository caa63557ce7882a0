/- Parts of two, one after the other: slices.Chunk. -/
import Derived.Test.YtheaipbnbnjlgaaCeNumsW
namespace Go.Proofs.Ytheaipbnbnjlgaa.Ce
open Go.RowKit Go.Proofs.YtheaipbnbnjlgaaW.PrintWords Go.Proofs.YtheaipbnbnjlgaaW.PrintLast Go.Proofs.YtheaipbnbnjlgaaW.PrintMore
open Go.Proofs.Ytheaipbnbnjlgaa.Flow
set_option linter.unusedVariables false
set_option linter.unusedSimpArgs false

set_option maxHeartbeats 4000000 in
theorem chunk_calls (w : World) (A : Option Addr) (n c : Nat) :
    Calls Try.prog 30 #[.slice A n c, .int .i64 2] w fun e w' => ∃ gs gn, e = .returned (.func (.func 38) #[] #[.pointer (some ⟨gs, 0, none⟩), .pointer (some ⟨gn, 0, none⟩)]) ∧ Blk w' gs 38 #[.slice A n c] ∧ Blk w' gn 3 #[.int .i64 2] ∧ w.heap.size ≤ gs ∧ gs < gn ∧ Below w.heap.size w w' := by
  refine calls_flow Try.func30 rfl 9 rfl (Nat.le_of_ble_eq_true rfl) [(0, .slice A n c), (1, .int .i64 2)] ?_ ?_
  · intro t v h; exact args_look rfl t v h
  refine w_seq ?_
  refine w_region ?_
  refine rw_new (cs := #[.slice A n c]) (t := 38) (fun g => .pointer (some ⟨g, 0, none⟩)) rfl rfl rfl rfl (by simp [go_sem, sEv, sLook, nbeq, i64_w, -List.getD_eq_getElem?_getD]) ?_
  intro g1 w2 hg6 hz5 hb3 hk4
  have hs_w2 := hb3.size
  refine rw_new (cs := #[.int .i64 2]) (t := 3) (fun g => .pointer (some ⟨g, 0, none⟩)) rfl rfl rfl rfl (by simp [go_sem, sEv, sLook, nbeq, i64_w, -List.getD_eq_getElem?_getD]) ?_
  intro g7 w8 hg12 hz11 hb9 hk10
  have hs_w8 := hb9.size
  refine rw_val (v := .nilFunc) (w' := w8) rfl rfl rfl rfl rfl ?_
  refine rw_end ?_
  refine w_seq ?_
  refine w_seq ?_
  refine w_region ?_
  refine rw_val (v := .int .i64 2) (w' := w8) rfl rfl rfl rfl (by have eb_ := hk10; have e0_ := eb_.cellv (i := 0) (v := (.int .i64 2 : Value)) rfl; simp [go_sem, sEv, sLook, nbeq, i64_w, -List.getD_eq_getElem?_getD, e0_]) ?_
  refine rw_val (v := .bool false) (w' := w8) rfl rfl rfl rfl (by simp [go_sem, sEv, sLook, nbeq, i64_w, -List.getD_eq_getElem?_getD]) ?_
  refine rw_end ?_
  refine w_cond_f rfl rfl rfl ?_
  refine w_skip ?_
  refine w_seq ?_
  refine w_region ?_
  refine rw_val (v := .func (.func 38) #[] #[.pointer (some ⟨g1, 0, none⟩), .pointer (some ⟨g7, 0, none⟩)]) (w' := w8) rfl rfl rfl rfl (by simp [go_sem, sEv, sLook, nbeq, i64_w, -List.getD_eq_getElem?_getD]) ?_
  refine rw_val (v := .func (.func 38) #[] #[.pointer (some ⟨g1, 0, none⟩), .pointer (some ⟨g7, 0, none⟩)]) (w' := w8) rfl rfl rfl rfl rfl ?_
  refine rw_end ?_
  refine w_ret (post_ret1 rfl rfl ?_)
  exact ⟨g1, g7, rfl, (hk4.on hb9), hk10, by omega, by omega, (chain hb3 hb9)⟩

theorem sl_two {A : Option Addr} {n' c : Nat} (j : Nat) (x y z : Int) (hx : x = ((2 * j : Nat) : Int)) (hy : y = ((2 * j + 2 : Nat) : Int)) (hz : z = ((2 * j + 2 : Nat) : Int)) (hc : 2 * j + 2 ≤ c) (w : World) :
    (Instr.sliceAt 38 (.slice A n' c) (some (.int .i64 x)) (some (.int .i64 y)) (some (.int .i64 z))).run Try.prog w = .ok (.slice (A.map (·.add (2 * j * 1))) 2 2) w := by
  have h := sl_max (P := Try.prog) (t := 38) (n' := n') (A := A) (e := 3) (sz := 1) (by kernel_rfl) (fun _ => by kernel_rfl) (2 * j) (2 * j + 2) x y z hx hy hz (by omega) hc w
  rwa [show 2 * j + 2 - 2 * j = 2 by omega] at h

theorem fin_take (k j : Nat) (h : j < k) : (List.finRange k).take (j + 1) = (List.finRange k).take j ++ [⟨j, h⟩] := by
  rw [List.take_succ_eq_append_getElem (by rw [List.length_finRange]; exact h), List.getElem_finRange]
  rfl
set_option maxHeartbeats 4000000 in
theorem chunk1_walk (w : World) (l gs gn : Nat) (A : Option Addr) (c k : Nat) (hk : k ≤ 1000000) (hc : 2 * k ≤ c) (J Jx : List (Fin k) → World → Prop) (hgs : Blk w gs 38 #[.slice A (2 * k) c]) (hgn : Blk w gn 3 #[.int .i64 2]) (hJ : AbidesFrom w.heap.size J)
    (hY : ∀ (pre : List (Fin k)) (x : Fin k) (W1 : World), J pre W1 → pre.length < k → YieldAt Fence.wide 7 Try.prog l #[.slice (A.map (·.add (2 * x.val * 1))) 2 2] W1 fun e W' => (e = .returned (.bool true) ∧ J (pre ++ [x]) W' ∧ Two gs gn W1 W') ∨ (e = .returned (.bool false) ∧ Jx (pre ++ [x]) W'))
    (h0 : J [] w) :
    Calls Try.prog 38 #[.func (.yield l) #[] #[], .pointer (some ⟨gs, 0, none⟩), .pointer (some ⟨gn, 0, none⟩)] w fun e w' => (∃ v, e = .returned v) ∧ ((∃ xs, xs = List.finRange k ∧ J xs w') ∨ (∃ pre, (∃ i, pre = (List.finRange k).take i) ∧ Jx pre w')) := by
  refine calls_flow Try.func38 rfl 31 rfl (Nat.le_of_ble_eq_true rfl) [(0, .func (.yield l) #[] #[]), (1, .pointer (some ⟨gs, 0, none⟩)), (2, .pointer (some ⟨gn, 0, none⟩))] ?_ ?_
  · intro t v h; exact args_look rfl t v h
  refine w_seq ?_
  refine w_region ?_
  refine rw_val (v := .int .i64 0) (w' := w) rfl rfl rfl rfl rfl ?_
  refine rw_end ?_
  refine w_block ?_
  refine w_loop (fun m_ G W_ => ∃ j, j + m_ = k ∧ J ((List.finRange k).take j) W_ ∧ Blk W_ gs 38 #[.slice A (2 * k) c] ∧ Blk W_ gn 3 #[.int .i64 2] ∧ G = [(0, .func (.yield l) #[] #[]), (1, .pointer (some ⟨gs, 0, none⟩)), (2, .pointer (some ⟨gn, 0, none⟩)), (4, .int .i64 ((2 * j : Nat) : Int))]) k [(0, .func (.yield l) #[] #[]), (1, .pointer (some ⟨gs, 0, none⟩)), (2, .pointer (some ⟨gn, 0, none⟩)), (4, .int .i64 0)] ⟨0, by omega, by rw [List.take_zero]; exact h0, hgs, hgn, rfl⟩ ⟨rfl, rfl, rfl, rfl, trivial⟩ ?_
  rintro m_ G w1 ⟨j, hj, hJ1, hs1, hn1, rfl⟩
  have hlts_ := hs1.lt
  have hltn_ := hn1.lt
  refine w_seq ?_
  refine w_seq ?_
  refine w_region ?_
  refine rw_val (v := .int .i64 ((2 * j : Nat) : Int)) (w' := w1) rfl rfl rfl rfl rfl ?_
  refine rw_val (v := .slice A (2 * k) c) (w' := w1) rfl rfl rfl rfl (by have eb_ := hs1; have e0_ := eb_.cellv (i := 0) (v := (.slice A (2 * k) c : Value)) rfl; simp [go_sem, sEv, sLook, nbeq, i64_w, -List.getD_eq_getElem?_getD, e0_, Try.underlying38]) ?_
  refine rw_val (v := .int .i64 (((2 * k) : Nat) : Int)) (w' := w1) rfl rfl rfl rfl (by simp [go_sem, sEv, sLook, nbeq, i64_w, -List.getD_eq_getElem?_getD]) ?_
  refine rw_val (v := .bool (decide (((2 * j : Nat) : Int) < (((2 * k) : Nat) : Int)))) (w' := w1) rfl rfl rfl rfl (by simp [go_sem, sEv, sLook, nbeq, i64_w, -List.getD_eq_getElem?_getD]) ?_
  refine rw_end ?_
  refine w_weaken (G' := [(0, .func (.yield l) #[] #[]), (1, .pointer (some ⟨gs, 0, none⟩)), (2, .pointer (some ⟨gn, 0, none⟩)), (4, .int .i64 ((2 * j : Nat) : Int)), (9, .bool (decide (((2 * j : Nat) : Int) < (((2 * k) : Nat) : Int))))]) ⟨rfl, rfl, rfl, rfl, rfl, trivial⟩ ?_
  refine w_cond rfl rfl (fun cJ => ?_) (fun cJ => ?_)
  · have l1 : (((2 * j : Nat) : Int) < (((2 * k) : Nat) : Int)) := of_decide_eq_true cJ
    refine w_skip ?_
    refine w_seq ?_
    refine w_block ?_
    refine w_seq ?_
    refine w_drawk (M := [0, 0, 0, 6, 14, 31, 63]) (ss := [Is (.int .i64 2), Is (.slice A (2 * k) c), Is (.int .i64 ((2 * j : Nat) : Int)), Is (.slice (adrS 1 A c (2 * j)) (2 * k - 2 * j) (c - 2 * j)), Is (.int .i64 (((2 * k - 2 * j) : Nat) : Int))]) 5 rfl (by decide +kernel) ?_
    refine t_is (.int .i64 2) rfl rfl rfl rfl (fun W_ hW_ F_ => by have eb_ := (hn1.on (below_of_drew hW_)); have e0_ := eb_.cellv (i := 0) (v := (.int .i64 2 : Value)) rfl; simp [go_sem, sEv, sLook, nbeq, i64_w, -List.getD_eq_getElem?_getD, e0_]) ?_
    refine t_is (.slice A (2 * k) c) rfl rfl rfl rfl (fun W_ hW_ F_ => by have eb_ := (hs1.on (below_of_drew hW_)); have e0_ := eb_.cellv (i := 0) (v := (.slice A (2 * k) c : Value)) rfl; simp [go_sem, sEv, sLook, nbeq, i64_w, -List.getD_eq_getElem?_getD, e0_, Try.underlying38]) ?_
    refine t_is (.int .i64 ((2 * j : Nat) : Int)) rfl rfl rfl rfl (fun W_ hW_ F_ => rfl) ?_
    refine t_is (.slice (adrS 1 A c (2 * j)) (2 * k - 2 * j) (c - 2 * j)) rfl rfl rfl rfl (fun W_ hW_ F_ => (run_as (sl_from (e := 3) (sz := 1) (by kernel_rfl) (fun _ => by kernel_rfl) (2 * j) _ (by first | rfl | (simp; done) | omega) (by omega) (by omega) _))) ?_
    refine t_is (.int .i64 (((2 * k - 2 * j) : Nat) : Int)) rfl rfl rfl rfl (fun W_ hW_ F_ => (by simp [go_sem, sEv, sLook, nbeq, i64_w, -List.getD_eq_getElem?_getD])) ?_
    refine t_tail ?_
    intro w2 hb3_ F4
    have hb3 := below_of_drew hb3_
    have hs_w2 := hb3.size
    refine rw_val (v := .int .i64 2) (w' := w2) rfl rfl rfl rfl (by simp [go_sem, sEv, sLook, nbeq, i64_w, -List.getD_eq_getElem?_getD]; omega) ?_
    refine rw_val (v := .int .i64 2) (w' := w2) rfl rfl rfl rfl rfl ?_
    refine rw_end ?_
    refine w_weaken (G' := [(0, .func (.yield l) #[] #[]), (1, .pointer (some ⟨gs, 0, none⟩)), (2, .pointer (some ⟨gn, 0, none⟩)), (4, .int .i64 ((2 * j : Nat) : Int)), (5, .int .i64 2)]) ⟨rfl, rfl, rfl, rfl, rfl, trivial⟩ ?_
    refine w_seq ?_
    refine w_regionI ?_
    refine ri_val (v := .func (.yield l) #[] #[]) (w' := w2) rfl rfl rfl rfl rfl ?_
    refine ri_val (v := .slice A (2 * k) c) (w' := w2) rfl rfl rfl rfl (by have eb_ := (hs1.on hb3); have e0_ := eb_.cellv (i := 0) (v := (.slice A (2 * k) c : Value)) rfl; simp [go_sem, sEv, sLook, nbeq, i64_w, -List.getD_eq_getElem?_getD, e0_, Try.underlying38]) ?_
    refine ri_val (v := .int .i64 ((2 * j : Nat) : Int)) (w' := w2) rfl rfl rfl rfl rfl ?_
    refine ri_val (v := .int .i64 ((2 * j : Nat) : Int)) (w' := w2) rfl rfl rfl rfl rfl ?_
    refine ri_val (v := .int .i64 2) (w' := w2) rfl rfl rfl rfl rfl ?_
    refine ri_val (v := .int .i64 ((2 * j + 2 : Nat) : Int)) (w' := w2) rfl rfl rfl rfl (by simp [go_sem, sEv, sLook, nbeq, i64_w, -List.getD_eq_getElem?_getD]; exact wrap_id (by omega) (by omega)) ?_
    refine ri_val (v := .int .i64 ((2 * j : Nat) : Int)) (w' := w2) rfl rfl rfl rfl rfl ?_
    refine ri_val (v := .int .i64 2) (w' := w2) rfl rfl rfl rfl rfl ?_
    refine ri_val (v := .int .i64 ((2 * j + 2 : Nat) : Int)) (w' := w2) rfl rfl rfl rfl (by simp [go_sem, sEv, sLook, nbeq, i64_w, -List.getD_eq_getElem?_getD]; exact wrap_id (by omega) (by omega)) ?_
    refine ri_val (v := .slice (A.map (·.add (2 * j * 1))) 2 2) (w' := w2) rfl rfl rfl rfl (by have q_ := sl_two (A := A) (n' := 2 * k) (c := c) j ((2 * j : Nat) : Int) ((2 * j + 2 : Nat) : Int) ((2 * j + 2 : Nat) : Int) rfl rfl rfl (by omega) w2; exact run_as q_) ?_
    have hJ2_ := hJ _ _ _ none hJ1 (grown_below hb3) (fun r h => by cases h)
    refine ri_yield (l := l) (m := 8) rfl rfl rfl rfl (by simp [go_sem, sEv, sLook, nbeq, i64_w, -List.getD_eq_getElem?_getD]) (yieldAt_any (hY _ ⟨j, by omega⟩ _ hJ2_ (by rw [List.length_take, List.length_finRange]; omega))) rfl rfl ?_
    rintro e_ w3 (⟨rfl, hJ3, hk3⟩ | ⟨rfl, hx3⟩)
    · refine ⟨true, rfl, ?_⟩
      have hs3 : Blk w3 gs 38 #[.slice A (2 * k) c] := hk3.1.trans (hs1.on hb3)
      have hn3 : Blk w3 gn 3 #[.int .i64 2] := hk3.2.trans (hn1.on hb3)
      have hJ4_ : J ((List.finRange k).take (j + 1)) w3 := by rw [fin_take k j (by omega)]; exact hJ3
      refine ri_val (v := .bool false) (w' := w3) rfl rfl rfl rfl (by simp [go_sem, sEv, sLook, nbeq, i64_w, -List.getD_eq_getElem?_getD]) ?_
      refine ri_end ?_
      refine w_weaken (G' := [(0, .func (.yield l) #[] #[]), (1, .pointer (some ⟨gs, 0, none⟩)), (2, .pointer (some ⟨gn, 0, none⟩)), (4, .int .i64 ((2 * j : Nat) : Int)), (30, .bool false)]) ⟨rfl, rfl, rfl, rfl, rfl, trivial⟩ ?_
      refine w_cond_f rfl rfl rfl ?_
      refine w_skip ?_
      refine w_blk ?_
      refine w_region ?_
      refine rw_val (v := .int .i64 ((2 * j : Nat) : Int)) (w' := w3) rfl rfl rfl rfl rfl ?_
      refine rw_val (v := .int .i64 2) (w' := w3) rfl rfl rfl rfl (by have eb_ := hn3; have e0_ := eb_.cellv (i := 0) (v := (.int .i64 2 : Value)) rfl; simp [go_sem, sEv, sLook, nbeq, i64_w, -List.getD_eq_getElem?_getD, e0_]) ?_
      refine rw_val (v := .int .i64 ((2 * (j + 1) : Nat) : Int)) (w' := w3) rfl rfl rfl rfl (by simp [go_sem, sEv, sLook, nbeq, i64_w, -List.getD_eq_getElem?_getD]; unfold wrap64; omega) ?_
      refine rw_val (v := .int .i64 ((2 * (j + 1) : Nat) : Int)) (w' := w3) rfl rfl rfl rfl rfl ?_
      refine rw_end ?_
      refine w_weaken (G' := [(0, .func (.yield l) #[] #[]), (1, .pointer (some ⟨gs, 0, none⟩)), (2, .pointer (some ⟨gn, 0, none⟩)), (4, .int .i64 ((2 * (j + 1) : Nat) : Int))]) ⟨rfl, rfl, rfl, rfl, trivial⟩ ?_
      exact w_back (m_ - 1) [(0, .func (.yield l) #[] #[]), (1, .pointer (some ⟨gs, 0, none⟩)), (2, .pointer (some ⟨gn, 0, none⟩)), (4, .int .i64 ((2 * (j + 1) : Nat) : Int))] (by omega) ⟨rfl, rfl, rfl, rfl, trivial⟩ ⟨j + 1, by omega, hJ4_, hs3, hn3, rfl⟩
    · refine ⟨false, rfl, ?_⟩
      refine ri_val (v := .bool true) (w' := w3) rfl rfl rfl rfl (by simp [go_sem, sEv, sLook, nbeq, i64_w, -List.getD_eq_getElem?_getD]) ?_
      refine ri_end ?_
      refine w_weaken (G' := [(0, .func (.yield l) #[] #[]), (1, .pointer (some ⟨gs, 0, none⟩)), (2, .pointer (some ⟨gn, 0, none⟩)), (4, .int .i64 ((2 * j : Nat) : Int)), (30, .bool true)]) ⟨rfl, rfl, rfl, rfl, rfl, trivial⟩ ?_
      refine w_cond_t rfl rfl rfl ?_
      refine w_ret (post_ret0 rfl ?_)
      exact ⟨⟨_, rfl⟩, .inr ⟨_, ⟨j + 1, rfl⟩, by rw [fin_take k j (by omega)]; exact hx3⟩⟩
  · have l5 : ¬ (((2 * j : Nat) : Int) < (((2 * k) : Nat) : Int)) := of_decide_eq_false cJ
    refine w_exit rfl ?_
    refine w_end (post_end0 rfl ?_)
    exact ⟨⟨_, rfl⟩, .inl ⟨_, rfl, by rw [show (List.finRange k) = (List.finRange k).take j by rw [List.take_of_length_le (by rw [List.length_finRange]; omega)]]; exact hJ1⟩⟩

/-- The iterator's contract: the parts of two, one after the other. -/
theorem chunk1_stops (w : World) (gs gn : Nat) (A : Option Addr) (c k : Nat) (hk : k ≤ 1000000) (hc : 2 * k ≤ c) (hgs : Blk w gs 38 #[.slice A (2 * k) c]) (hgn : Blk w gn 3 #[.int .i64 2]) :
    SeqStopsK Fence.wide 8 Try.prog 38 #[.pointer (some ⟨gs, 0, none⟩), .pointer (some ⟨gn, 0, none⟩)] (fun x : Fin k => #[.slice (A.map (·.add (2 * x.val * 1))) 2 2]) (Two gs gn) (fun xs => xs = List.finRange k) (fun pre => ∃ i, pre = (List.finRange k).take i) k w :=
  fun l J Jx W hW hJ hJx hY h0 => (callsIn_wide (n := 8)).2 (chunk1_walk W l gs gn A c k hk hc J Jx (hgs.on hW) (hgn.on hW) hJ hY h0)
end Go.Proofs.Ytheaipbnbnjlgaa.Ce
