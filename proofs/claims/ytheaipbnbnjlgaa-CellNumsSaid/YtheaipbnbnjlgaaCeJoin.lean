/- Cells joined: the walk; the fixed fact. -/
import Derived.Test.YtheaipbnbnjlgaaCeOps
namespace Go.Proofs.Ytheaipbnbnjlgaa.Ce
open Go.RowKit Go.Proofs.YtheaipbnbnjlgaaW.PrintWords Go.Proofs.YtheaipbnbnjlgaaW.PrintLast Go.Proofs.YtheaipbnbnjlgaaW.PrintMore
open Go.Proofs.Ytheaipbnbnjlgaa.Flow
set_option linter.unusedVariables false
set_option linter.unusedSimpArgs false

set_option maxHeartbeats 4000000 in
theorem join_calls (w : World) (A1 : Option Addr) (c1 : Nat) (l : List CL) (hl : kCell.C w A1 l.length l) (hc : l.length ≤ c1) (hln : l.length ≤ 140737488355328) (hlo : ∀ c ∈ l, LoOk c) :
    Calls Try.prog 11 #[.slice A1 l.length c1] w fun e w' => e = .returned (.agg (carr (joinC l))) ∧ Below w.heap.size w w' := by
  refine calls_flow Try.func11 rfl 27 rfl (Nat.le_of_ble_eq_true rfl) [(0, .slice A1 l.length c1)] ?_ ?_
  · intro t v h; exact args_look rfl t v h
  refine w_seq ?_
  refine w_region ?_
  refine rw_new (cs := carr CL.unit) (t := 31) (fun g => .pointer (some ⟨g, 0, none⟩)) rfl rfl rfl rfl (by kernel_rfl) ?_
  intro g1 w2 hg6 hz5 hb3 hk4
  have hs_w2 := hb3.size
  refine rw_end ?_
  refine w_scope ?_
  refine w_seq ?_
  refine w_region ?_
  refine rw_call rfl rfl rfl rfl (f := 14) (args := #[]) (by simp [go_sem, sEv, sLook, nbeq, i64_w, -List.getD_eq_getElem?_getD]) (unit_calls w2) ?_
  rintro e_ w7 ⟨rfl, hb8⟩
  refine ⟨_, rfl, ?_⟩
  have hs_w7 := hb8.size
  refine rw_new (cs := carr CL.unit) (t := 31) (fun g => .pointer (some ⟨g, 0, none⟩)) rfl rfl rfl rfl (by kernel_rfl) ?_
  intro g9 w10 hg14 hz13 hb11 hk12
  have hs_w10 := hb11.size
  refine rw_seg (g := g9) (off := 0) (ty := 31) (p := .tmp 3) (x := .tmp 7) (v := .agg (carr CL.unit)) (cs' := carr CL.unit) rfl rfl rfl rfl rfl rfl hk12 (by show (sizeOf 31).run _ _ = .ok (carr _).size _; rw [carr_size]; kernel_rfl) (Nat.le_of_eq (by rw [Nat.zero_add]; exact (carr_size _).trans (carr_size _).symm)) (encC_one _) (seg_all CL.unit CL.unit) ?_
  intro w15 hk16 hb17
  have hs_w15 := hk16.size
  refine rw_val (v := .bool false) (w' := w15) rfl rfl rfl rfl rfl ?_
  refine rw_end ?_
  refine w_weaken (G' := [(0, .slice A1 l.length c1), (2, .pointer (some ⟨g1, 0, none⟩)), (3, .pointer (some ⟨g9, 0, none⟩)), (4, .bool false)]) ⟨rfl, rfl, rfl, rfl, trivial⟩ ?_
  refine w_seq ?_
  refine w_label ?_
  refine w_seq ?_
  refine w_seq ?_
  refine w_region ?_
  refine rw_val (v := .slice A1 l.length c1) (w' := w15) rfl rfl rfl rfl rfl ?_
  refine rw_val (v := .int .i64 ((l.length : Nat) : Int)) (w' := w15) rfl rfl rfl rfl (by simp [go_sem, sEv, sLook, nbeq, i64_w, -List.getD_eq_getElem?_getD]) ?_
  refine rw_val (v := .int .i64 0) (w' := w15) rfl rfl rfl rfl rfl ?_
  refine rw_end ?_
  refine w_block ?_
  refine w_loop (fun m_ G W_ => ∃ (j : Nat) (o : CL) (b : Bool), j + m_ = l.length ∧ Below w.heap.size w W_ ∧ (joinS (l.take j) = (o, b)) ∧ (Blk W_ g9 31 (carr o)) ∧ (Blk W_ g1 31 (carr CL.unit)) ∧ G = [(2, .pointer (some ⟨g1, 0, none⟩)), (3, .pointer (some ⟨g9, 0, none⟩)), (4, .bool b), (8, .slice A1 l.length c1), (9, .int .i64 ((l.length : Nat) : Int)), (10, .int .i64 ((j : Nat) : Int))]) l.length [(2, .pointer (some ⟨g1, 0, none⟩)), (3, .pointer (some ⟨g9, 0, none⟩)), (4, .bool false), (8, .slice A1 l.length c1), (9, .int .i64 ((l.length : Nat) : Int)), (10, .int .i64 0)] ⟨0, CL.unit, false, by omega, (hk16.below (by omega) (chain (chain hb3 hb8) hb11)), rfl, hb17, (((hk4.on hb8).on hb11).keep hk16 (by omega)), rfl⟩ ⟨rfl, rfl, rfl, rfl, rfl, rfl, trivial⟩ ?_
  rintro m_ G w_L18 ⟨j, o, b, hp19, hB_L18, hf20, hf21, hf22, rfl⟩
  have hs_w_L18 := hB_L18.size
  have hlo_ : 0 ≤ o.lo ∧ o.lo < 18446744073709551616 := by have h_ := join_lo (l := l.take j) (fun c hc => hlo c (List.mem_of_mem_take hc)); unfold joinC at h_; rw [hf20] at h_; exact h_
  have hlt3_ := hf21.lt
  have hlt2_ := hf22.lt
  refine w_seq ?_
  refine w_region ?_
  refine rw_val (v := .bool (decide (((j : Nat) : Int) < ((l.length : Nat) : Int)))) (w' := w_L18) rfl rfl rfl rfl (by simp [go_sem, sEv, sLook, nbeq, i64_w, -List.getD_eq_getElem?_getD]) ?_
  refine rw_end ?_
  refine w_seq ?_
  refine w_cond rfl rfl (fun cJ => ?_) (fun cJ => ?_)
  · have l23 : (((j : Nat) : Int) < ((l.length : Nat) : Int)) := of_decide_eq_true cJ
    refine w_skip ?_
    refine w_seq ?_
    refine w_block ?_
    refine w_seq ?_
    refine w_region ?_
    obtain ⟨ad24, hA25, hc26⟩ := flat_at (Kd.C_below hl hB_L18) CL.unit j (by first | omega | decide)
    subst hA25
    refine rw_val (v := .pointer (some (ad24.add (j * 74)))) (w' := w_L18) rfl rfl rfl rfl (run_as (run_at_k (P := Try.prog) (e := 31) (sz := 74) (by kernel_rfl) (by kernel_rfl) j (by first | omega | decide) _)) ?_
    refine rw_val (v := .agg (carr (l.getD j CL.unit))) (w' := w_L18) rfl rfl rfl rfl (run_as (load_el (c := (l.getD j CL.unit)) (fun j u hj => cellOn (hc26 j u hj) (Below.refl _ _)))) ?_
    refine rw_new (cs := carr CL.unit) (t := 31) (fun g => .pointer (some ⟨g, 0, none⟩)) rfl rfl rfl rfl (by kernel_rfl) ?_
    intro g27 w28 hg32 hz31 hb29 hk30
    have hs_w28 := hb29.size
    refine rw_seg (g := g27) (off := 0) (ty := 31) (p := .tmp 6) (x := .tmp 13) (v := .agg (carr (l.getD j CL.unit))) (cs' := carr (l.getD j CL.unit)) rfl rfl rfl rfl rfl rfl hk30 (by show (sizeOf 31).run _ _ = .ok (carr _).size _; rw [carr_size]; kernel_rfl) (Nat.le_of_eq (by rw [Nat.zero_add]; exact (carr_size _).trans (carr_size _).symm)) (encC_one _) (seg_all CL.unit (l.getD j CL.unit)) ?_
    intro w33 hk34 hb35
    have hs_w33 := hk34.size
    refine rw_end ?_
    refine w_weaken (G' := [(2, .pointer (some ⟨g1, 0, none⟩)), (3, .pointer (some ⟨g9, 0, none⟩)), (4, .bool b), (6, .pointer (some ⟨g27, 0, none⟩)), (8, .slice (some ad24) l.length c1), (9, .int .i64 ((l.length : Nat) : Int)), (10, .int .i64 ((j : Nat) : Int))]) ⟨rfl, rfl, rfl, rfl, rfl, rfl, rfl, trivial⟩ ?_
    refine w_block ?_
    refine w_seq ?_
    refine w_drawk (M := [0, 0, 3, 7]) (ss := [Is (.agg (carr (l.getD j CL.unit))), (Is (.agg (carr CL.unit)))]) 2 rfl (by decide +kernel) ?_
    refine t_is (.agg (carr (l.getD j CL.unit))) rfl rfl rfl rfl (fun W_ hW_ F_ => (run_as (load_cell (c := (l.getD j CL.unit)) (hb35.on (below_of_drew hW_))))) ?_
    refine t_call (f := 14) (args := #[]) (Is (.agg (carr CL.unit))) rfl rfl rfl rfl (fun W_ => by simp [go_sem, sEv, sLook, nbeq, i64_w, -List.getD_eq_getElem?_getD]) (fun W_ hW_ F_ => ?_) ?_
    · refine (unit_calls W_).mono ?_
      rintro e_ w_ ⟨rfl, hb_⟩
      exact ⟨_, rfl, rfl, hb_⟩
    rintro _ rfl
    refine t_tail ?_
    intro w36 hb37_ F38
    have hb37 := below_of_drew hb37_
    have hs_w36 := hb37.size
    refine rw_val (v := .bool (eqC (l.getD j CL.unit) CL.unit)) (w' := w36) rfl rfl rfl rfl (run_as (guard_eq_cell _ _ _ _ _)) ?_
    refine rw_val (v := .bool (eqC (l.getD j CL.unit) CL.unit)) (w' := w36) rfl rfl rfl rfl rfl ?_
    refine rw_end ?_
    refine w_weaken (G' := [(2, .pointer (some ⟨g1, 0, none⟩)), (3, .pointer (some ⟨g9, 0, none⟩)), (4, .bool b), (6, .pointer (some ⟨g27, 0, none⟩)), (8, .slice (some ad24) l.length c1), (9, .int .i64 ((l.length : Nat) : Int)), (10, .int .i64 ((j : Nat) : Int)), (17, .bool (eqC (l.getD j CL.unit) CL.unit))]) ⟨rfl, rfl, rfl, rfl, rfl, rfl, rfl, rfl, trivial⟩ ?_
    refine w_cond rfl rfl (fun cU => ?_) (fun cU => ?_)
    · refine w_exit rfl ?_
      refine w_region ?_
      refine rw_val (v := .int .i64 ((j + 1 : Nat) : Int)) (w' := w36) rfl rfl rfl rfl (by simp [go_sem, sEv, sLook, nbeq, i64_w, -List.getD_eq_getElem?_getD]; exact wrap_id (by omega) (by omega)) ?_
      refine rw_val (v := .int .i64 ((j + 1 : Nat) : Int)) (w' := w36) rfl rfl rfl rfl rfl ?_
      refine rw_end ?_
      exact w_back (m_ - 1) [(2, .pointer (some ⟨g1, 0, none⟩)), (3, .pointer (some ⟨g9, 0, none⟩)), (4, .bool b), (8, .slice (some ad24) l.length c1), (9, .int .i64 ((l.length : Nat) : Int)), (10, .int .i64 ((j + 1 : Nat) : Int))] (by omega) ⟨rfl, rfl, rfl, rfl, rfl, rfl, trivial⟩ ⟨(j + 1), o, b, by omega, (chain (hk34.below (by omega) (chain hB_L18 hb29)) hb37), (by rw [joinS_succ l j (by omega), hf20]; simp [joinStep, cU, -List.getD_eq_getElem?_getD]), (((hf21.on hb29).keep hk34 (by omega)).on hb37), (((hf22.on hb29).keep hk34 (by omega)).on hb37), rfl⟩
    · refine w_seq ?_
      refine w_region ?_
      refine rw_val (v := .bool b) (w' := w36) rfl rfl rfl rfl rfl ?_
      refine rw_val (v := .bool (!b)) (w' := w36) rfl rfl rfl rfl (by simp [go_sem, sEv, sLook, nbeq, i64_w, -List.getD_eq_getElem?_getD]) ?_
      refine rw_val (v := .bool (!b)) (w' := w36) rfl rfl rfl rfl rfl ?_
      refine rw_end ?_
      refine w_cond rfl rfl (fun cB => ?_) (fun cB => ?_)
      · refine w_region ?_
        refine rw_val (v := .agg (carr (l.getD j CL.unit))) (w' := w36) rfl rfl rfl rfl (run_as (load_cell (c := (l.getD j CL.unit)) (hb35.on hb37))) ?_
        refine rw_seg (g := g9) (off := 0) (ty := 31) (p := .tmp 3) (x := .tmp 24) (v := .agg (carr (l.getD j CL.unit))) (cs' := carr (l.getD j CL.unit)) rfl rfl rfl rfl rfl rfl (((hf21.on hb29).keep hk34 (by omega)).on hb37) (by show (sizeOf 31).run _ _ = .ok (carr _).size _; rw [carr_size]; kernel_rfl) (Nat.le_of_eq (by rw [Nat.zero_add]; exact (carr_size _).trans (carr_size _).symm)) (encC_one _) (seg_all o (l.getD j CL.unit)) ?_
        intro w39 hk40 hb41
        have hs_w39 := hk40.size
        refine rw_val (v := .bool true) (w' := w39) rfl rfl rfl rfl rfl ?_
        refine rw_end ?_
        refine w_blk ?_
        refine w_blk ?_
        refine w_region ?_
        refine rw_val (v := .int .i64 ((j + 1 : Nat) : Int)) (w' := w39) rfl rfl rfl rfl (by simp [go_sem, sEv, sLook, nbeq, i64_w, -List.getD_eq_getElem?_getD]; exact wrap_id (by omega) (by omega)) ?_
        refine rw_val (v := .int .i64 ((j + 1 : Nat) : Int)) (w' := w39) rfl rfl rfl rfl rfl ?_
        refine rw_end ?_
        exact w_back (m_ - 1) [(2, .pointer (some ⟨g1, 0, none⟩)), (3, .pointer (some ⟨g9, 0, none⟩)), (4, .bool true), (8, .slice (some ad24) l.length c1), (9, .int .i64 ((l.length : Nat) : Int)), (10, .int .i64 ((j + 1 : Nat) : Int))] (by omega) ⟨rfl, rfl, rfl, rfl, rfl, rfl, trivial⟩ ⟨(j + 1), (l.getD j CL.unit), true, by omega, (hk40.below (by omega) (chain (hk34.below (by omega) (chain hB_L18 hb29)) hb37)), (by rw [joinS_succ l j (by omega), hf20]; simp [joinStep, cU, cB, (not_true cB), -List.getD_eq_getElem?_getD]), hb41, ((((hf22.on hb29).keep hk34 (by omega)).on hb37).keep hk40 (by omega)), rfl⟩
      · refine w_region ?_
        refine rw_val (v := .agg (carr o)) (w' := w36) rfl rfl rfl rfl (run_as (load_cell (c := o) (((hf21.on hb29).keep hk34 (by omega)).on hb37))) ?_
        refine rw_val (v := .agg (carr (l.getD j CL.unit))) (w' := w36) rfl rfl rfl rfl (run_as (load_cell (c := (l.getD j CL.unit)) (hb35.on hb37))) ?_
        refine rw_call rfl rfl rfl rfl (f := 24) (args := #[.agg (carr o), .agg (carr (l.getD j CL.unit))]) (by simp [go_sem, sEv, sLook, nbeq, i64_w, -List.getD_eq_getElem?_getD]) (two_calls w36 o (l.getD j CL.unit) hlo_ (hlo (l.getD j CL.unit) (getD_mem l j CL.unit (by omega)))) ?_
        rintro e_ w42 ⟨rfl, hb43⟩
        refine ⟨_, rfl, ?_⟩
        have hs_w42 := hb43.size
        refine rw_seg (g := g9) (off := 0) (ty := 31) (p := .tmp 3) (x := .tmp 16) (v := .agg (carr (twoC o (l.getD j CL.unit)))) (cs' := carr (twoC o (l.getD j CL.unit))) rfl rfl rfl rfl rfl rfl ((((hf21.on hb29).keep hk34 (by omega)).on hb37).on hb43) (by show (sizeOf 31).run _ _ = .ok (carr _).size _; rw [carr_size]; kernel_rfl) (Nat.le_of_eq (by rw [Nat.zero_add]; exact (carr_size _).trans (carr_size _).symm)) (encC_one _) (seg_all o (twoC o (l.getD j CL.unit))) ?_
        intro w44 hk45 hb46
        have hs_w44 := hk45.size
        refine rw_end ?_
        refine w_weaken (G' := [(2, .pointer (some ⟨g1, 0, none⟩)), (3, .pointer (some ⟨g9, 0, none⟩)), (4, .bool b), (8, .slice (some ad24) l.length c1), (9, .int .i64 ((l.length : Nat) : Int)), (10, .int .i64 ((j : Nat) : Int))]) ⟨rfl, rfl, rfl, rfl, rfl, rfl, trivial⟩ ?_
        refine w_blk ?_
        refine w_blk ?_
        refine w_region ?_
        refine rw_val (v := .int .i64 ((j + 1 : Nat) : Int)) (w' := w44) rfl rfl rfl rfl (by simp [go_sem, sEv, sLook, nbeq, i64_w, -List.getD_eq_getElem?_getD]; exact wrap_id (by omega) (by omega)) ?_
        refine rw_val (v := .int .i64 ((j + 1 : Nat) : Int)) (w' := w44) rfl rfl rfl rfl rfl ?_
        refine rw_end ?_
        exact w_back (m_ - 1) [(2, .pointer (some ⟨g1, 0, none⟩)), (3, .pointer (some ⟨g9, 0, none⟩)), (4, .bool b), (8, .slice (some ad24) l.length c1), (9, .int .i64 ((l.length : Nat) : Int)), (10, .int .i64 ((j + 1 : Nat) : Int))] (by omega) ⟨rfl, rfl, rfl, rfl, rfl, rfl, trivial⟩ ⟨(j + 1), (twoC o (l.getD j CL.unit)), b, by omega, (hk45.below (by omega) (chain (chain (hk34.below (by omega) (chain hB_L18 hb29)) hb37) hb43)), (by rw [joinS_succ l j (by omega), hf20]; simp [joinStep, cU, cB, (not_false cB), -List.getD_eq_getElem?_getD]), hb46, (((((hf22.on hb29).keep hk34 (by omega)).on hb37).on hb43).keep hk45 (by omega)), rfl⟩
  · have l47 : ¬ (((j : Nat) : Int) < ((l.length : Nat) : Int)) := of_decide_eq_false cJ
    refine w_exit rfl ?_
    refine w_seq ?_
    refine w_region ?_
    refine rw_val (v := .agg (carr o)) (w' := w_L18) rfl rfl rfl rfl (run_as (load_cell (c := o) hf21)) ?_
    refine rw_seg (g := g1) (off := 0) (ty := 31) (p := .tmp 2) (x := .tmp 26) (v := .agg (carr o)) (cs' := carr o) rfl rfl rfl rfl rfl rfl hf22 (by show (sizeOf 31).run _ _ = .ok (carr _).size _; rw [carr_size]; kernel_rfl) (Nat.le_of_eq (by rw [Nat.zero_add]; exact (carr_size _).trans (carr_size _).symm)) (encC_one _) (seg_all CL.unit o) ?_
    intro w48 hk49 hb50
    have hs_w48 := hk49.size
    refine rw_end ?_
    refine w_retG (post_retc (v := .agg (carr o)) rfl rfl (load_cell (c := o) hb50) ?_)
    have e1_ : joinC l = o := by unfold joinC; have h_ := hf20; rw [show j = l.length by omega, List.take_length] at h_; rw [h_]
    rw [e1_]
    exact ⟨rfl, (hk49.below (by omega) hB_L18)⟩
set_option maxHeartbeats 4000000 in
theorem alive_calls (w : World) :
    Calls Try.prog 10 #[] w fun e w' => e = .returned (.bool true) ∧ Below w.heap.size w w' := by
  refine calls_flow Try.func10 rfl 42 rfl (Nat.le_of_ble_eq_true rfl) [] ?_ ?_
  · intro t v h; exact args_look rfl t v h
  refine w_seq ?_
  refine w_region ?_
  refine rw_val (v := .bool false) (w' := w) rfl rfl rfl rfl rfl ?_
  refine rw_end ?_
  refine w_seq ?_
  refine w_region ?_
  refine rw_val (v := .agg #[.int .i64 3, .int .i64 0, .int .i64 10, .int .i64 0, .int .i64 (-5)]) (w' := w) rfl rfl rfl rfl (by kernel_rfl) ?_
  refine rw_call rfl rfl rfl rfl (f := 23) (args := #[.int .i64 1, .agg #[.int .i64 3, .int .i64 0, .int .i64 10, .int .i64 0, .int .i64 (-5)]]) (by simp [go_sem, sEv, sLook, nbeq, i64_w, -List.getD_eq_getElem?_getD]) (one_calls w 1 3 0 10 0 (-5) (by decide)) ?_
  rintro e_ w1 ⟨rfl, hb2⟩
  refine ⟨_, rfl, ?_⟩
  have hs_w1 := hb2.size
  refine rw_new (cs := carr CL.unit) (t := 31) (fun g => .pointer (some ⟨g, 0, none⟩)) rfl rfl rfl rfl (by kernel_rfl) ?_
  intro g3 w4 hg8 hz7 hb5 hk6
  have hs_w4 := hb5.size
  refine rw_seg (g := g3) (off := 0) (ty := 31) (p := .tmp 1) (x := .tmp 4) (v := .agg (carr (oneC 1 3 10 (-5)))) (cs' := carr (oneC 1 3 10 (-5))) rfl rfl rfl rfl rfl rfl hk6 (by show (sizeOf 31).run _ _ = .ok (carr _).size _; rw [carr_size]; kernel_rfl) (Nat.le_of_eq (by rw [Nat.zero_add]; exact (carr_size _).trans (carr_size _).symm)) (encC_one _) (seg_all CL.unit (oneC 1 3 10 (-5))) ?_
  intro w9 hk10 hb11
  have hs_w9 := hk10.size
  refine rw_end ?_
  refine w_weaken (G' := [(0, .bool false), (1, .pointer (some ⟨g3, 0, none⟩))]) ⟨rfl, rfl, trivial⟩ ?_
  refine w_seq ?_
  refine w_drawk (M := [0, 0, 2, 7, 15, 0, 63]) (ss := [Is (.agg (carr (oneC 1 3 10 (-5)))), Is (.agg #[.int .i64 9, .int .i64 0, .int .i64 10, .int .i64 0, .int .i64 7]), (Is (.agg (carr (oneC 0 9 10 7)))), SlcSpec w9.heap.size 31 ((encC (oneC 1 3 10 (-5)) ++ encC (oneC 0 9 10 7) : List Value).toArray) 2, (Is (.agg (carr (joinC ([(oneC 1 3 10 (-5)), (oneC 0 9 10 7)] : List CL))))), BlkSpec w9.heap.size 31 (carr CL.unit)]) 6 rfl (by decide +kernel) ?_
  refine t_is (.agg (carr (oneC 1 3 10 (-5)))) rfl rfl rfl rfl (fun W_ hW_ F_ => (run_as (load_cell (c := (oneC 1 3 10 (-5))) (hb11.on (below_of_drew hW_))))) ?_
  refine t_is (.agg #[.int .i64 9, .int .i64 0, .int .i64 10, .int .i64 0, .int .i64 7]) rfl rfl rfl rfl (fun W_ hW_ F_ => by kernel_rfl) ?_
  refine t_call (f := 23) (args := #[.int .i64 0, .agg #[.int .i64 9, .int .i64 0, .int .i64 10, .int .i64 0, .int .i64 7]]) (Is (.agg (carr (oneC 0 9 10 7)))) rfl rfl rfl rfl (fun W_ => by simp [go_sem, sEv, sLook, nbeq, i64_w, -List.getD_eq_getElem?_getD]) (fun W_ hW_ F_ => ?_) ?_
  · refine (one_calls W_ 0 9 0 10 0 7 (by decide)).mono ?_
    rintro e_ w_ ⟨rfl, hb_⟩
    exact ⟨_, rfl, rfl, hb_⟩
  rintro _ rfl
  refine t_val (SlcSpec w9.heap.size 31 ((encC (oneC 1 3 10 (-5)) ++ encC (oneC 0 9 10 7) : List Value).toArray) 2) rfl rfl rfl rfl (fun W_ hW_ F_ => slc_gives _ _ _ _ (below_of_drew hW_).size (by kernel_rfl)) ?_
  rintro _ ⟨g12, rfl⟩
  refine t_call (f := 11) (args := #[.slice (some ⟨g12, 0, none⟩) 2 2]) (Is (.agg (carr (joinC ([(oneC 1 3 10 (-5)), (oneC 0 9 10 7)] : List CL))))) rfl rfl rfl rfl (fun W_ => by simp [go_sem, sEv, sLook, nbeq, i64_w, -List.getD_eq_getElem?_getD]) (fun W_ hW_ F_ => ?_) ?_
  · have hk_ := (slc_fact (F_ 3 _ _ rfl rfl)).2
    refine (join_calls W_ (some ⟨g12, 0, none⟩) 2 ([(oneC 1 3 10 (-5)), (oneC 0 9 10 7)] : List CL) (OwnK.C (d := kCell) (flat_own (enc := encC) (hl1 := encC_len) (h1 := encC_one) (e := 31) (xs := ([(oneC 1 3 10 (-5)), (oneC 0 9 10 7)] : List CL)) (cap := 2) 0 hk_ (Nat.zero_le _) (by simp) rfl (by simp) (by simp))) (by simp) (by simp) (by intro c hc; simp only [List.mem_cons, List.not_mem_nil, or_false] at hc; rcases hc with rfl | rfl <;> (unfold LoOk; decide +kernel))).mono ?_
    rintro e_ w_ ⟨rfl, hb_⟩
    exact ⟨_, rfl, rfl, hb_⟩
  rintro _ rfl
  refine t_val (BlkSpec w9.heap.size 31 (carr CL.unit)) rfl rfl rfl rfl (fun W_ hW_ F_ => blk_gives _ _ _ (below_of_drew hW_).size (by kernel_rfl)) ?_
  rintro _ ⟨g15, rfl⟩
  refine t_tail ?_
  intro w18 hb19_ F20
  have hb19 := below_of_drew hb19_
  have hs_w18 := hb19.size
  obtain ⟨hge14, hk13⟩ := slc_fact (F20 3 _ _ rfl)
  have hlt_g12 := hk13.lt
  obtain ⟨hge17, hk16⟩ := blk_fact (F20 5 _ _ rfl)
  have hlt_g15 := hk16.lt
  refine rw_seg (g := g15) (off := 0) (ty := 31) (p := .tmp 2) (x := .tmp 9) (v := .agg (carr (joinC ([(oneC 1 3 10 (-5)), (oneC 0 9 10 7)] : List CL)))) (cs' := carr (joinC ([(oneC 1 3 10 (-5)), (oneC 0 9 10 7)] : List CL))) rfl rfl rfl rfl rfl rfl hk16 (by show (sizeOf 31).run _ _ = .ok (carr _).size _; rw [carr_size]; kernel_rfl) (Nat.le_of_eq (by rw [Nat.zero_add]; exact (carr_size _).trans (carr_size _).symm)) (encC_one _) (seg_all CL.unit (joinC ([(oneC 1 3 10 (-5)), (oneC 0 9 10 7)] : List CL))) ?_
  intro w21 hk22 hb23
  have hs_w21 := hk22.size
  refine rw_end ?_
  refine w_weaken (G' := [(0, .bool false), (1, .pointer (some ⟨g3, 0, none⟩)), (2, .pointer (some ⟨g15, 0, none⟩))]) ⟨rfl, rfl, rfl, trivial⟩ ?_
  refine w_seq ?_
  refine w_region ?_
  refine rw_val (v := .pointer (some ⟨g3, 0, none⟩)) (w' := w21) rfl rfl rfl rfl (by simp [go_sem, sEv, sLook, nbeq, i64_w, -List.getD_eq_getElem?_getD, Try.underlying31]) ?_
  refine rw_val (v := .int .i64 ((oneC 1 3 10 (-5)).cnt)) (w' := w21) rfl rfl rfl rfl (by have eb_ := ((hb11.on hb19).keep hk22 (by omega)); have e0_ := eb_.cellv (v := .int .i64 ((oneC 1 3 10 (-5)).cnt)) (cA0 (oneC 1 3 10 (-5))); simp [go_sem, sEv, sLook, nbeq, i64_w, -List.getD_eq_getElem?_getD, e0_]) ?_
  refine rw_val (v := .bool (((oneC 1 3 10 (-5)).cnt) == 1)) (w' := w21) rfl rfl rfl rfl (by simp [go_sem, sEv, sLook, nbeq, i64_w, -List.getD_eq_getElem?_getD]) ?_
  refine rw_val (v := .bool (((oneC 1 3 10 (-5)).cnt) == 1)) (w' := w21) rfl rfl rfl rfl rfl ?_
  have hq24 : (((oneC 1 3 10 (-5)).cnt) == 1) = true := by decide +kernel
  refine rw_on (c := (((oneC 1 3 10 (-5)).cnt) == 1)) rfl rfl rfl (by first | (rw [hq24]; rfl) | simp [hq24]) ?_
  refine rw_val (v := .pointer (some ⟨g3, 3, none⟩)) (w' := w21) rfl rfl rfl rfl (by simp [go_sem, sEv, sLook, nbeq, i64_w, -List.getD_eq_getElem?_getD, Try.underlying31]) ?_
  refine rw_on (c := (((oneC 1 3 10 (-5)).cnt) == 1)) rfl rfl rfl (by first | (rw [hq24]; rfl) | simp [hq24]) ?_
  refine rw_val (v := .int .i64 ((oneC 1 3 10 (-5)).mn)) (w' := w21) rfl rfl rfl rfl (by have eb_ := ((hb11.on hb19).keep hk22 (by omega)); have e0_ := eb_.cellv (v := .int .i64 ((oneC 1 3 10 (-5)).mn)) (cA3 (oneC 1 3 10 (-5))); simp [go_sem, sEv, sLook, nbeq, i64_w, -List.getD_eq_getElem?_getD, e0_]) ?_
  refine rw_on (c := (((oneC 1 3 10 (-5)).cnt) == 1)) rfl rfl rfl (by first | (rw [hq24]; rfl) | simp [hq24]) ?_
  refine rw_val (v := .bool (((oneC 1 3 10 (-5)).mn) == (-5))) (w' := w21) rfl rfl rfl rfl (by simp [go_sem, sEv, sLook, nbeq, i64_w, -List.getD_eq_getElem?_getD]) ?_
  refine rw_val (v := .bool (((oneC 1 3 10 (-5)).mn) == (-5))) (w' := w21) rfl rfl rfl rfl (by first | (simp [go_sem, sEv, sLook, nbeq, i64_w, -List.getD_eq_getElem?_getD, hq24]; done) | (rw [hq24]; simp [go_sem, sEv, sLook, nbeq, i64_w, -List.getD_eq_getElem?_getD]; done) | (simp [go_sem, sEv, sLook, nbeq, i64_w, -List.getD_eq_getElem?_getD] <;> omega) | (simp [go_sem, sEv, sLook, nbeq, i64_w, -List.getD_eq_getElem?_getD]; intro h_; exact absurd (by omega) h_)) ?_
  refine rw_val (v := .bool (((oneC 1 3 10 (-5)).mn) == (-5))) (w' := w21) rfl rfl rfl rfl rfl ?_
  have hq25 : (((oneC 1 3 10 (-5)).mn) == (-5)) = true := by decide +kernel
  refine rw_on (c := (((oneC 1 3 10 (-5)).mn) == (-5))) rfl rfl rfl (by first | (rw [hq25]; rfl) | simp [hq25]) ?_
  refine rw_val (v := .pointer (some ⟨g3, 9, none⟩)) (w' := w21) rfl rfl rfl rfl (by simp [go_sem, sEv, sLook, nbeq, i64_w, -List.getD_eq_getElem?_getD, Try.underlying31]) ?_
  refine rw_on (c := (((oneC 1 3 10 (-5)).mn) == (-5))) rfl rfl rfl (by first | (rw [hq25]; rfl) | simp [hq25]) ?_
  refine rw_val (v := .pointer (some ⟨g3, 9 + 3, none⟩)) (w' := w21) rfl rfl rfl rfl (run_as (addr_hist 3 (by omega) _)) ?_
  refine rw_on (c := (((oneC 1 3 10 (-5)).mn) == (-5))) rfl rfl rfl (by first | (rw [hq25]; rfl) | simp [hq25]) ?_
  refine rw_val (v := .int .i64 (atF ((oneC 1 3 10 (-5)).h) 3)) (w' := w21) rfl rfl rfl rfl (by have e0_ := (((hb11.on hb19).keep hk22 (by omega))).cellv (cHA (oneC 1 3 10 (-5)) 3 (by omega)); simp [go_sem, sEv, sLook, nbeq, i64_w, -List.getD_eq_getElem?_getD, e0_]) ?_
  refine rw_on (c := (((oneC 1 3 10 (-5)).mn) == (-5))) rfl rfl rfl (by first | (rw [hq25]; rfl) | simp [hq25]) ?_
  refine rw_val (v := .bool ((atF ((oneC 1 3 10 (-5)).h) 3) == 1)) (w' := w21) rfl rfl rfl rfl (by simp [go_sem, sEv, sLook, nbeq, i64_w, -List.getD_eq_getElem?_getD]) ?_
  refine rw_val (v := .bool ((atF ((oneC 1 3 10 (-5)).h) 3) == 1)) (w' := w21) rfl rfl rfl rfl (by first | (simp [go_sem, sEv, sLook, nbeq, i64_w, -List.getD_eq_getElem?_getD, hq25]; done) | (rw [hq25]; simp [go_sem, sEv, sLook, nbeq, i64_w, -List.getD_eq_getElem?_getD]; done) | (simp [go_sem, sEv, sLook, nbeq, i64_w, -List.getD_eq_getElem?_getD] <;> omega) | (simp [go_sem, sEv, sLook, nbeq, i64_w, -List.getD_eq_getElem?_getD]; intro h_; exact absurd (by omega) h_)) ?_
  refine rw_val (v := .bool ((atF ((oneC 1 3 10 (-5)).h) 3) == 1)) (w' := w21) rfl rfl rfl rfl rfl ?_
  have hq26 : ((atF ((oneC 1 3 10 (-5)).h) 3) == 1) = true := by decide +kernel
  refine rw_on (c := ((atF ((oneC 1 3 10 (-5)).h) 3) == 1)) rfl rfl rfl (by first | (rw [hq26]; rfl) | simp [hq26]) ?_
  refine rw_val (v := .pointer (some ⟨g15, 1, none⟩)) (w' := w21) rfl rfl rfl rfl (by simp [go_sem, sEv, sLook, nbeq, i64_w, -List.getD_eq_getElem?_getD, Try.underlying31]) ?_
  refine rw_on (c := ((atF ((oneC 1 3 10 (-5)).h) 3) == 1)) rfl rfl rfl (by first | (rw [hq26]; rfl) | simp [hq26]) ?_
  refine rw_val (v := .agg #[.int .i64 ((joinC ([(oneC 1 3 10 (-5)), (oneC 0 9 10 7)] : List CL)).hi), .int .u64 ((joinC ([(oneC 1 3 10 (-5)), (oneC 0 9 10 7)] : List CL)).lo)]) (w' := w21) rfl rfl rfl rfl (by have eb_ := hb23; have e0_ := eb_.cellv (v := .int .i64 ((joinC ([(oneC 1 3 10 (-5)), (oneC 0 9 10 7)] : List CL)).hi)) (cA1 (joinC ([(oneC 1 3 10 (-5)), (oneC 0 9 10 7)] : List CL))); have e1_ := eb_.cellv (v := .int .u64 ((joinC ([(oneC 1 3 10 (-5)), (oneC 0 9 10 7)] : List CL)).lo)) (cA2 (joinC ([(oneC 1 3 10 (-5)), (oneC 0 9 10 7)] : List CL))); simp [go_sem, sEv, sLook, nbeq, i64_w, -List.getD_eq_getElem?_getD, e0_, e1_, Try.underlying26]) ?_
  refine rw_on (c := ((atF ((oneC 1 3 10 (-5)).h) 3) == 1)) rfl rfl rfl (by first | (rw [hq26]; rfl) | simp [hq26]) ?_
  refine rw_val (v := .agg #[.int .i64 0, .int .u64 2]) (w' := w21) rfl rfl rfl rfl (by kernel_rfl) ?_
  refine rw_on (c := ((atF ((oneC 1 3 10 (-5)).h) 3) == 1)) rfl rfl rfl (by first | (rw [hq26]; rfl) | simp [hq26]) ?_
  refine rw_val (v := .bool (((joinC ([(oneC 1 3 10 (-5)), (oneC 0 9 10 7)] : List CL)).hi) == 0 && (((joinC ([(oneC 1 3 10 (-5)), (oneC 0 9 10 7)] : List CL)).lo) == 2))) (w' := w21) rfl rfl rfl rfl (by simp [go_sem, sEv, sLook, nbeq, i64_w, -List.getD_eq_getElem?_getD, eqA26]) ?_
  refine rw_val (v := .bool (((joinC ([(oneC 1 3 10 (-5)), (oneC 0 9 10 7)] : List CL)).hi) == 0 && (((joinC ([(oneC 1 3 10 (-5)), (oneC 0 9 10 7)] : List CL)).lo) == 2))) (w' := w21) rfl rfl rfl rfl (by first | (simp [go_sem, sEv, sLook, nbeq, i64_w, -List.getD_eq_getElem?_getD, hq26]; done) | (rw [hq26]; simp [go_sem, sEv, sLook, nbeq, i64_w, -List.getD_eq_getElem?_getD]; done) | (simp [go_sem, sEv, sLook, nbeq, i64_w, -List.getD_eq_getElem?_getD] <;> omega) | (simp [go_sem, sEv, sLook, nbeq, i64_w, -List.getD_eq_getElem?_getD]; intro h_; exact absurd (by omega) h_)) ?_
  refine rw_val (v := .bool (((joinC ([(oneC 1 3 10 (-5)), (oneC 0 9 10 7)] : List CL)).hi) == 0 && (((joinC ([(oneC 1 3 10 (-5)), (oneC 0 9 10 7)] : List CL)).lo) == 2))) (w' := w21) rfl rfl rfl rfl rfl ?_
  have hq27 : (((joinC ([(oneC 1 3 10 (-5)), (oneC 0 9 10 7)] : List CL)).hi) == 0 && (((joinC ([(oneC 1 3 10 (-5)), (oneC 0 9 10 7)] : List CL)).lo) == 2)) = true := by decide +kernel
  refine rw_on (c := (((joinC ([(oneC 1 3 10 (-5)), (oneC 0 9 10 7)] : List CL)).hi) == 0 && (((joinC ([(oneC 1 3 10 (-5)), (oneC 0 9 10 7)] : List CL)).lo) == 2))) rfl rfl rfl (by first | (rw [hq27]; rfl) | simp [hq27]) ?_
  refine rw_val (v := .pointer (some ⟨g15, 5, none⟩)) (w' := w21) rfl rfl rfl rfl (by simp [go_sem, sEv, sLook, nbeq, i64_w, -List.getD_eq_getElem?_getD, Try.underlying31]) ?_
  refine rw_on (c := (((joinC ([(oneC 1 3 10 (-5)), (oneC 0 9 10 7)] : List CL)).hi) == 0 && (((joinC ([(oneC 1 3 10 (-5)), (oneC 0 9 10 7)] : List CL)).lo) == 2))) rfl rfl rfl (by first | (rw [hq27]; rfl) | simp [hq27]) ?_
  refine rw_val (v := .agg #[.int .i64 ((joinC ([(oneC 1 3 10 (-5)), (oneC 0 9 10 7)] : List CL)).t), .int .i64 ((joinC ([(oneC 1 3 10 (-5)), (oneC 0 9 10 7)] : List CL)).src), .int .i64 ((joinC ([(oneC 1 3 10 (-5)), (oneC 0 9 10 7)] : List CL)).seq), .int .i64 ((joinC ([(oneC 1 3 10 (-5)), (oneC 0 9 10 7)] : List CL)).v)]) (w' := w21) rfl rfl rfl rfl (by have eb_ := hb23; have e0_ := eb_.cellv (v := .int .i64 ((joinC ([(oneC 1 3 10 (-5)), (oneC 0 9 10 7)] : List CL)).t)) (cA5 (joinC ([(oneC 1 3 10 (-5)), (oneC 0 9 10 7)] : List CL))); have e1_ := eb_.cellv (v := .int .i64 ((joinC ([(oneC 1 3 10 (-5)), (oneC 0 9 10 7)] : List CL)).src)) (cA6 (joinC ([(oneC 1 3 10 (-5)), (oneC 0 9 10 7)] : List CL))); have e2_ := eb_.cellv (v := .int .i64 ((joinC ([(oneC 1 3 10 (-5)), (oneC 0 9 10 7)] : List CL)).seq)) (cA7 (joinC ([(oneC 1 3 10 (-5)), (oneC 0 9 10 7)] : List CL))); have e3_ := eb_.cellv (v := .int .i64 ((joinC ([(oneC 1 3 10 (-5)), (oneC 0 9 10 7)] : List CL)).v)) (cA8 (joinC ([(oneC 1 3 10 (-5)), (oneC 0 9 10 7)] : List CL))); simp [go_sem, sEv, sLook, nbeq, i64_w, -List.getD_eq_getElem?_getD, e0_, e1_, e2_, e3_, Try.underlying28]) ?_
  refine rw_on (c := (((joinC ([(oneC 1 3 10 (-5)), (oneC 0 9 10 7)] : List CL)).hi) == 0 && (((joinC ([(oneC 1 3 10 (-5)), (oneC 0 9 10 7)] : List CL)).lo) == 2))) rfl rfl rfl (by first | (rw [hq27]; rfl) | simp [hq27]) ?_
  refine rw_val (v := .agg #[.int .i64 10, .int .i64 1, .int .i64 3, .int .i64 (-5)]) (w' := w21) rfl rfl rfl rfl (by kernel_rfl) ?_
  refine rw_on (c := (((joinC ([(oneC 1 3 10 (-5)), (oneC 0 9 10 7)] : List CL)).hi) == 0 && (((joinC ([(oneC 1 3 10 (-5)), (oneC 0 9 10 7)] : List CL)).lo) == 2))) rfl rfl rfl (by first | (rw [hq27]; rfl) | simp [hq27]) ?_
  refine rw_val (v := .bool (((joinC ([(oneC 1 3 10 (-5)), (oneC 0 9 10 7)] : List CL)).t) == 10 && (((joinC ([(oneC 1 3 10 (-5)), (oneC 0 9 10 7)] : List CL)).src) == 1 && (((joinC ([(oneC 1 3 10 (-5)), (oneC 0 9 10 7)] : List CL)).seq) == 3 && (((joinC ([(oneC 1 3 10 (-5)), (oneC 0 9 10 7)] : List CL)).v) == (-5)))))) (w' := w21) rfl rfl rfl rfl (by simp [go_sem, sEv, sLook, nbeq, i64_w, -List.getD_eq_getElem?_getD, eqA28]) ?_
  refine rw_val (v := .bool (((joinC ([(oneC 1 3 10 (-5)), (oneC 0 9 10 7)] : List CL)).t) == 10 && (((joinC ([(oneC 1 3 10 (-5)), (oneC 0 9 10 7)] : List CL)).src) == 1 && (((joinC ([(oneC 1 3 10 (-5)), (oneC 0 9 10 7)] : List CL)).seq) == 3 && (((joinC ([(oneC 1 3 10 (-5)), (oneC 0 9 10 7)] : List CL)).v) == (-5)))))) (w' := w21) rfl rfl rfl rfl (by first | (simp [go_sem, sEv, sLook, nbeq, i64_w, -List.getD_eq_getElem?_getD, hq27]; done) | (rw [hq27]; simp [go_sem, sEv, sLook, nbeq, i64_w, -List.getD_eq_getElem?_getD]; done) | (simp [go_sem, sEv, sLook, nbeq, i64_w, -List.getD_eq_getElem?_getD] <;> omega) | (simp [go_sem, sEv, sLook, nbeq, i64_w, -List.getD_eq_getElem?_getD]; intro h_; exact absurd (by omega) h_)) ?_
  refine rw_val (v := .bool (((joinC ([(oneC 1 3 10 (-5)), (oneC 0 9 10 7)] : List CL)).t) == 10 && (((joinC ([(oneC 1 3 10 (-5)), (oneC 0 9 10 7)] : List CL)).src) == 1 && (((joinC ([(oneC 1 3 10 (-5)), (oneC 0 9 10 7)] : List CL)).seq) == 3 && (((joinC ([(oneC 1 3 10 (-5)), (oneC 0 9 10 7)] : List CL)).v) == (-5)))))) (w' := w21) rfl rfl rfl rfl rfl ?_
  have hq28 : (((joinC ([(oneC 1 3 10 (-5)), (oneC 0 9 10 7)] : List CL)).t) == 10 && (((joinC ([(oneC 1 3 10 (-5)), (oneC 0 9 10 7)] : List CL)).src) == 1 && (((joinC ([(oneC 1 3 10 (-5)), (oneC 0 9 10 7)] : List CL)).seq) == 3 && (((joinC ([(oneC 1 3 10 (-5)), (oneC 0 9 10 7)] : List CL)).v) == (-5))))) = true := by decide +kernel
  refine rw_on (c := (((joinC ([(oneC 1 3 10 (-5)), (oneC 0 9 10 7)] : List CL)).t) == 10 && (((joinC ([(oneC 1 3 10 (-5)), (oneC 0 9 10 7)] : List CL)).src) == 1 && (((joinC ([(oneC 1 3 10 (-5)), (oneC 0 9 10 7)] : List CL)).seq) == 3 && (((joinC ([(oneC 1 3 10 (-5)), (oneC 0 9 10 7)] : List CL)).v) == (-5)))))) rfl rfl rfl (by first | (rw [hq28]; rfl) | simp [hq28]) ?_
  refine rw_val (v := .pointer (some ⟨g15, 9, none⟩)) (w' := w21) rfl rfl rfl rfl (by simp [go_sem, sEv, sLook, nbeq, i64_w, -List.getD_eq_getElem?_getD, Try.underlying31]) ?_
  refine rw_on (c := (((joinC ([(oneC 1 3 10 (-5)), (oneC 0 9 10 7)] : List CL)).t) == 10 && (((joinC ([(oneC 1 3 10 (-5)), (oneC 0 9 10 7)] : List CL)).src) == 1 && (((joinC ([(oneC 1 3 10 (-5)), (oneC 0 9 10 7)] : List CL)).seq) == 3 && (((joinC ([(oneC 1 3 10 (-5)), (oneC 0 9 10 7)] : List CL)).v) == (-5)))))) rfl rfl rfl (by first | (rw [hq28]; rfl) | simp [hq28]) ?_
  refine rw_val (v := .pointer (some ⟨g15, 9 + 3, none⟩)) (w' := w21) rfl rfl rfl rfl (run_as (addr_hist 3 (by omega) _)) ?_
  refine rw_on (c := (((joinC ([(oneC 1 3 10 (-5)), (oneC 0 9 10 7)] : List CL)).t) == 10 && (((joinC ([(oneC 1 3 10 (-5)), (oneC 0 9 10 7)] : List CL)).src) == 1 && (((joinC ([(oneC 1 3 10 (-5)), (oneC 0 9 10 7)] : List CL)).seq) == 3 && (((joinC ([(oneC 1 3 10 (-5)), (oneC 0 9 10 7)] : List CL)).v) == (-5)))))) rfl rfl rfl (by first | (rw [hq28]; rfl) | simp [hq28]) ?_
  refine rw_val (v := .int .i64 (atF ((joinC ([(oneC 1 3 10 (-5)), (oneC 0 9 10 7)] : List CL)).h) 3)) (w' := w21) rfl rfl rfl rfl (by have e0_ := (hb23).cellv (cHA (joinC ([(oneC 1 3 10 (-5)), (oneC 0 9 10 7)] : List CL)) 3 (by omega)); simp [go_sem, sEv, sLook, nbeq, i64_w, -List.getD_eq_getElem?_getD, e0_]) ?_
  refine rw_on (c := (((joinC ([(oneC 1 3 10 (-5)), (oneC 0 9 10 7)] : List CL)).t) == 10 && (((joinC ([(oneC 1 3 10 (-5)), (oneC 0 9 10 7)] : List CL)).src) == 1 && (((joinC ([(oneC 1 3 10 (-5)), (oneC 0 9 10 7)] : List CL)).seq) == 3 && (((joinC ([(oneC 1 3 10 (-5)), (oneC 0 9 10 7)] : List CL)).v) == (-5)))))) rfl rfl rfl (by first | (rw [hq28]; rfl) | simp [hq28]) ?_
  refine rw_val (v := .bool ((atF ((joinC ([(oneC 1 3 10 (-5)), (oneC 0 9 10 7)] : List CL)).h) 3) == 2)) (w' := w21) rfl rfl rfl rfl (by simp [go_sem, sEv, sLook, nbeq, i64_w, -List.getD_eq_getElem?_getD]) ?_
  refine rw_val (v := .bool ((atF ((joinC ([(oneC 1 3 10 (-5)), (oneC 0 9 10 7)] : List CL)).h) 3) == 2)) (w' := w21) rfl rfl rfl rfl (by first | (simp [go_sem, sEv, sLook, nbeq, i64_w, -List.getD_eq_getElem?_getD, hq28]; done) | (rw [hq28]; simp [go_sem, sEv, sLook, nbeq, i64_w, -List.getD_eq_getElem?_getD]; done) | (simp [go_sem, sEv, sLook, nbeq, i64_w, -List.getD_eq_getElem?_getD] <;> omega) | (simp [go_sem, sEv, sLook, nbeq, i64_w, -List.getD_eq_getElem?_getD]; intro h_; exact absurd (by omega) h_)) ?_
  refine rw_val (v := .bool ((atF ((joinC ([(oneC 1 3 10 (-5)), (oneC 0 9 10 7)] : List CL)).h) 3) == 2)) (w' := w21) rfl rfl rfl rfl rfl ?_
  refine rw_end ?_
  refine w_weaken (G' := [(0, .bool ((atF ((joinC ([(oneC 1 3 10 (-5)), (oneC 0 9 10 7)] : List CL)).h) 3) == 2))]) ⟨rfl, trivial⟩ ?_
  have hq29 : ((atF ((joinC ([(oneC 1 3 10 (-5)), (oneC 0 9 10 7)] : List CL)).h) 3) == 2) = true := by decide +kernel
  refine w_ret (post_ret1 rfl rfl ?_)
  exact ⟨by rw [show ((atF ((joinC ([(oneC 1 3 10 (-5)), (oneC 0 9 10 7)] : List CL)).h) 3) == 2) = true from hq29], (hk22.below (by omega) (chain (hk10.below (by omega) (chain hb2 hb5)) hb19))⟩
end Go.Proofs.Ytheaipbnbnjlgaa.Ce
