/- Order and groups don't matter: the law's walk. -/
import Derived.Test.YtheaipbnbnjlgaaCeGroups
namespace Go.Proofs.Ytheaipbnbnjlgaa.Ce
open Go.RowKit Go.Proofs.YtheaipbnbnjlgaaW.PrintWords Go.Proofs.YtheaipbnbnjlgaaW.PrintLast Go.Proofs.YtheaipbnbnjlgaaW.PrintMore
open Go.Proofs.Ytheaipbnbnjlgaa.Flow
set_option linter.unusedVariables false
set_option linter.unusedSimpArgs false

set_option maxHeartbeats 4000000 in
theorem walkGroups (w : World) (A1 A2 : Option Addr) (c1 c2 : Nat) (l : List Smp) (ks : List Int) (hl : kSample.C w A1 l.length l) (hc : l.length ≤ c1) (hk : (Kd.int .i64).C w A2 ks.length ks) (hck : ks.length ≤ c2) (hln : l.length ≤ 140737488355328) (hv : VOk l) :
    Calls Try.prog 4 #[.slice A1 l.length c1, .slice A2 ks.length c2] w fun e w' => e = .returned (.bool true) ∧ Below w.heap.size w w' := by
  refine calls_flow Try.func4 rfl 113 rfl (Nat.le_of_ble_eq_true rfl) [(0, .slice A1 l.length c1), (1, .slice A2 ks.length c2)] ?_ ?_
  · intro t v h; exact args_look rfl t v h
  refine w_seq ?_
  refine w_region ?_
  refine rw_val (v := .bool false) (w' := w) rfl rfl rfl rfl rfl ?_
  refine rw_end ?_
  refine w_seq ?_
  refine w_seq ?_
  refine w_region ?_
  refine rw_call rfl rfl rfl rfl (f := 10) (args := #[]) (by simp [go_sem, sEv, sLook, nbeq, i64_w, -List.getD_eq_getElem?_getD]) (alive_calls w) ?_
  rintro e_ w1 ⟨rfl, hb2⟩
  refine ⟨_, rfl, ?_⟩
  have hs_w1 := hb2.size
  refine rw_val (v := .bool false) (w' := w1) rfl rfl rfl rfl (by simp [go_sem, sEv, sLook, nbeq, i64_w, -List.getD_eq_getElem?_getD]) ?_
  refine rw_end ?_
  refine w_cond_f rfl rfl rfl ?_
  refine w_skip ?_
  refine w_seq ?_
  refine w_seq ?_
  refine w_region ?_
  refine rw_val (v := .slice A1 l.length c1) (w' := w1) rfl rfl rfl rfl rfl ?_
  refine rw_val (v := .int .i64 ((l.length : Nat) : Int)) (w' := w1) rfl rfl rfl rfl (by simp [go_sem, sEv, sLook, nbeq, i64_w, -List.getD_eq_getElem?_getD]) ?_
  refine rw_val (v := .bool (decide (1000 < ((l.length : Nat) : Int)))) (w' := w1) rfl rfl rfl rfl (by simp [go_sem, sEv, sLook, nbeq, i64_w, -List.getD_eq_getElem?_getD]) ?_
  refine rw_val (v := .bool (decide (1000 < ((l.length : Nat) : Int)))) (w' := w1) rfl rfl rfl rfl rfl ?_
  rcases bcase (decide (1000 < ((l.length : Nat) : Int))) with cN | cN
  · have l3 : ¬ (1000 < ((l.length : Nat) : Int)) := of_decide_eq_false cN
    refine rw_on (c := decide (1000 < ((l.length : Nat) : Int))) rfl rfl rfl (by first | (rw [cN]; rfl) | simp [cN]) ?_
    refine rw_val (v := .slice A2 ks.length c2) (w' := w1) rfl rfl rfl rfl rfl ?_
    refine rw_on (c := decide (1000 < ((l.length : Nat) : Int))) rfl rfl rfl (by first | (rw [cN]; rfl) | simp [cN]) ?_
    refine rw_val (v := .int .i64 ((ks.length : Nat) : Int)) (w' := w1) rfl rfl rfl rfl (by simp [go_sem, sEv, sLook, nbeq, i64_w, -List.getD_eq_getElem?_getD]) ?_
    refine rw_on (c := decide (1000 < ((l.length : Nat) : Int))) rfl rfl rfl (by first | (rw [cN]; rfl) | simp [cN]) ?_
    refine rw_val (v := .bool (decide (20 < ((ks.length : Nat) : Int)))) (w' := w1) rfl rfl rfl rfl (by simp [go_sem, sEv, sLook, nbeq, i64_w, -List.getD_eq_getElem?_getD]) ?_
    refine rw_val (v := .bool (decide (20 < ((ks.length : Nat) : Int)))) (w' := w1) rfl rfl rfl rfl (by first | (simp [go_sem, sEv, sLook, nbeq, i64_w, -List.getD_eq_getElem?_getD, cN]; done) | (rw [cN]; simp [go_sem, sEv, sLook, nbeq, i64_w, -List.getD_eq_getElem?_getD]; done) | (simp [go_sem, sEv, sLook, nbeq, i64_w, -List.getD_eq_getElem?_getD] <;> omega) | (simp [go_sem, sEv, sLook, nbeq, i64_w, -List.getD_eq_getElem?_getD]; intro h_; exact absurd (by omega) h_)) ?_
    refine rw_end ?_
    refine w_weaken (G' := [(0, .slice A1 l.length c1), (1, .slice A2 ks.length c2), (4, .bool false), (25, .bool (decide (20 < ((ks.length : Nat) : Int))))]) ⟨rfl, rfl, rfl, rfl, trivial⟩ ?_
    refine w_cond rfl rfl (fun cM => ?_) (fun cM => ?_)
    · have l4 : (20 < ((ks.length : Nat) : Int)) := of_decide_eq_true cM
      refine w_seq ?_
      refine w_region ?_
      refine rw_val (v := .bool true) (w' := w1) rfl rfl rfl rfl rfl ?_
      refine rw_end ?_
      refine w_ret (post_ret1 rfl rfl ?_)
      exact ⟨rfl, hb2⟩
    · have l5 : ¬ (20 < ((ks.length : Nat) : Int)) := of_decide_eq_false cM
      refine w_skip ?_
      refine w_seq ?_
      refine w_region ?_
      refine rw_val (v := .slice A1 l.length c1) (w' := w1) rfl rfl rfl rfl rfl ?_
      refine rw_call rfl rfl rfl rfl (f := 12) (args := #[.slice A1 l.length c1]) (by simp [go_sem, sEv, sLook, nbeq, i64_w, -List.getD_eq_getElem?_getD]) (cells_calls w1 A1 c1 l (Kd.C_below hl hb2) hc (by omega) hv) ?_
      rintro e_ w8 ⟨A6, c7, rfl, hO9, hB10⟩
      refine ⟨_, rfl, ?_⟩
      have hs_w8 := hB10.size
      have hL11 : OwnK kCell 31 w8 w.heap.size w1.heap.size A6 (cellsC l).length c7 (cellsC l) := OwnK.lower hO9 (by omega)
      refine rw_val (v := .slice A6 ((cellsC l).length) c7) (w' := w8) rfl rfl rfl rfl rfl ?_
      refine rw_end ?_
      refine w_seq ?_
      refine w_region ?_
      refine rw_val (v := .slice A6 ((cellsC l).length) c7) (w' := w8) rfl rfl rfl rfl rfl ?_
      have hoc_ := hL11
      have hbo_ := (chain hb2 hB10)
      refine rw_call rfl rfl rfl rfl (f := 11) (args := #[.slice A6 ((cellsC l).length) c7]) (by simp [go_sem, sEv, sLook, nbeq, i64_w, -List.getD_eq_getElem?_getD]) (join_on w8 A6 c7 (cellsC l) l rfl (OwnK.C (d := kCell) hoc_) (OwnK.cap (d := kCell) hoc_) (by rw [cells_len2]; omega)) ?_
      rintro e_ w ⟨rfl, hbj_⟩
      refine ⟨_, rfl, ?_⟩
      have hb00 := chain hbo_ hbj_
      have hk := Kd.C_below hk hb00
      have hcap_ := OwnK.cap (d := kCell) hoc_
      have hcc := Kd.C_below (OwnK.C (d := kCell) hoc_) hbj_
      have hcl_ := cells_len2 l
      refine rw_new (cs := carr CL.unit) (t := 31) (fun g => .pointer (some ⟨g, 0, none⟩)) rfl rfl rfl rfl (by kernel_rfl) ?_
      intro g12 w13 hg17 hz16 hb14 hk15
      have hs_w13 := hb14.size
      refine rw_seg (g := g12) (off := 0) (ty := 31) (p := .tmp 6) (x := .tmp 29) (v := .agg (carr (foldC l))) (cs' := carr (foldC l)) rfl rfl rfl rfl rfl rfl hk15 (by show (sizeOf 31).run _ _ = .ok (carr _).size _; rw [carr_size]; kernel_rfl) (Nat.le_of_eq (by rw [Nat.zero_add]; exact (carr_size _).trans (carr_size _).symm)) (encC_one _) (seg_all CL.unit (foldC l)) ?_
      intro w18 hk19 hb20
      have hs_w18 := hk19.size
      refine rw_end ?_
      refine w_weaken (G' := [(1, .slice A2 ks.length c2), (4, .bool false), (5, .slice A6 ((cellsC l).length) c7), (6, .pointer (some ⟨g12, 0, none⟩))]) ⟨rfl, rfl, rfl, rfl, trivial⟩ ?_
      refine w_seq ?_
      refine w_region ?_
      refine rw_call rfl rfl rfl rfl (f := 14) (args := #[]) (by simp [go_sem, sEv, sLook, nbeq, i64_w, -List.getD_eq_getElem?_getD]) (unit_calls w18) ?_
      rintro e_ w21 ⟨rfl, hb22⟩
      refine ⟨_, rfl, ?_⟩
      have hs_w21 := hb22.size
      refine rw_new (cs := carr CL.unit) (t := 31) (fun g => .pointer (some ⟨g, 0, none⟩)) rfl rfl rfl rfl (by kernel_rfl) ?_
      intro g23 w24 hg28 hz27 hb25 hk26
      have hs_w24 := hb25.size
      refine rw_seg (g := g23) (off := 0) (ty := 31) (p := .tmp 7) (x := .tmp 30) (v := .agg (carr CL.unit)) (cs' := carr CL.unit) rfl rfl rfl rfl rfl rfl hk26 (by show (sizeOf 31).run _ _ = .ok (carr _).size _; rw [carr_size]; kernel_rfl) (Nat.le_of_eq (by rw [Nat.zero_add]; exact (carr_size _).trans (carr_size _).symm)) (encC_one _) (seg_all CL.unit CL.unit) ?_
      intro w29 hk30 hb31
      have hs_w29 := hk30.size
      refine rw_end ?_
      refine w_seq ?_
      refine w_seq ?_
      refine w_region ?_
      refine rw_val (v := .slice A6 ((cellsC l).length) c7) (w' := w29) rfl rfl rfl rfl rfl ?_
      refine rw_val (v := .int .i64 (((cellsC l).length : Nat) : Int)) (w' := w29) rfl rfl rfl rfl (by simp [go_sem, sEv, sLook, nbeq, i64_w, -List.getD_eq_getElem?_getD]) ?_
      refine rw_val (v := .int .i64 ((((cellsC l).length : Nat) : Int) - 1)) (w' := w29) rfl rfl rfl rfl (by simp [go_sem, sEv, sLook, nbeq, i64_w, -List.getD_eq_getElem?_getD]; exact wrap_id (by omega) (by omega)) ?_
      refine rw_val (v := .int .i64 ((((cellsC l).length : Nat) : Int) - 1)) (w' := w29) rfl rfl rfl rfl rfl ?_
      refine rw_end ?_
      refine w_weaken (G' := [(1, .slice A2 ks.length c2), (4, .bool false), (5, .slice A6 ((cellsC l).length) c7), (6, .pointer (some ⟨g12, 0, none⟩)), (7, .pointer (some ⟨g23, 0, none⟩)), (8, .int .i64 ((((cellsC l).length : Nat) : Int) - 1))]) ⟨rfl, rfl, rfl, rfl, rfl, rfl, trivial⟩ ?_
      refine w_block ?_
      refine w_loop (fun m_ G W_ => ∃ (k : Nat), m_ = k ∧ k ≤ l.length ∧ Below w.heap.size w W_ ∧ (Blk W_ g23 31 (carr (foldC (l.drop k)))) ∧ (Blk W_ g12 31 (carr (foldC l))) ∧ G = [(1, .slice A2 ks.length c2), (5, .slice A6 ((cellsC l).length) c7), (6, .pointer (some ⟨g12, 0, none⟩)), (7, .pointer (some ⟨g23, 0, none⟩)), (8, .int .i64 (((k : Nat) : Int) - 1))]) ((cellsC l).length) [(1, .slice A2 ks.length c2), (5, .slice A6 ((cellsC l).length) c7), (6, .pointer (some ⟨g12, 0, none⟩)), (7, .pointer (some ⟨g23, 0, none⟩)), (8, .int .i64 ((((cellsC l).length : Nat) : Int) - 1))] ⟨((cellsC l).length), by omega, by omega, (hk30.below (by omega) (chain (chain (hk19.below (by omega) hb14) hb22) hb25)), (by rw [hcl_, List.drop_length]; exact hb31), (((hb20.on hb22).on hb25).keep hk30 (by omega)), rfl⟩ ⟨rfl, rfl, rfl, rfl, rfl, trivial⟩ ?_
      rintro m_ G w_L32 ⟨k, hp33, hp34, hB_L32, hf35, hf36, rfl⟩
      have hs_w_L32 := hB_L32.size
      have hlt7_ := hf35.lt
      have hlt6_ := hf36.lt
      refine w_seq ?_
      refine w_seq ?_
      refine w_region ?_
      refine rw_val (v := .int .i64 (((k : Nat) : Int) - 1)) (w' := w_L32) rfl rfl rfl rfl rfl ?_
      refine rw_val (v := .bool (decide (0 ≤ (((k : Nat) : Int) - 1)))) (w' := w_L32) rfl rfl rfl rfl (by simp [go_sem, sEv, sLook, nbeq, i64_w, -List.getD_eq_getElem?_getD]) ?_
      refine rw_end ?_
      refine w_cond rfl rfl (fun cK => ?_) (fun cK => ?_)
      · have l37 : (0 ≤ (((k : Nat) : Int) - 1)) := of_decide_eq_true cK
        refine w_skip ?_
        refine w_seq ?_
        refine w_block ?_
        obtain ⟨ad38, hA39, hc40⟩ := flat_at (Kd.C_below hcc hB_L32) CL.unit (k - 1) (by first | omega | decide)
        subst hA39
        refine w_drawk (M := [0, 0, 0, 6, 14, 31, 63, 127]) (ss := [Is (.agg (carr (foldC (l.drop k)))), Is (.slice (some ad38) ((cellsC l).length) c7), Is (.int .i64 (((k - 1) : Nat) : Int)), Is (.pointer (some (ad38.add ((k - 1) * 74)))), Is (.agg (carr ((cellsC l).getD (k - 1) CL.unit)))]) 5 rfl (by decide +kernel) ?_
        refine t_is (.agg (carr (foldC (l.drop k)))) rfl rfl rfl rfl (fun W_ hW_ F_ => (run_as (load_cell (c := (foldC (l.drop k))) (hf35.on (below_of_drew hW_))))) ?_
        refine t_is (.slice (some ad38) ((cellsC l).length) c7) rfl rfl rfl rfl (fun W_ hW_ F_ => rfl) ?_
        refine t_is (.int .i64 (((k - 1) : Nat) : Int)) rfl rfl rfl rfl (fun W_ hW_ F_ => (by simp [go_sem, sEv, sLook, nbeq, i64_w, -List.getD_eq_getElem?_getD]; omega)) ?_
        refine t_is (.pointer (some (ad38.add ((k - 1) * 74)))) rfl rfl rfl rfl (fun W_ hW_ F_ => (run_as (run_at_k (P := Try.prog) (e := 31) (sz := 74) (by kernel_rfl) (by kernel_rfl) (k - 1) (by first | omega | decide) _))) ?_
        refine t_is (.agg (carr ((cellsC l).getD (k - 1) CL.unit))) rfl rfl rfl rfl (fun W_ hW_ F_ => (run_as (load_el (c := ((cellsC l).getD (k - 1) CL.unit)) (fun j u hj => cellOn (hc40 j u hj) (chain (Below.refl _ _) (below_of_drew hW_)))))) ?_
        refine t_tail ?_
        intro w41 hb42_ F43
        have hb42 := below_of_drew hb42_
        have hs_w41 := hb42.size
        refine rw_new (cs := (encC (foldC (l.drop k)) ++ encC ((cellsC l).getD (k - 1) CL.unit) : List Value).toArray) (t := 31) (fun g => .slice (some ⟨g, 0, none⟩) 2 2) rfl rfl rfl rfl (by kernel_rfl) ?_
        intro g44 w45 hg49 hz48 hb46 hk47
        have hs_w45 := hb46.size
        have hk47r : OwnK kCell 31 w45 w.heap.size g44 (some ⟨g44, 0, none⟩) 2 2 ([(foldC (l.drop k)), ((cellsC l).getD (k - 1) CL.unit)] : List CL) := flat_own (enc := encC) (hl1 := encC_len) (h1 := encC_one) (xs := ([(foldC (l.drop k)), ((cellsC l).getD (k - 1) CL.unit)] : List CL)) (cap := 2) w.heap.size hk47 (by omega) (by simp) rfl (by simp) (by simp)
        have eq_ : joinC ([(foldC (l.drop k)), ((cellsC l).getD (k - 1) CL.unit)] : List CL) = (foldC (l.drop (k - 1))) := back_stepK l k (by omega) (by omega) (by omega) hv
        have lo_ : ∀ c ∈ ([(foldC (l.drop k)), ((cellsC l).getD (k - 1) CL.unit)] : List CL), LoOk c := by
          intro c hc; simp only [List.mem_cons, List.not_mem_nil, or_false] at hc
          rcases hc with rfl | rfl
          · exact fold_lo _
          · exact el_lo _ _ (cells_lo l) (by omega)
        refine rw_call rfl rfl rfl rfl (f := 11) (args := #[.slice (some ⟨g44, 0, none⟩) 2 2]) (by simp [go_sem, sEv, sLook, nbeq, i64_w, -List.getD_eq_getElem?_getD]) (join_calls w45 (some ⟨g44, 0, none⟩) 2 ([(foldC (l.drop k)), ((cellsC l).getD (k - 1) CL.unit)] : List CL) (OwnK.C (d := kCell) hk47r) (by simp) (by simp) lo_) ?_
        rintro e_ w50 ⟨rfl, hb51⟩
        refine ⟨.agg (carr (joinC ([(foldC (l.drop k)), ((cellsC l).getD (k - 1) CL.unit)] : List CL))), rfl, ?_⟩
        rw [eq_]
        have hs_w50 := hb51.size
        refine rw_seg (g := g23) (off := 0) (ty := 31) (p := .tmp 7) (x := .tmp 44) (v := .agg (carr (foldC (l.drop (k - 1))))) (cs' := carr (foldC (l.drop (k - 1)))) rfl rfl rfl rfl rfl rfl (((hf35.on hb42).on hb46).on hb51) (by show (sizeOf 31).run _ _ = .ok (carr _).size _; rw [carr_size]; kernel_rfl) (Nat.le_of_eq (by rw [Nat.zero_add]; exact (carr_size _).trans (carr_size _).symm)) (encC_one _) (seg_all (foldC (l.drop k)) (foldC (l.drop (k - 1)))) ?_
        intro w52 hk53 hb54
        have hs_w52 := hk53.size
        refine rw_end ?_
        refine w_weaken (G' := [(1, .slice A2 ks.length c2), (5, .slice (some ad38) ((cellsC l).length) c7), (6, .pointer (some ⟨g12, 0, none⟩)), (7, .pointer (some ⟨g23, 0, none⟩)), (8, .int .i64 (((k : Nat) : Int) - 1))]) ⟨rfl, rfl, rfl, rfl, rfl, trivial⟩ ?_
        refine w_blk ?_
        refine w_region ?_
        refine rw_val (v := .int .i64 (((k : Nat) : Int) - 1)) (w' := w52) rfl rfl rfl rfl rfl ?_
        refine rw_val (v := .int .i64 (((k - 1 : Nat) : Int) - 1)) (w' := w52) rfl rfl rfl rfl (by simp [go_sem, sEv, sLook, nbeq, i64_w, -List.getD_eq_getElem?_getD]; rw [wrap_id (by omega) (by omega)]; omega) ?_
        refine rw_val (v := .int .i64 (((k - 1 : Nat) : Int) - 1)) (w' := w52) rfl rfl rfl rfl rfl ?_
        refine rw_end ?_
        exact w_back (m_ - 1) [(1, .slice A2 ks.length c2), (5, .slice (some ad38) ((cellsC l).length) c7), (6, .pointer (some ⟨g12, 0, none⟩)), (7, .pointer (some ⟨g23, 0, none⟩)), (8, .int .i64 ((((k - 1) : Nat) : Int) - 1))] (by omega) ⟨rfl, rfl, rfl, rfl, rfl, trivial⟩ ⟨(k - 1), by omega, by omega, (hk53.below (by omega) (chain (chain (chain hB_L32 hb42) hb46) hb51)), hb54, ((((hf36.on hb42).on hb46).on hb51).keep hk53 (by omega)), rfl⟩
      · have l55 : ¬ (0 ≤ (((k : Nat) : Int) - 1)) := of_decide_eq_false cK
        refine w_exit rfl ?_
        refine w_seq ?_
        refine w_region ?_
        refine rw_new (cs := #[]) (t := 31) (fun g => .slice (some ⟨g, 0, none⟩) 0 0) rfl rfl rfl rfl (by kernel_rfl) ?_
        intro g56 w57 hg61 hz60 hb58 hk59
        have hs_w57 := hb58.size
        have hk59r : OwnK kCell 31 w57 w.heap.size g56 (some ⟨g56, 0, none⟩) 0 0 ([] : List CL) := lit_nilK kCell w.heap.size hk59 (by omega)
        refine rw_val (v := .slice (some ⟨g56, 0, none⟩) 0 0) (w' := w57) rfl rfl rfl rfl rfl ?_
        refine rw_end ?_
        refine w_seq ?_
        refine w_region ?_
        refine rw_val (v := .int .i64 0) (w' := w57) rfl rfl rfl rfl rfl ?_
        refine rw_end ?_
        refine w_seq ?_
        refine w_seq ?_
        refine w_region ?_
        refine rw_val (v := .slice A2 ks.length c2) (w' := w57) rfl rfl rfl rfl rfl ?_
        refine rw_val (v := .int .i64 ((ks.length : Nat) : Int)) (w' := w57) rfl rfl rfl rfl (by simp [go_sem, sEv, sLook, nbeq, i64_w, -List.getD_eq_getElem?_getD]) ?_
        refine rw_val (v := .int .i64 0) (w' := w57) rfl rfl rfl rfl rfl ?_
        refine rw_end ?_
        refine w_block ?_
        refine w_loop (fun m_ G W_ => ∃ (j : Nat) (p : Nat) (sg : List (List Smp)) (A9_ : Option Addr) (c9_ : Nat), j + m_ = ks.length ∧ p ≤ l.length ∧ Below w.heap.size w W_ ∧ OwnK kCell 31 W_ w.heap.size g56 A9_ (sg.map foldC).length c9_ (sg.map foldC) ∧ (sg.flatten = l.take p) ∧ (sg.length = j) ∧ (Blk W_ g12 31 (carr (foldC l))) ∧ (Blk W_ g23 31 (carr (foldC (l.drop k)))) ∧ (g56 ≤ W_.heap.size) ∧ G = [(5, .slice A6 ((cellsC l).length) c7), (6, .pointer (some ⟨g12, 0, none⟩)), (7, .pointer (some ⟨g23, 0, none⟩)), (9, .slice A9_ ((sg.map foldC).length) c9_), (10, .int .i64 ((p : Nat) : Int)), (46, .slice A2 ks.length c2), (47, .int .i64 ((ks.length : Nat) : Int)), (48, .int .i64 ((j : Nat) : Int))]) ks.length [(5, .slice A6 ((cellsC l).length) c7), (6, .pointer (some ⟨g12, 0, none⟩)), (7, .pointer (some ⟨g23, 0, none⟩)), (9, .slice (some ⟨g56, 0, none⟩) (([].map foldC).length) 0), (10, .int .i64 0), (46, .slice A2 ks.length c2), (47, .int .i64 ((ks.length : Nat) : Int)), (48, .int .i64 0)] ⟨0, 0, [], (some ⟨g56, 0, none⟩), 0, by omega, by omega, (chain hB_L32 hb58), (OwnK.mono (d := kCell) hk59r (by omega)), rfl, rfl, (hf36.on hb58), (hf35.on hb58), (by omega), rfl⟩ ⟨rfl, rfl, rfl, rfl, rfl, rfl, rfl, rfl, trivial⟩ ?_
        rintro m_ G w_L62 ⟨j, p, sg, A9_, c9_, hp63, hp64, hB_L62, hO9_, hf65, hf66, hf67, hf68, hf69, rfl⟩
        have hs_w_L62 := hB_L62.size
        have hsl_ := hf66
        refine w_seq ?_
        refine w_region ?_
        refine rw_val (v := .bool (decide (((j : Nat) : Int) < ((ks.length : Nat) : Int)))) (w' := w_L62) rfl rfl rfl rfl (by simp [go_sem, sEv, sLook, nbeq, i64_w, -List.getD_eq_getElem?_getD]) ?_
        refine rw_end ?_
        refine w_seq ?_
        refine w_cond rfl rfl (fun cJ => ?_) (fun cJ => ?_)
        · have l70 : (((j : Nat) : Int) < ((ks.length : Nat) : Int)) := of_decide_eq_true cJ
          refine w_skip ?_
          refine w_seq ?_
          refine w_block ?_
          refine w_seq ?_
          refine w_region ?_
          obtain ⟨ad71, hA72, hc73⟩ := int_at (Kd.C_below hk hB_L62) 0 j (by first | omega | decide)
          subst hA72
          have he74 : w_L62.cell? (ad71.add (j)) = some (.int .i64 (ks.getD j 0)) := cell_0 (hc73 0 _ rfl)
          refine rw_val (v := .pointer (some (ad71.add (j)))) (w' := w_L62) rfl rfl rfl rfl (run_as (run_at_1 (P := Try.prog) (e := 3) (by kernel_rfl) (by kernel_rfl) j (by first | omega | decide) _)) ?_
          refine rw_val (v := .int .i64 (ks.getD j 0)) (w' := w_L62) rfl rfl rfl rfl (by have e0_ := cellOn he74 (Below.refl _ _); simp [go_sem, sEv, sLook, nbeq, i64_w, -List.getD_eq_getElem?_getD, e0_]) ?_
          refine rw_val (v := .int .i64 (ks.getD j 0)) (w' := w_L62) rfl rfl rfl rfl rfl ?_
          refine rw_end ?_
          refine w_seq ?_
          refine w_region ?_
          refine rw_val (v := .int .i64 ((p : Nat) : Int)) (w' := w_L62) rfl rfl rfl rfl rfl ?_
          refine rw_val (v := .int .i64 (ks.getD j 0)) (w' := w_L62) rfl rfl rfl rfl rfl ?_
          refine rw_val (v := .int .u64 (IntKind.u64.wrap ((ks.getD j 0)))) (w' := w_L62) rfl rfl rfl rfl (by simp [go_sem, sEv, sLook, nbeq, i64_w, -List.getD_eq_getElem?_getD, Try.underlying3, Try.underlying24]) ?_
          refine rw_val (v := .slice A6 ((cellsC l).length) c7) (w' := w_L62) rfl rfl rfl rfl rfl ?_
          refine rw_val (v := .int .i64 (((cellsC l).length : Nat) : Int)) (w' := w_L62) rfl rfl rfl rfl (by simp [go_sem, sEv, sLook, nbeq, i64_w, -List.getD_eq_getElem?_getD]) ?_
          refine rw_val (v := .int .i64 ((p : Nat) : Int)) (w' := w_L62) rfl rfl rfl rfl rfl ?_
          refine rw_val (v := .int .i64 ((((cellsC l).length : Nat) : Int) - ((p : Nat) : Int))) (w' := w_L62) rfl rfl rfl rfl (by simp [go_sem, sEv, sLook, nbeq, i64_w, -List.getD_eq_getElem?_getD]; exact wrap_id (by omega) (by omega)) ?_
          refine rw_val (v := .int .i64 (((((cellsC l).length : Nat) : Int) - ((p : Nat) : Int)) + 1)) (w' := w_L62) rfl rfl rfl rfl (by simp [go_sem, sEv, sLook, nbeq, i64_w, -List.getD_eq_getElem?_getD]; exact wrap_id (by omega) (by omega)) ?_
          refine rw_val (v := .int .u64 (((l.length - p + 1) : Nat) : Int)) (w' := w_L62) rfl rfl rfl rfl (by simp [go_sem, sEv, sLook, nbeq, i64_w, -List.getD_eq_getElem?_getD, Try.underlying3, Try.underlying24]; rw [u64_wrap]; omega) ?_
          obtain ⟨q, hq_, hq2_⟩ := rem_nat ((ks.getD j 0)) (l.length - p)
          refine rw_val (v := .int .u64 ((q : Nat) : Int)) (w' := w_L62) rfl rfl rfl rfl (by rw [← hq_]; have hne_ : ¬ (((l.length - p : Nat) : Int) + 1 = 0) := (by omega); simp [go_sem, sEv, sLook, nbeq, i64_w, -List.getD_eq_getElem?_getD, hne_]) ?_
          refine rw_val (v := .int .i64 ((q : Nat) : Int)) (w' := w_L62) rfl rfl rfl rfl (by simp [go_sem, sEv, sLook, nbeq, i64_w, -List.getD_eq_getElem?_getD, Try.underlying3, Try.underlying24]; exact wrap_id (by omega) (by omega)) ?_
          refine rw_val (v := .int .i64 ((p + q : Nat) : Int)) (w' := w_L62) rfl rfl rfl rfl (by simp [go_sem, sEv, sLook, nbeq, i64_w, -List.getD_eq_getElem?_getD]; exact wrap_id (by omega) (by omega)) ?_
          refine rw_val (v := .int .i64 ((p + q : Nat) : Int)) (w' := w_L62) rfl rfl rfl rfl rfl ?_
          refine rw_end ?_
          refine w_weaken (G' := [(5, .slice A6 ((cellsC l).length) c7), (6, .pointer (some ⟨g12, 0, none⟩)), (7, .pointer (some ⟨g23, 0, none⟩)), (9, .slice A9_ ((sg.map foldC).length) c9_), (10, .int .i64 ((p : Nat) : Int)), (13, .int .i64 ((p + q : Nat) : Int)), (46, .slice (some ad71) ks.length c2), (47, .int .i64 ((ks.length : Nat) : Int)), (48, .int .i64 ((j : Nat) : Int))]) ⟨rfl, rfl, rfl, rfl, rfl, rfl, rfl, rfl, rfl, trivial⟩ ?_
          refine w_seq ?_
          refine w_region ?_
          refine rw_val (v := .slice A9_ ((sg.map foldC).length) c9_) (w' := w_L62) rfl rfl rfl rfl rfl ?_
          refine rw_val (v := .slice A6 ((cellsC l).length) c7) (w' := w_L62) rfl rfl rfl rfl rfl ?_
          refine rw_val (v := .int .i64 ((p : Nat) : Int)) (w' := w_L62) rfl rfl rfl rfl rfl ?_
          refine rw_val (v := .int .i64 ((p + q : Nat) : Int)) (w' := w_L62) rfl rfl rfl rfl rfl ?_
          have hP75 : kCell.C w_L62 (adrS 74 A6 c7 p) (((cellsC l).take (p + q)).drop p).length (((cellsC l).take (p + q)).drop p) := Kd.C_mid (Kd.C_below hcc hB_L62) (by omega) (by omega) (by have q_ := hcap_; omega)
          have hP75_ : (((cellsC l).take (p + q)).drop p).length = p + q - p := by rw [List.length_drop, List.length_take]; omega
          refine rw_val (v := .slice (adrS 74 A6 c7 p) ((((cellsC l).take (p + q)).drop p).length) (c7 - p)) (w' := w_L62) rfl rfl rfl rfl (by rw [hP75_]; exact run_as (sl_mid (sz := 74) (e := 31) (by kernel_rfl) (fun _ => by kernel_rfl) p (p + q) _ _ (by first | rfl | (simp; done) | omega) (by first | rfl | (simp; done) | omega) (by omega) (by have q_ := hcap_; omega) _)) ?_
          refine rw_call rfl rfl rfl rfl (f := 11) (args := #[.slice (adrS 74 A6 c7 p) ((((cellsC l).take (p + q)).drop p).length) (c7 - p)]) (by simp [go_sem, sEv, sLook, nbeq, i64_w, -List.getD_eq_getElem?_getD]) (join_on w_L62 (adrS 74 A6 c7 p) (c7 - p) (((cellsC l).take (p + q)).drop p) ((l.take (p + q)).drop p) (cellsC_seg l _ _) (Kd.C_below hP75 (Below.refl _ _)) (by rw [hP75_]; have q_ := hcap_; omega) (by simp only [List.length_drop, List.length_take, hcl_]; omega)) ?_
          rintro e_ w76 ⟨rfl, hb77⟩
          refine ⟨_, rfl, ?_⟩
          have hs_w76 := hb77.size
          refine rw_new (cs := (encC (foldC ((l.take (p + q)).drop p)) : List Value).toArray) (t := 31) (fun g => .slice (some ⟨g, 0, none⟩) 1 1) rfl rfl rfl rfl (by kernel_rfl) ?_
          intro g78 w79 hg83 hz82 hb80 hk81
          have hs_w79 := hb80.size
          have hk81r : OwnK kCell 31 w79 w.heap.size g78 (some ⟨g78, 0, none⟩) 1 1 ([(foldC ((l.take (p + q)).drop p))] : List CL) := flat_own (enc := encC) (hl1 := encC_len) (h1 := encC_one) (xs := ([(foldC ((l.take (p + q)).drop p))] : List CL)) (cap := 1) w.heap.size hk81 (by omega) (by simp) rfl (by simp) (by simp)
          have oA90 : OwnK kCell 31 w79 w.heap.size g56 A9_ ((sg.map foldC).length) c9_ (sg.map foldC) := (OwnK.on (d := kCell) hO9_ (chain hb77 hb80))
          refine rw_append_kd (d := kCell) w.heap.size rfl rfl rfl (.tmp 64) (.tmp 70) rfl rfl 33 31 (.agg (carr CL.unit)) 592 rfl (by kernel_rfl) (by kernel_rfl) rfl (show 0 < 74 by decide) (by decide) (fun _ _ h => h) (b := g56) rfl rfl (by omega) oA90 (OwnK.Cn (d := kCell) hk81r) (chain (chain hB_L62 hb77) hb80) (by omega) (by simp only [List.length_map, List.length_append, List.length_cons, List.length_nil]; omega) ?_
          intro A84 c85 w86 hO87 hB88 hG89
          have hs_w86 := hB88.size
          have hgs_w86 := hG89.size
          have hk92 := OwnK.blk_grown ((hf68.on hb77).on hb80) oA90 (.inl (by omega)) hG89
          have hk93 := OwnK.blk_grown ((hf67.on hb77).on hb80) oA90 (.inl (by omega)) hG89
          refine rw_val (v := .slice A84 (((sg.map foldC) ++ ([(foldC ((l.take (p + q)).drop p))] : List CL)).length) c85) (w' := w86) rfl rfl rfl rfl rfl ?_
          refine rw_end ?_
          refine w_weaken (G' := [(5, .slice A6 ((cellsC l).length) c7), (6, .pointer (some ⟨g12, 0, none⟩)), (7, .pointer (some ⟨g23, 0, none⟩)), (9, .slice A84 (((sg.map foldC) ++ ([(foldC ((l.take (p + q)).drop p))] : List CL)).length) c85), (10, .int .i64 ((p : Nat) : Int)), (13, .int .i64 ((p + q : Nat) : Int)), (46, .slice (some ad71) ks.length c2), (47, .int .i64 ((ks.length : Nat) : Int)), (48, .int .i64 ((j : Nat) : Int))]) ⟨rfl, rfl, rfl, rfl, rfl, rfl, rfl, rfl, rfl, trivial⟩ ?_
          refine w_region ?_
          refine rw_val (v := .int .i64 ((p + q : Nat) : Int)) (w' := w86) rfl rfl rfl rfl rfl ?_
          refine rw_val (v := .int .i64 ((p + q : Nat) : Int)) (w' := w86) rfl rfl rfl rfl rfl ?_
          refine rw_end ?_
          refine w_blk ?_
          refine w_region ?_
          refine rw_val (v := .int .i64 ((j + 1 : Nat) : Int)) (w' := w86) rfl rfl rfl rfl (by simp [go_sem, sEv, sLook, nbeq, i64_w, -List.getD_eq_getElem?_getD]; exact wrap_id (by omega) (by omega)) ?_
          refine rw_val (v := .int .i64 ((j + 1 : Nat) : Int)) (w' := w86) rfl rfl rfl rfl rfl ?_
          refine rw_end ?_
          have e94 : ((sg.map foldC) ++ ([(foldC ((l.take (p + q)).drop p))] : List CL)) = ((sg ++ [((l.take (p + q)).drop p)]).map foldC) := by (rw [List.map_append]; rfl)
          have hO95 : OwnK kCell 31 w86 w.heap.size g56 A84 ((sg ++ [((l.take (p + q)).drop p)]).map foldC).length c85 ((sg ++ [((l.take (p + q)).drop p)]).map foldC) := by rw [← e94]; exact OwnK.full hO87
          have en96 : ((sg.map foldC) ++ ([(foldC ((l.take (p + q)).drop p))] : List CL)).length = ((sg ++ [((l.take (p + q)).drop p)]).map foldC).length := by rw [← e94] <;> exact OwnK.len (d := kCell) hO87
          exact w_back (m_ - 1) [(5, .slice A6 ((cellsC l).length) c7), (6, .pointer (some ⟨g12, 0, none⟩)), (7, .pointer (some ⟨g23, 0, none⟩)), (9, .slice A84 (((sg ++ [((l.take (p + q)).drop p)]).map foldC).length) c85), (10, .int .i64 (((p + q) : Nat) : Int)), (46, .slice (some ad71) ks.length c2), (47, .int .i64 ((ks.length : Nat) : Int)), (48, .int .i64 ((j + 1 : Nat) : Int))] (by omega) ⟨rfl, rfl, rfl, (by first | rfl | (rw [← en96]; rfl)), rfl, rfl, rfl, rfl, trivial⟩ ⟨(j + 1), (p + q), (sg ++ [((l.take (p + q)).drop p)]), A84, c85, by omega, by omega, hB88, (OwnK.mono (d := kCell) hO95 (by omega)), (seg_flat l sg p q hf65), (by rw [List.length_append, hf66]; rfl), hk93, hk92, (by omega), rfl⟩
        · have l97 : ¬ (((j : Nat) : Int) < ((ks.length : Nat) : Int)) := of_decide_eq_false cJ
          refine w_exit rfl ?_
          refine w_seq ?_
          refine w_region ?_
          refine rw_val (v := .slice A9_ ((sg.map foldC).length) c9_) (w' := w_L62) rfl rfl rfl rfl rfl ?_
          refine rw_val (v := .slice A6 ((cellsC l).length) c7) (w' := w_L62) rfl rfl rfl rfl rfl ?_
          refine rw_val (v := .int .i64 ((p : Nat) : Int)) (w' := w_L62) rfl rfl rfl rfl rfl ?_
          have hP98 : kCell.C w_L62 (adrS 74 A6 c7 p) ((cellsC l).drop p).length ((cellsC l).drop p) := Kd.C_drop (Kd.C_below hcc hB_L62) (by omega) (by have q_ := hcap_; omega)
          have hP98_ : ((cellsC l).drop p).length = (cellsC l).length - p := List.length_drop
          refine rw_val (v := .slice (adrS 74 A6 c7 p) (((cellsC l).drop p).length) (c7 - p)) (w' := w_L62) rfl rfl rfl rfl (by rw [hP98_]; exact run_as (sl_from (sz := 74) (e := 31) (by kernel_rfl) (fun _ => by kernel_rfl) p _ (by first | rfl | (simp; done) | omega) (by omega) (by have q_ := hcap_; omega) _)) ?_
          refine rw_call rfl rfl rfl rfl (f := 11) (args := #[.slice (adrS 74 A6 c7 p) (((cellsC l).drop p).length) (c7 - p)]) (by simp [go_sem, sEv, sLook, nbeq, i64_w, -List.getD_eq_getElem?_getD]) (join_on w_L62 (adrS 74 A6 c7 p) (c7 - p) ((cellsC l).drop p) (l.drop p) (cellsC_drop l _) (Kd.C_below hP98 (Below.refl _ _)) (by rw [hP98_]; have q_ := hcap_; omega) (by simp only [List.length_drop, List.length_take, hcl_]; omega)) ?_
          rintro e_ w99 ⟨rfl, hb100⟩
          refine ⟨_, rfl, ?_⟩
          have hs_w99 := hb100.size
          refine rw_new (cs := (encC (foldC (l.drop p)) : List Value).toArray) (t := 31) (fun g => .slice (some ⟨g, 0, none⟩) 1 1) rfl rfl rfl rfl (by kernel_rfl) ?_
          intro g101 w102 hg106 hz105 hb103 hk104
          have hs_w102 := hb103.size
          have hk104r : OwnK kCell 31 w102 w.heap.size g101 (some ⟨g101, 0, none⟩) 1 1 ([(foldC (l.drop p))] : List CL) := flat_own (enc := encC) (hl1 := encC_len) (h1 := encC_one) (xs := ([(foldC (l.drop p))] : List CL)) (cap := 1) w.heap.size hk104 (by omega) (by simp) rfl (by simp) (by simp)
          have oA113 : OwnK kCell 31 w102 w.heap.size g56 A9_ ((sg.map foldC).length) c9_ (sg.map foldC) := (OwnK.on (d := kCell) hO9_ (chain hb100 hb103))
          refine rw_append_kd (d := kCell) w.heap.size rfl rfl rfl (.tmp 74) (.tmp 79) rfl rfl 33 31 (.agg (carr CL.unit)) 592 rfl (by kernel_rfl) (by kernel_rfl) rfl (show 0 < 74 by decide) (by decide) (fun _ _ h => h) (b := g56) rfl rfl (by omega) oA113 (OwnK.Cn (d := kCell) hk104r) (chain (chain hB_L62 hb100) hb103) (by omega) (by simp only [List.length_map, List.length_append, List.length_cons, List.length_nil]; omega) ?_
          intro A107 c108 w109 hO110 hB111 hG112
          have hs_w109 := hB111.size
          have hgs_w109 := hG112.size
          have hk115 := OwnK.blk_grown ((hf68.on hb100).on hb103) oA113 (.inl (by omega)) hG112
          have hk116 := OwnK.blk_grown ((hf67.on hb100).on hb103) oA113 (.inl (by omega)) hG112
          refine rw_val (v := .slice A107 (((sg.map foldC) ++ ([(foldC (l.drop p))] : List CL)).length) c108) (w' := w109) rfl rfl rfl rfl rfl ?_
          refine rw_end ?_
          refine w_weaken (G' := [(6, .pointer (some ⟨g12, 0, none⟩)), (7, .pointer (some ⟨g23, 0, none⟩)), (9, .slice A107 (((sg.map foldC) ++ ([(foldC (l.drop p))] : List CL)).length) c108)]) ⟨rfl, rfl, rfl, trivial⟩ ?_
          refine w_seq ?_
          refine w_region ?_
          have hog_ := hO110
          have hbo2_ := hB111
          have hk6_ := hk116
          have hk7_ := hk115
          obtain ⟨SG, hSGe⟩ : ∃ SG, SG = sg ++ [l.drop p] := ⟨_, rfl⟩
          have hSG : SG.flatten = l := by rw [hSGe]; exact seg_last_flat l sg p hf65
          have hSGl : SG.length = sg.length + 1 := by rw [hSGe]; simp
          generalize hXG : ((sg.map foldC) ++ ([(foldC (l.drop p))] : List CL)) = XG at hog_ ⊢
          have hX_ : XG = SG.map foldC := by rw [← hXG, hSGe, List.map_append]; rfl
          have hXl_ : XG.length = SG.length := by rw [hX_, List.length_map]
          have hsgl_ := hf66
          refine rw_call rfl rfl rfl rfl (f := 14) (args := #[]) (by simp [go_sem, sEv, sLook, nbeq, i64_w, -List.getD_eq_getElem?_getD]) (unit_calls w109) ?_
          rintro e_ w ⟨rfl, hbu_⟩
          refine ⟨_, rfl, ?_⟩
          have hb00 := chain hb00 (chain hbo2_ hbu_)
          have hcg_ := OwnK.cap (d := kCell) hog_
          have hgs := Kd.C_below (OwnK.C (d := kCell) hog_) hbu_
          have hk6_ := hk6_.on hbu_
          have hk7_ := hk7_.on hbu_
          have hl6_ := hk6_.lt
          have hl7_ := hk7_.lt
          refine rw_new (cs := carr CL.unit) (t := 31) (fun g => .pointer (some ⟨g, 0, none⟩)) rfl rfl rfl rfl (by kernel_rfl) ?_
          intro g117 w118 hg122 hz121 hb119 hk120
          have hs_w118 := hb119.size
          refine rw_seg (g := g117) (off := 0) (ty := 31) (p := .tmp 14) (x := .tmp 81) (v := .agg (carr CL.unit)) (cs' := carr CL.unit) rfl rfl rfl rfl rfl rfl hk120 (by show (sizeOf 31).run _ _ = .ok (carr _).size _; rw [carr_size]; kernel_rfl) (Nat.le_of_eq (by rw [Nat.zero_add]; exact (carr_size _).trans (carr_size _).symm)) (encC_one _) (seg_all CL.unit CL.unit) ?_
          intro w123 hk124 hb125
          have hs_w123 := hk124.size
          refine rw_end ?_
          refine w_seq ?_
          refine w_seq ?_
          refine w_region ?_
          refine rw_val (v := .slice A107 XG.length c108) (w' := w123) rfl rfl rfl rfl rfl ?_
          refine rw_val (v := .int .i64 ((XG.length : Nat) : Int)) (w' := w123) rfl rfl rfl rfl (by simp [go_sem, sEv, sLook, nbeq, i64_w, -List.getD_eq_getElem?_getD]) ?_
          refine rw_val (v := .int .i64 (((XG.length : Nat) : Int) - 1)) (w' := w123) rfl rfl rfl rfl (by simp [go_sem, sEv, sLook, nbeq, i64_w, -List.getD_eq_getElem?_getD]; exact wrap_id (by omega) (by omega)) ?_
          refine rw_val (v := .int .i64 (((XG.length : Nat) : Int) - 1)) (w' := w123) rfl rfl rfl rfl rfl ?_
          refine rw_end ?_
          refine w_weaken (G' := [(6, .pointer (some ⟨g12, 0, none⟩)), (7, .pointer (some ⟨g23, 0, none⟩)), (9, .slice A107 XG.length c108), (14, .pointer (some ⟨g117, 0, none⟩)), (15, .int .i64 (((XG.length : Nat) : Int) - 1))]) ⟨rfl, rfl, rfl, rfl, rfl, trivial⟩ ?_
          refine w_block ?_
          refine w_loop (fun m_ G W_ => ∃ (i : Nat), m_ = i ∧ i ≤ XG.length ∧ Below w.heap.size w W_ ∧ (Blk W_ g117 31 (carr (foldC ((SG.drop i).flatten)))) ∧ G = [(6, .pointer (some ⟨g12, 0, none⟩)), (7, .pointer (some ⟨g23, 0, none⟩)), (9, .slice A107 XG.length c108), (14, .pointer (some ⟨g117, 0, none⟩)), (15, .int .i64 (((i : Nat) : Int) - 1))]) XG.length [(6, .pointer (some ⟨g12, 0, none⟩)), (7, .pointer (some ⟨g23, 0, none⟩)), (9, .slice A107 XG.length c108), (14, .pointer (some ⟨g117, 0, none⟩)), (15, .int .i64 (((XG.length : Nat) : Int) - 1))] ⟨XG.length, by omega, by omega, (hk124.below (by omega) hb119), (by rw [hXl_, List.drop_length]; exact hb125), rfl⟩ ⟨rfl, rfl, rfl, rfl, rfl, trivial⟩ ?_
          rintro m_ G w_L126 ⟨i, hp127, hp128, hB_L126, hf129, rfl⟩
          have hs_w_L126 := hB_L126.size
          have hlt14_ := hf129.lt
          refine w_seq ?_
          refine w_seq ?_
          refine w_region ?_
          refine rw_val (v := .int .i64 (((i : Nat) : Int) - 1)) (w' := w_L126) rfl rfl rfl rfl rfl ?_
          refine rw_val (v := .bool (decide (0 ≤ (((i : Nat) : Int) - 1)))) (w' := w_L126) rfl rfl rfl rfl (by simp [go_sem, sEv, sLook, nbeq, i64_w, -List.getD_eq_getElem?_getD]) ?_
          refine rw_end ?_
          refine w_cond rfl rfl (fun cI => ?_) (fun cI => ?_)
          · have l130 : (0 ≤ (((i : Nat) : Int) - 1)) := of_decide_eq_true cI
            refine w_skip ?_
            refine w_seq ?_
            refine w_block ?_
            obtain ⟨ad131, hA132, hc133⟩ := flat_at (Kd.C_below hgs hB_L126) CL.unit (i - 1) (by first | omega | decide)
            subst hA132
            refine w_drawk (M := [0, 0, 3, 7, 0, 31, 63, 127]) (ss := [Is (.slice (some ad131) XG.length c108), Is (.int .i64 (((i - 1) : Nat) : Int)), Is (.pointer (some (ad131.add ((i - 1) * 74)))), Is (.agg (carr (XG.getD (i - 1) CL.unit))), Is (.agg (carr (foldC ((SG.drop i).flatten))))]) 5 rfl (by decide +kernel) ?_
            refine t_is (.slice (some ad131) XG.length c108) rfl rfl rfl rfl (fun W_ hW_ F_ => rfl) ?_
            refine t_is (.int .i64 (((i - 1) : Nat) : Int)) rfl rfl rfl rfl (fun W_ hW_ F_ => (by simp [go_sem, sEv, sLook, nbeq, i64_w, -List.getD_eq_getElem?_getD]; omega)) ?_
            refine t_is (.pointer (some (ad131.add ((i - 1) * 74)))) rfl rfl rfl rfl (fun W_ hW_ F_ => (run_as (run_at_k (P := Try.prog) (e := 31) (sz := 74) (by kernel_rfl) (by kernel_rfl) (i - 1) (by first | omega | decide) _))) ?_
            refine t_is (.agg (carr (XG.getD (i - 1) CL.unit))) rfl rfl rfl rfl (fun W_ hW_ F_ => (run_as (load_el (c := (XG.getD (i - 1) CL.unit)) (fun j u hj => cellOn (hc133 j u hj) (chain (Below.refl _ _) (below_of_drew hW_)))))) ?_
            refine t_is (.agg (carr (foldC ((SG.drop i).flatten)))) rfl rfl rfl rfl (fun W_ hW_ F_ => (run_as (load_cell (c := (foldC ((SG.drop i).flatten))) (hf129.on (below_of_drew hW_))))) ?_
            refine t_tail ?_
            intro w134 hb135_ F136
            have hb135 := below_of_drew hb135_
            have hs_w134 := hb135.size
            refine rw_new (cs := (encC (XG.getD (i - 1) CL.unit) ++ encC (foldC ((SG.drop i).flatten)) : List Value).toArray) (t := 31) (fun g => .slice (some ⟨g, 0, none⟩) 2 2) rfl rfl rfl rfl (by kernel_rfl) ?_
            intro g137 w138 hg142 hz141 hb139 hk140
            have hs_w138 := hb139.size
            have hk140r : OwnK kCell 31 w138 w.heap.size g137 (some ⟨g137, 0, none⟩) 2 2 ([(XG.getD (i - 1) CL.unit), (foldC ((SG.drop i).flatten))] : List CL) := flat_own (enc := encC) (hl1 := encC_len) (h1 := encC_one) (xs := ([(XG.getD (i - 1) CL.unit), (foldC ((SG.drop i).flatten))] : List CL)) (cap := 2) w.heap.size hk140 (by omega) (by simp) rfl (by simp) (by simp)
            have eq_ : joinC ([(XG.getD (i - 1) CL.unit), (foldC ((SG.drop i).flatten))] : List CL) = (foldC ((SG.drop (i - 1)).flatten)) := (by rw [hX_]; exact group_step SG l hSG i (by omega) (by omega) (by omega) hv)
            have lo_ : ∀ c ∈ ([(XG.getD (i - 1) CL.unit), (foldC ((SG.drop i).flatten))] : List CL), LoOk c := by
              intro c hc; simp only [List.mem_cons, List.not_mem_nil, or_false] at hc
              rcases hc with rfl | rfl
              · exact (by rw [hX_]; exact el_lo _ _ (folds_lo SG) (by rw [List.length_map]; omega))
              · exact fold_lo _
            refine rw_call rfl rfl rfl rfl (f := 11) (args := #[.slice (some ⟨g137, 0, none⟩) 2 2]) (by simp [go_sem, sEv, sLook, nbeq, i64_w, -List.getD_eq_getElem?_getD]) (join_calls w138 (some ⟨g137, 0, none⟩) 2 ([(XG.getD (i - 1) CL.unit), (foldC ((SG.drop i).flatten))] : List CL) (OwnK.C (d := kCell) hk140r) (by simp) (by simp) lo_) ?_
            rintro e_ w143 ⟨rfl, hb144⟩
            refine ⟨.agg (carr (joinC ([(XG.getD (i - 1) CL.unit), (foldC ((SG.drop i).flatten))] : List CL))), rfl, ?_⟩
            rw [eq_]
            have hs_w143 := hb144.size
            refine rw_seg (g := g117) (off := 0) (ty := 31) (p := .tmp 14) (x := .tmp 95) (v := .agg (carr (foldC ((SG.drop (i - 1)).flatten)))) (cs' := carr (foldC ((SG.drop (i - 1)).flatten))) rfl rfl rfl rfl rfl rfl (((hf129.on hb135).on hb139).on hb144) (by show (sizeOf 31).run _ _ = .ok (carr _).size _; rw [carr_size]; kernel_rfl) (Nat.le_of_eq (by rw [Nat.zero_add]; exact (carr_size _).trans (carr_size _).symm)) (encC_one _) (seg_all (foldC ((SG.drop i).flatten)) (foldC ((SG.drop (i - 1)).flatten))) ?_
            intro w145 hk146 hb147
            have hs_w145 := hk146.size
            refine rw_end ?_
            refine w_weaken (G' := [(6, .pointer (some ⟨g12, 0, none⟩)), (7, .pointer (some ⟨g23, 0, none⟩)), (9, .slice (some ad131) XG.length c108), (14, .pointer (some ⟨g117, 0, none⟩)), (15, .int .i64 (((i : Nat) : Int) - 1))]) ⟨rfl, rfl, rfl, rfl, rfl, trivial⟩ ?_
            refine w_blk ?_
            refine w_region ?_
            refine rw_val (v := .int .i64 (((i : Nat) : Int) - 1)) (w' := w145) rfl rfl rfl rfl rfl ?_
            refine rw_val (v := .int .i64 (((i - 1 : Nat) : Int) - 1)) (w' := w145) rfl rfl rfl rfl (by simp [go_sem, sEv, sLook, nbeq, i64_w, -List.getD_eq_getElem?_getD]; rw [wrap_id (by omega) (by omega)]; omega) ?_
            refine rw_val (v := .int .i64 (((i - 1 : Nat) : Int) - 1)) (w' := w145) rfl rfl rfl rfl rfl ?_
            refine rw_end ?_
            exact w_back (m_ - 1) [(6, .pointer (some ⟨g12, 0, none⟩)), (7, .pointer (some ⟨g23, 0, none⟩)), (9, .slice (some ad131) XG.length c108), (14, .pointer (some ⟨g117, 0, none⟩)), (15, .int .i64 ((((i - 1) : Nat) : Int) - 1))] (by omega) ⟨rfl, rfl, rfl, rfl, rfl, trivial⟩ ⟨(i - 1), by omega, by omega, (hk146.below (by omega) (chain (chain (chain hB_L126 hb135) hb139) hb144)), hb147, rfl⟩
          · have l148 : ¬ (0 ≤ (((i : Nat) : Int) - 1)) := of_decide_eq_false cI
            refine w_exit rfl ?_
            refine w_seq ?_
            refine w_drawk (M := [0, 0, 3, 7, 15, 15, 63, 127, 255, 511, 511, 1023, 4095, 8191, 511, 32767, 65535, 131071]) (ss := [Is (.agg (carr (foldC (l.drop k)))), Is (.agg (carr (foldC l))), Is (.bool (eqC (foldC (l.drop k)) (foldC l))), Is (.bool (eqC (foldC (l.drop k)) (foldC l))), Is (.agg (carr (foldC ((SG.drop i).flatten)))), Is (.agg (carr (foldC l))), Is (.bool (eqC (foldC ((SG.drop i).flatten)) (foldC l))), Is (.bool (eqC (foldC ((SG.drop i).flatten)) (foldC l))), Is (.bool (eqC (foldC ((SG.drop i).flatten)) (foldC l))), (Is (.agg (carr CL.unit))), Is (.agg (carr (foldC l))), (Is (.agg (carr CL.unit))), SlcSpec w_L126.heap.size 31 ((encC CL.unit ++ encC (foldC l) ++ encC CL.unit : List Value).toArray) 3, (Is (.agg (carr (foldC l)))), Is (.agg (carr (foldC l)))]) 15 rfl (by decide +kernel) ?_
            refine t_is (.agg (carr (foldC (l.drop k)))) rfl rfl rfl rfl (fun W_ hW_ F_ => (run_as (load_cell (c := (foldC (l.drop k))) ((hk7_.on hB_L126).on (below_of_drew hW_))))) ?_
            refine t_is (.agg (carr (foldC l))) rfl rfl rfl rfl (fun W_ hW_ F_ => (run_as (load_cell (c := (foldC l)) ((hk6_.on hB_L126).on (below_of_drew hW_))))) ?_
            refine t_is (.bool (eqC (foldC (l.drop k)) (foldC l))) rfl rfl rfl rfl (fun W_ hW_ F_ => (run_as (guard_eq_cell _ _ _ _ _))) ?_
            refine t_is (.bool (eqC (foldC (l.drop k)) (foldC l))) rfl rfl rfl rfl (fun W_ hW_ F_ => rfl) ?_
            have hq149 : (eqC (foldC (l.drop k)) (foldC l)) = true := by rw [show k = 0 by omega, List.drop_zero]; exact (eqC_iff _ _).2 rfl
            refine t_gis (c := eqC (foldC (l.drop k)) (foldC l)) (.agg (carr (foldC ((SG.drop i).flatten)))) rfl rfl rfl (by first | (rw [hq149]; rfl) | simp [hq149]) rfl rfl rfl (fun W_ hW_ F_ => (run_as (load_cell (c := (foldC ((SG.drop i).flatten))) (hf129.on (below_of_drew hW_))))) ?_
            refine t_gis (c := eqC (foldC (l.drop k)) (foldC l)) (.agg (carr (foldC l))) rfl rfl rfl (by first | (rw [hq149]; rfl) | simp [hq149]) rfl rfl rfl (fun W_ hW_ F_ => (run_as (load_cell (c := (foldC l)) ((hk6_.on hB_L126).on (below_of_drew hW_))))) ?_
            refine t_gis (c := eqC (foldC (l.drop k)) (foldC l)) (.bool (eqC (foldC ((SG.drop i).flatten)) (foldC l))) rfl rfl rfl (by first | (rw [hq149]; rfl) | simp [hq149]) rfl rfl rfl (fun W_ hW_ F_ => (run_as (guard_eq_cell _ _ _ _ _))) ?_
            refine t_is (.bool (eqC (foldC ((SG.drop i).flatten)) (foldC l))) rfl rfl rfl rfl (fun W_ hW_ F_ => by first | (simp [go_sem, sEv, sLook, nbeq, i64_w, -List.getD_eq_getElem?_getD, hq149]; done) | (rw [hq149]; simp [go_sem, sEv, sLook, nbeq, i64_w, -List.getD_eq_getElem?_getD]; done) | (simp [go_sem, sEv, sLook, nbeq, i64_w, -List.getD_eq_getElem?_getD] <;> omega) | (simp [go_sem, sEv, sLook, nbeq, i64_w, -List.getD_eq_getElem?_getD]; intro h_; exact absurd (by omega) h_)) ?_
            refine t_is (.bool (eqC (foldC ((SG.drop i).flatten)) (foldC l))) rfl rfl rfl rfl (fun W_ hW_ F_ => rfl) ?_
            have hq150 : (eqC (foldC ((SG.drop i).flatten)) (foldC l)) = true := by rw [show i = 0 by omega, List.drop_zero, hSG]; exact (eqC_iff _ _).2 rfl
            refine t_gcall (c := eqC (foldC ((SG.drop i).flatten)) (foldC l)) (f := 14) (args := #[]) (Is (.agg (carr CL.unit))) rfl rfl rfl (by first | (rw [hq150]; rfl) | simp [hq150]) rfl rfl rfl (fun W_ => by simp [go_sem, sEv, sLook, nbeq, i64_w, -List.getD_eq_getElem?_getD]) (fun W_ hW_ F_ => ?_) ?_
            · refine (unit_calls W_).mono ?_
              rintro e_ w_ ⟨rfl, hb_⟩
              exact ⟨_, rfl, rfl, hb_⟩
            rintro _ rfl
            refine t_gis (c := eqC (foldC ((SG.drop i).flatten)) (foldC l)) (.agg (carr (foldC l))) rfl rfl rfl (by first | (rw [hq150]; rfl) | simp [hq150]) rfl rfl rfl (fun W_ hW_ F_ => (run_as (load_cell (c := (foldC l)) ((hk6_.on hB_L126).on (below_of_drew hW_))))) ?_
            refine t_gcall (c := eqC (foldC ((SG.drop i).flatten)) (foldC l)) (f := 14) (args := #[]) (Is (.agg (carr CL.unit))) rfl rfl rfl (by first | (rw [hq150]; rfl) | simp [hq150]) rfl rfl rfl (fun W_ => by simp [go_sem, sEv, sLook, nbeq, i64_w, -List.getD_eq_getElem?_getD]) (fun W_ hW_ F_ => ?_) ?_
            · refine (unit_calls W_).mono ?_
              rintro e_ w_ ⟨rfl, hb_⟩
              exact ⟨_, rfl, rfl, hb_⟩
            rintro _ rfl
            refine t_gval (c := eqC (foldC ((SG.drop i).flatten)) (foldC l)) (SlcSpec w_L126.heap.size 31 ((encC CL.unit ++ encC (foldC l) ++ encC CL.unit : List Value).toArray) 3) rfl rfl rfl (by first | (rw [hq150]; rfl) | simp [hq150]) rfl rfl rfl (fun W_ hW_ F_ => slc_gives _ _ _ _ (below_of_drew hW_).size (by kernel_rfl)) ?_
            rintro _ ⟨g151, rfl⟩
            refine t_gcall (c := eqC (foldC ((SG.drop i).flatten)) (foldC l)) (f := 11) (args := #[.slice (some ⟨g151, 0, none⟩) 3 3]) (Is (.agg (carr (foldC l)))) rfl rfl rfl (by first | (rw [hq150]; rfl) | simp [hq150]) rfl rfl rfl (fun W_ => by simp [go_sem, sEv, sLook, nbeq, i64_w, -List.getD_eq_getElem?_getD]) (fun W_ hW_ F_ => ?_) ?_
            · have hk_ := (slc_fact (F_ 12 _ _ rfl rfl)).2
              have eq_ : joinC ([CL.unit, (foldC l), CL.unit] : List CL) = (foldC l) := join_units (foldC l)
              have lo_ : ∀ c ∈ ([CL.unit, (foldC l), CL.unit] : List CL), LoOk c := by
                intro c hc; simp only [List.mem_cons, List.not_mem_nil, or_false] at hc
                rcases hc with rfl | rfl | rfl
                · exact (by unfold LoOk; decide)
                · exact fold_lo l
                · exact (by unfold LoOk; decide)
              refine (join_calls W_ (some ⟨g151, 0, none⟩) 3 ([CL.unit, (foldC l), CL.unit] : List CL) (OwnK.C (d := kCell) (flat_own (enc := encC) (hl1 := encC_len) (h1 := encC_one) (e := 31) (xs := ([CL.unit, (foldC l), CL.unit] : List CL)) (cap := 3) 0 hk_ (Nat.zero_le _) (by simp) rfl (by simp) (by simp))) (by simp) (by simp) lo_).mono ?_
              rintro e_ w_ ⟨rfl, hb_⟩
              exact ⟨_, rfl, by rw [eq_]; exact rfl, hb_⟩
            rintro _ rfl
            refine t_gis (c := eqC (foldC ((SG.drop i).flatten)) (foldC l)) (.agg (carr (foldC l))) rfl rfl rfl (by first | (rw [hq150]; rfl) | simp [hq150]) rfl rfl rfl (fun W_ hW_ F_ => (run_as (load_cell (c := (foldC l)) ((hk6_.on hB_L126).on (below_of_drew hW_))))) ?_
            refine t_tail ?_
            intro w154 hb155_ F156
            have hb155 := below_of_drew hb155_
            have hs_w154 := hb155.size
            obtain ⟨hge153, hk152⟩ := slc_fact (F156 12 _ _ rfl)
            have hlt_g151 := hk152.lt
            refine rw_on (c := eqC (foldC ((SG.drop i).flatten)) (foldC l)) rfl rfl rfl (by first | (rw [hq150]; rfl) | simp [hq150]) ?_
            refine rw_val (v := .bool (eqC (foldC l) (foldC l))) (w' := w154) rfl rfl rfl rfl (run_as (guard_eq_cell _ _ _ _ _)) ?_
            refine rw_val (v := .bool (eqC (foldC l) (foldC l))) (w' := w154) rfl rfl rfl rfl (by first | (simp [go_sem, sEv, sLook, nbeq, i64_w, -List.getD_eq_getElem?_getD, hq150]; done) | (rw [hq150]; simp [go_sem, sEv, sLook, nbeq, i64_w, -List.getD_eq_getElem?_getD]; done) | (simp [go_sem, sEv, sLook, nbeq, i64_w, -List.getD_eq_getElem?_getD] <;> omega) | (simp [go_sem, sEv, sLook, nbeq, i64_w, -List.getD_eq_getElem?_getD]; intro h_; exact absurd (by omega) h_)) ?_
            refine rw_val (v := .bool (eqC (foldC l) (foldC l))) (w' := w154) rfl rfl rfl rfl rfl ?_
            refine rw_end ?_
            refine w_weaken (G' := [(4, .bool (eqC (foldC l) (foldC l)))]) ⟨rfl, trivial⟩ ?_
            have hq157 : (eqC (foldC l) (foldC l)) = true := by exact (eqC_iff _ _).2 rfl
            refine w_ret (post_ret1 rfl rfl ?_)
            exact ⟨by rw [show (eqC (foldC l) (foldC l)) = true from hq157], (chain hb00 (chain hB_L126 hb155))⟩
  · have l158 : (1000 < ((l.length : Nat) : Int)) := of_decide_eq_true cN
    refine rw_off (c := decide (1000 < ((l.length : Nat) : Int))) rfl rfl rfl (by first | (rw [cN]; rfl) | simp [cN]) rfl rfl ?_
    refine rw_off (c := decide (1000 < ((l.length : Nat) : Int))) rfl rfl rfl (by first | (rw [cN]; rfl) | simp [cN]) rfl rfl ?_
    refine rw_off (c := decide (1000 < ((l.length : Nat) : Int))) rfl rfl rfl (by first | (rw [cN]; rfl) | simp [cN]) rfl rfl ?_
    refine rw_val (v := .bool true) (w' := w1) rfl rfl rfl rfl (by first | (simp [go_sem, sEv, sLook, nbeq, i64_w, -List.getD_eq_getElem?_getD, cN]; done) | (rw [cN]; simp [go_sem, sEv, sLook, nbeq, i64_w, -List.getD_eq_getElem?_getD]; done) | (simp [go_sem, sEv, sLook, nbeq, i64_w, -List.getD_eq_getElem?_getD] <;> omega) | (simp [go_sem, sEv, sLook, nbeq, i64_w, -List.getD_eq_getElem?_getD]; intro h_; exact absurd (by omega) h_)) ?_
    refine rw_end ?_
    refine w_weaken (G' := [(0, .slice A1 l.length c1), (1, .slice A2 ks.length c2), (4, .bool false), (25, .bool true)]) ⟨rfl, rfl, rfl, rfl, trivial⟩ ?_
    refine w_cond_t rfl rfl rfl ?_
    refine w_seq ?_
    refine w_region ?_
    refine rw_val (v := .bool true) (w' := w1) rfl rfl rfl rfl rfl ?_
    refine rw_end ?_
    refine w_ret (post_ret1 rfl rfl ?_)
    exact ⟨rfl, hb2⟩
end Go.Proofs.Ytheaipbnbnjlgaa.Ce
