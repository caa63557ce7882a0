/- Any cells joined, as the document joins them: the law's walk. -/
import Derived.Test.YtheaipbnbnjlgaaCeJoins
namespace Go.Proofs.Ytheaipbnbnjlgaa.Ce
open Go.RowKit Go.Proofs.YtheaipbnbnjlgaaW.PrintWords Go.Proofs.YtheaipbnbnjlgaaW.PrintLast Go.Proofs.YtheaipbnbnjlgaaW.PrintMore
open Go.Proofs.Ytheaipbnbnjlgaa.Flow
set_option linter.unusedVariables false
set_option linter.unusedSimpArgs false

set_option maxHeartbeats 4000000 in
theorem rjoin_calls (w : World) (A1 : Option Addr) (c1 : Nat) (l : List CL) (hl : kCell.C w A1 l.length l) (hc : l.length ≤ c1) (hln : l.length ≤ 140737488355328) (hlo : ∀ c ∈ l, LoOk c) (hhi : ∀ c ∈ l, HiOk c) :
    Calls Try.prog 15 #[.slice A1 l.length c1] w fun e w' => e = .returned (.agg (carr (joinC l))) ∧ Below w.heap.size w w' := by
  refine calls_flow Try.func15 rfl 92 rfl (Nat.le_of_ble_eq_true rfl) [(0, .slice A1 l.length c1)] ?_ ?_
  · intro t v h; exact args_look rfl t v h
  refine w_seq ?_
  refine w_region ?_
  refine rw_new (cs := carr CL.unit) (t := 31) (fun g => .pointer (some ⟨g, 0, none⟩)) rfl rfl rfl rfl (by kernel_rfl) ?_
  intro g1 w2 hg6 hz5 hb3 hk4
  have hs_w2 := hb3.size
  refine rw_end ?_
  refine w_seq ?_
  refine w_region ?_
  refine rw_val (v := .agg (carr CL.unit)) (w' := w2) rfl rfl rfl rfl (by kernel_rfl) ?_
  refine rw_new (cs := carr CL.unit) (t := 31) (fun g => .pointer (some ⟨g, 0, none⟩)) rfl rfl rfl rfl (by kernel_rfl) ?_
  intro g7 w8 hg12 hz11 hb9 hk10
  have hs_w8 := hb9.size
  refine rw_seg (g := g7) (off := 0) (ty := 31) (p := .tmp 3) (x := .tmp 9) (v := .agg (carr CL.unit)) (cs' := carr CL.unit) rfl rfl rfl rfl rfl rfl hk10 (by show (sizeOf 31).run _ _ = .ok (carr _).size _; rw [carr_size]; kernel_rfl) (Nat.le_of_eq (by rw [Nat.zero_add]; exact (carr_size _).trans (carr_size _).symm)) (encC_one _) (seg_all CL.unit CL.unit) ?_
  intro w13 hk14 hb15
  have hs_w13 := hk14.size
  refine rw_end ?_
  refine w_seq ?_
  refine w_seq ?_
  refine w_region ?_
  refine rw_val (v := .int .i64 0) (w' := w13) rfl rfl rfl rfl rfl ?_
  refine rw_end ?_
  refine w_block ?_
  refine w_loop (fun m_ G W_ => ∃ (j : Nat) (o : CL) (b : Bool), j + m_ = l.length ∧ Below w.heap.size w W_ ∧ (joinS (l.take j) = (o, b)) ∧ (Blk W_ g7 31 (carr o)) ∧ (Blk W_ g1 31 (carr CL.unit)) ∧ (-9223372036854775808 ≤ o.hi ∧ o.hi ≤ 9223372036854775807) ∧ G = [(0, .slice A1 l.length c1), (2, .pointer (some ⟨g1, 0, none⟩)), (3, .pointer (some ⟨g7, 0, none⟩)), (4, .int .i64 ((j : Nat) : Int))]) l.length [(0, .slice A1 l.length c1), (2, .pointer (some ⟨g1, 0, none⟩)), (3, .pointer (some ⟨g7, 0, none⟩)), (4, .int .i64 0)] ⟨0, CL.unit, false, by omega, (hk14.below (by omega) (chain hb3 hb9)), rfl, hb15, ((hk4.on hb9).keep hk14 (by omega)), (by decide), rfl⟩ ⟨rfl, rfl, rfl, rfl, trivial⟩ ?_
  rintro m_ G w_L16 ⟨j, o, b, hp17, hB_L16, hf18, hf19, hf20, hf21, rfl⟩
  have hs_w_L16 := hB_L16.size
  have hlt3_ := hf19.lt
  have hlt2_ := hf20.lt
  have hhi_ := hf21
  have hlo_ : 0 ≤ o.lo ∧ o.lo < 18446744073709551616 := by have h_ := join_lo (l := l.take j) (fun c hc => hlo c (List.mem_of_mem_take hc)); unfold joinC at h_; rw [hf18] at h_; exact h_
  have hbb_ : b = ((l.take j).any (fun c => !eqC c CL.unit)) := by have h_ := joinS_snd (l.take j); rw [hf18] at h_; exact h_
  refine w_seq ?_
  refine w_seq ?_
  refine w_region ?_
  refine rw_val (v := .int .i64 ((j : Nat) : Int)) (w' := w_L16) rfl rfl rfl rfl rfl ?_
  refine rw_val (v := .slice A1 l.length c1) (w' := w_L16) rfl rfl rfl rfl rfl ?_
  refine rw_val (v := .int .i64 ((l.length : Nat) : Int)) (w' := w_L16) rfl rfl rfl rfl (by simp [go_sem, sEv, sLook, nbeq, i64_w, -List.getD_eq_getElem?_getD]) ?_
  refine rw_val (v := .bool (decide (((j : Nat) : Int) < ((l.length : Nat) : Int)))) (w' := w_L16) rfl rfl rfl rfl (by simp [go_sem, sEv, sLook, nbeq, i64_w, -List.getD_eq_getElem?_getD]) ?_
  refine rw_end ?_
  refine w_weaken (G' := [(0, .slice A1 l.length c1), (2, .pointer (some ⟨g1, 0, none⟩)), (3, .pointer (some ⟨g7, 0, none⟩)), (4, .int .i64 ((j : Nat) : Int)), (13, .bool (decide (((j : Nat) : Int) < ((l.length : Nat) : Int))))]) ⟨rfl, rfl, rfl, rfl, rfl, trivial⟩ ?_
  refine w_cond rfl rfl (fun cJ => ?_) (fun cJ => ?_)
  · have l22 : (((j : Nat) : Int) < ((l.length : Nat) : Int)) := of_decide_eq_true cJ
    refine w_skip ?_
    refine w_seq ?_
    refine w_block ?_
    refine w_seq ?_
    refine w_region ?_
    refine rw_val (v := .slice A1 l.length c1) (w' := w_L16) rfl rfl rfl rfl rfl ?_
    refine rw_val (v := .int .i64 ((j : Nat) : Int)) (w' := w_L16) rfl rfl rfl rfl rfl ?_
    obtain ⟨ad23, hA24, hc25⟩ := flat_at (Kd.C_below hl hB_L16) CL.unit j (by first | omega | decide)
    subst hA24
    refine rw_val (v := .pointer (some (ad23.add (j * 74)))) (w' := w_L16) rfl rfl rfl rfl (run_as (run_at_k (P := Try.prog) (e := 31) (sz := 74) (by kernel_rfl) (by kernel_rfl) j (by first | omega | decide) _)) ?_
    refine rw_val (v := .agg (carr (l.getD j CL.unit))) (w' := w_L16) rfl rfl rfl rfl (run_as (load_el (c := (l.getD j CL.unit)) (fun j u hj => cellOn (hc25 j u hj) (Below.refl _ _)))) ?_
    refine rw_new (cs := carr CL.unit) (t := 31) (fun g => .pointer (some ⟨g, 0, none⟩)) rfl rfl rfl rfl (by kernel_rfl) ?_
    intro g26 w27 hg31 hz30 hb28 hk29
    have hs_w27 := hb28.size
    refine rw_seg (g := g26) (off := 0) (ty := 31) (p := .tmp 5) (x := .tmp 19) (v := .agg (carr (l.getD j CL.unit))) (cs' := carr (l.getD j CL.unit)) rfl rfl rfl rfl rfl rfl hk29 (by show (sizeOf 31).run _ _ = .ok (carr _).size _; rw [carr_size]; kernel_rfl) (Nat.le_of_eq (by rw [Nat.zero_add]; exact (carr_size _).trans (carr_size _).symm)) (encC_one _) (seg_all CL.unit (l.getD j CL.unit)) ?_
    intro w32 hk33 hb34
    have hs_w32 := hk33.size
    refine rw_end ?_
    refine w_weaken (G' := [(0, .slice (some ad23) l.length c1), (2, .pointer (some ⟨g1, 0, none⟩)), (3, .pointer (some ⟨g7, 0, none⟩)), (4, .int .i64 ((j : Nat) : Int)), (5, .pointer (some ⟨g26, 0, none⟩))]) ⟨rfl, rfl, rfl, rfl, rfl, trivial⟩ ?_
    refine w_seq ?_
    refine w_seq ?_
    have hhe_ := hhi _ (getD_mem l j CL.unit (by omega))
    have hle_ := hlo _ (getD_mem l j CL.unit (by omega))
    refine w_region ?_
    refine rw_val (v := .agg (carr (l.getD j CL.unit))) (w' := w32) rfl rfl rfl rfl (run_as (load_cell (c := (l.getD j CL.unit)) hb34)) ?_
    refine rw_val (v := .agg (carr CL.unit)) (w' := w32) rfl rfl rfl rfl (by kernel_rfl) ?_
    refine rw_val (v := .bool (eqC (l.getD j CL.unit) CL.unit)) (w' := w32) rfl rfl rfl rfl (run_as (guard_eq_cell _ _ _ _ _)) ?_
    refine rw_end ?_
    refine w_cond rfl rfl (fun cU => ?_) (fun cU => ?_)
    · refine w_exit rfl ?_
      refine w_region ?_
      refine rw_val (v := .int .i64 ((j : Nat) : Int)) (w' := w32) rfl rfl rfl rfl rfl ?_
      refine rw_val (v := .int .i64 ((j + 1 : Nat) : Int)) (w' := w32) rfl rfl rfl rfl (by simp [go_sem, sEv, sLook, nbeq, i64_w, -List.getD_eq_getElem?_getD]; exact wrap_id (by omega) (by omega)) ?_
      refine rw_val (v := .int .i64 ((j + 1 : Nat) : Int)) (w' := w32) rfl rfl rfl rfl rfl ?_
      refine rw_end ?_
      exact w_back (m_ - 1) [(0, .slice (some ad23) l.length c1), (2, .pointer (some ⟨g1, 0, none⟩)), (3, .pointer (some ⟨g7, 0, none⟩)), (4, .int .i64 ((j + 1 : Nat) : Int))] (by omega) ⟨rfl, rfl, rfl, rfl, trivial⟩ ⟨(j + 1), o, b, by omega, (hk33.below (by omega) (chain hB_L16 hb28)), (by rw [joinS_succ l j (by omega), hf18]; unfold joinStep; rw [if_pos cU]), ((hf19.on hb28).keep hk33 (by omega)), ((hf20.on hb28).keep hk33 (by omega)), hhi_, rfl⟩
    · refine w_skip ?_
      refine w_seq ?_
      refine w_region ?_
      refine rw_val (v := .bool true) (w' := w32) rfl rfl rfl rfl rfl ?_
      refine rw_end ?_
      refine w_seq ?_
      refine w_seq ?_
      refine w_region ?_
      refine rw_val (v := .int .i64 0) (w' := w32) rfl rfl rfl rfl rfl ?_
      refine rw_end ?_
      refine w_block ?_
      refine w_loop (fun m_ G W_ => ∃ (k : Nat) (f : Bool), k + m_ = j ∧ Below w.heap.size w W_ ∧ (f = !((l.take k).any (fun c => !eqC c CL.unit))) ∧ (Blk W_ g1 31 (carr CL.unit)) ∧ (Blk W_ g7 31 (carr o)) ∧ (Blk W_ g26 31 (carr (l.getD j CL.unit))) ∧ G = [(0, .slice (some ad23) l.length c1), (2, .pointer (some ⟨g1, 0, none⟩)), (3, .pointer (some ⟨g7, 0, none⟩)), (4, .int .i64 ((j : Nat) : Int)), (5, .pointer (some ⟨g26, 0, none⟩)), (6, .bool f), (7, .int .i64 ((k : Nat) : Int))]) j [(0, .slice (some ad23) l.length c1), (2, .pointer (some ⟨g1, 0, none⟩)), (3, .pointer (some ⟨g7, 0, none⟩)), (4, .int .i64 ((j : Nat) : Int)), (5, .pointer (some ⟨g26, 0, none⟩)), (6, .bool true), (7, .int .i64 0)] ⟨0, true, by omega, (hk33.below (by omega) (chain hB_L16 hb28)), (by simp), ((hf20.on hb28).keep hk33 (by omega)), ((hf19.on hb28).keep hk33 (by omega)), hb34, rfl⟩ ⟨rfl, rfl, rfl, rfl, rfl, rfl, rfl, trivial⟩ ?_
      rintro m1_ G w_L35 ⟨k, f, hp36, hB_L35, hf37, hf38, hf39, hf40, rfl⟩
      have hs_w_L35 := hB_L35.size
      have hlt2b_ := hf38.lt
      have hlt3b_ := hf39.lt
      have hlt5b_ := hf40.lt
      refine w_seq ?_
      refine w_seq ?_
      refine w_region ?_
      refine rw_val (v := .int .i64 ((k : Nat) : Int)) (w' := w_L35) rfl rfl rfl rfl rfl ?_
      refine rw_val (v := .int .i64 ((j : Nat) : Int)) (w' := w_L35) rfl rfl rfl rfl rfl ?_
      refine rw_val (v := .bool (decide (((k : Nat) : Int) < ((j : Nat) : Int)))) (w' := w_L35) rfl rfl rfl rfl (by simp [go_sem, sEv, sLook, nbeq, i64_w, -List.getD_eq_getElem?_getD]) ?_
      refine rw_end ?_
      refine w_cond rfl rfl (fun cK => ?_) (fun cK => ?_)
      · have l41 : (((k : Nat) : Int) < ((j : Nat) : Int)) := of_decide_eq_true cK
        refine w_skip ?_
        refine w_seq ?_
        refine w_block ?_
        refine w_region ?_
        refine rw_val (v := .bool f) (w' := w_L35) rfl rfl rfl rfl rfl ?_
        refine rw_val (v := .bool f) (w' := w_L35) rfl rfl rfl rfl rfl ?_
        rcases bcase f with cF | cF
        · refine rw_off (c := f) rfl rfl rfl (by first | (rw [cF]; rfl) | simp [cF]) rfl rfl ?_
          refine rw_off (c := f) rfl rfl rfl (by first | (rw [cF]; rfl) | simp [cF]) rfl rfl ?_
          refine rw_off (c := f) rfl rfl rfl (by first | (rw [cF]; rfl) | simp [cF]) rfl rfl ?_
          refine rw_off (c := f) rfl rfl rfl (by first | (rw [cF]; rfl) | simp [cF]) rfl rfl ?_
          refine rw_off (c := f) rfl rfl rfl (by first | (rw [cF]; rfl) | simp [cF]) rfl rfl ?_
          refine rw_off (c := f) rfl rfl rfl (by first | (rw [cF]; rfl) | simp [cF]) rfl rfl ?_
          refine rw_val (v := .bool false) (w' := w_L35) rfl rfl rfl rfl (by first | (simp [go_sem, sEv, sLook, nbeq, i64_w, -List.getD_eq_getElem?_getD, cF]; done) | (rw [cF]; simp [go_sem, sEv, sLook, nbeq, i64_w, -List.getD_eq_getElem?_getD]; done) | (simp [go_sem, sEv, sLook, nbeq, i64_w, -List.getD_eq_getElem?_getD] <;> omega) | (simp [go_sem, sEv, sLook, nbeq, i64_w, -List.getD_eq_getElem?_getD]; intro h_; exact absurd (by omega) h_)) ?_
          refine rw_val (v := .bool false) (w' := w_L35) rfl rfl rfl rfl rfl ?_
          refine rw_end ?_
          refine w_weaken (G' := [(0, .slice (some ad23) l.length c1), (2, .pointer (some ⟨g1, 0, none⟩)), (3, .pointer (some ⟨g7, 0, none⟩)), (4, .int .i64 ((j : Nat) : Int)), (5, .pointer (some ⟨g26, 0, none⟩)), (6, .bool false), (7, .int .i64 ((k : Nat) : Int))]) ⟨rfl, rfl, rfl, rfl, rfl, rfl, rfl, trivial⟩ ?_
          refine w_blk ?_
          refine w_region ?_
          refine rw_val (v := .int .i64 ((k : Nat) : Int)) (w' := w_L35) rfl rfl rfl rfl rfl ?_
          refine rw_val (v := .int .i64 ((k + 1 : Nat) : Int)) (w' := w_L35) rfl rfl rfl rfl (by simp [go_sem, sEv, sLook, nbeq, i64_w, -List.getD_eq_getElem?_getD]; exact wrap_id (by omega) (by omega)) ?_
          refine rw_val (v := .int .i64 ((k + 1 : Nat) : Int)) (w' := w_L35) rfl rfl rfl rfl rfl ?_
          refine rw_end ?_
          exact w_back (m1_ - 1) [(0, .slice (some ad23) l.length c1), (2, .pointer (some ⟨g1, 0, none⟩)), (3, .pointer (some ⟨g7, 0, none⟩)), (4, .int .i64 ((j : Nat) : Int)), (5, .pointer (some ⟨g26, 0, none⟩)), (6, .bool false), (7, .int .i64 ((k + 1 : Nat) : Int))] (by omega) ⟨rfl, rfl, rfl, rfl, rfl, rfl, rfl, trivial⟩ ⟨(k + 1), false, by omega, hB_L35, (by rw [all_snoc l k (by omega), Bool.not_or, ← hf37]; simp [cF, -List.getD_eq_getElem?_getD]), hf38, hf39, hf40, rfl⟩
        · refine rw_on (c := f) rfl rfl rfl (by first | (rw [cF]; rfl) | simp [cF]) ?_
          refine rw_val (v := .slice (some ad23) l.length c1) (w' := w_L35) rfl rfl rfl rfl rfl ?_
          refine rw_on (c := f) rfl rfl rfl (by first | (rw [cF]; rfl) | simp [cF]) ?_
          refine rw_val (v := .int .i64 ((k : Nat) : Int)) (w' := w_L35) rfl rfl rfl rfl rfl ?_
          refine rw_on (c := f) rfl rfl rfl (by first | (rw [cF]; rfl) | simp [cF]) ?_
          obtain ⟨ad42, hA43, hc44⟩ := flat_at (Kd.C_below hl hB_L35) CL.unit k (by first | omega | decide)
          obtain rfl := Option.some.inj hA43
          refine rw_val (v := .pointer (some (ad23.add (k * 74)))) (w' := w_L35) rfl rfl rfl rfl (run_as (run_at_k (P := Try.prog) (e := 31) (sz := 74) (by kernel_rfl) (by kernel_rfl) k (by first | omega | decide) _)) ?_
          refine rw_on (c := f) rfl rfl rfl (by first | (rw [cF]; rfl) | simp [cF]) ?_
          refine rw_val (v := .agg (carr (l.getD k CL.unit))) (w' := w_L35) rfl rfl rfl rfl (run_as (load_el (c := (l.getD k CL.unit)) (fun j u hj => cellOn (hc44 j u hj) (Below.refl _ _)))) ?_
          refine rw_on (c := f) rfl rfl rfl (by first | (rw [cF]; rfl) | simp [cF]) ?_
          refine rw_val (v := .agg (carr CL.unit)) (w' := w_L35) rfl rfl rfl rfl (by kernel_rfl) ?_
          refine rw_on (c := f) rfl rfl rfl (by first | (rw [cF]; rfl) | simp [cF]) ?_
          refine rw_val (v := .bool (eqC (l.getD k CL.unit) CL.unit)) (w' := w_L35) rfl rfl rfl rfl (run_as (guard_eq_cell _ _ _ _ _)) ?_
          refine rw_val (v := .bool (eqC (l.getD k CL.unit) CL.unit)) (w' := w_L35) rfl rfl rfl rfl (by first | (simp [go_sem, sEv, sLook, nbeq, i64_w, -List.getD_eq_getElem?_getD, cF]; done) | (rw [cF]; simp [go_sem, sEv, sLook, nbeq, i64_w, -List.getD_eq_getElem?_getD]; done) | (simp [go_sem, sEv, sLook, nbeq, i64_w, -List.getD_eq_getElem?_getD] <;> omega) | (simp [go_sem, sEv, sLook, nbeq, i64_w, -List.getD_eq_getElem?_getD]; intro h_; exact absurd (by omega) h_)) ?_
          refine rw_val (v := .bool (eqC (l.getD k CL.unit) CL.unit)) (w' := w_L35) rfl rfl rfl rfl rfl ?_
          refine rw_end ?_
          refine w_weaken (G' := [(0, .slice (some ad23) l.length c1), (2, .pointer (some ⟨g1, 0, none⟩)), (3, .pointer (some ⟨g7, 0, none⟩)), (4, .int .i64 ((j : Nat) : Int)), (5, .pointer (some ⟨g26, 0, none⟩)), (6, .bool (eqC (l.getD k CL.unit) CL.unit)), (7, .int .i64 ((k : Nat) : Int))]) ⟨rfl, rfl, rfl, rfl, rfl, rfl, rfl, trivial⟩ ?_
          refine w_blk ?_
          refine w_region ?_
          refine rw_val (v := .int .i64 ((k : Nat) : Int)) (w' := w_L35) rfl rfl rfl rfl rfl ?_
          refine rw_val (v := .int .i64 ((k + 1 : Nat) : Int)) (w' := w_L35) rfl rfl rfl rfl (by simp [go_sem, sEv, sLook, nbeq, i64_w, -List.getD_eq_getElem?_getD]; exact wrap_id (by omega) (by omega)) ?_
          refine rw_val (v := .int .i64 ((k + 1 : Nat) : Int)) (w' := w_L35) rfl rfl rfl rfl rfl ?_
          refine rw_end ?_
          exact w_back (m1_ - 1) [(0, .slice (some ad23) l.length c1), (2, .pointer (some ⟨g1, 0, none⟩)), (3, .pointer (some ⟨g7, 0, none⟩)), (4, .int .i64 ((j : Nat) : Int)), (5, .pointer (some ⟨g26, 0, none⟩)), (6, .bool (eqC (l.getD k CL.unit) CL.unit)), (7, .int .i64 ((k + 1 : Nat) : Int))] (by omega) ⟨rfl, rfl, rfl, rfl, rfl, rfl, rfl, trivial⟩ ⟨(k + 1), (eqC (l.getD k CL.unit) CL.unit), by omega, hB_L35, (by rw [all_snoc l k (by omega), Bool.not_or, ← hf37]; simp [cF, -List.getD_eq_getElem?_getD]), hf38, hf39, hf40, rfl⟩
      · have l45 : ¬ (((k : Nat) : Int) < ((j : Nat) : Int)) := of_decide_eq_false cK
        refine w_exit rfl ?_
        refine w_seq ?_
        refine w_seq ?_
        refine w_region ?_
        refine rw_val (v := .bool f) (w' := w_L35) rfl rfl rfl rfl rfl ?_
        refine rw_end ?_
        refine w_cond rfl rfl (fun cF => ?_) (fun cF => ?_)
        · refine w_seq ?_
          refine w_region ?_
          refine rw_val (v := .agg (carr (l.getD j CL.unit))) (w' := w_L35) rfl rfl rfl rfl (run_as (load_cell (c := (l.getD j CL.unit)) hf40)) ?_
          refine rw_seg (g := g7) (off := 0) (ty := 31) (p := .tmp 3) (x := .tmp 38) (v := .agg (carr (l.getD j CL.unit))) (cs' := carr (l.getD j CL.unit)) rfl rfl rfl rfl rfl rfl hf39 (by show (sizeOf 31).run _ _ = .ok (carr _).size _; rw [carr_size]; kernel_rfl) (Nat.le_of_eq (by rw [Nat.zero_add]; exact (carr_size _).trans (carr_size _).symm)) (encC_one _) (seg_all o (l.getD j CL.unit)) ?_
          intro w46 hk47 hb48
          have hs_w46 := hk47.size
          refine rw_end ?_
          refine w_exit rfl ?_
          refine w_region ?_
          refine rw_val (v := .int .i64 ((j : Nat) : Int)) (w' := w46) rfl rfl rfl rfl rfl ?_
          refine rw_val (v := .int .i64 ((j + 1 : Nat) : Int)) (w' := w46) rfl rfl rfl rfl (by simp [go_sem, sEv, sLook, nbeq, i64_w, -List.getD_eq_getElem?_getD]; exact wrap_id (by omega) (by omega)) ?_
          refine rw_val (v := .int .i64 ((j + 1 : Nat) : Int)) (w' := w46) rfl rfl rfl rfl rfl ?_
          refine rw_end ?_
          exact w_back (m_ - 1) [(0, .slice (some ad23) l.length c1), (2, .pointer (some ⟨g1, 0, none⟩)), (3, .pointer (some ⟨g7, 0, none⟩)), (4, .int .i64 ((j + 1 : Nat) : Int))] (by omega) ⟨rfl, rfl, rfl, rfl, trivial⟩ ⟨(j + 1), (l.getD j CL.unit), true, by omega, (hk47.below (by omega) hB_L35), (by have hb2_ : b = false := (by rw [hbb_, ← show k = j by omega]; have h_ := hf37; rw [cF] at h_; simpa using h_); rw [joinS_succ l j (by omega), hf18]; unfold joinStep; rw [if_neg (by rw [cU]; decide), hb2_]; rfl), hb48, (hf38.keep hk47 (by omega)), (hhi _ (getD_mem l j CL.unit (by omega))), rfl⟩
        · refine w_skip ?_
          refine w_seq ?_
          refine w_region ?_
          refine rw_val (v := .pointer (some ⟨g7, 0, none⟩)) (w' := w_L35) rfl rfl rfl rfl (by simp [go_sem, sEv, sLook, nbeq, i64_w, -List.getD_eq_getElem?_getD, Try.underlying31]) ?_
          refine rw_val (v := .int .i64 o.cnt) (w' := w_L35) rfl rfl rfl rfl (by have eb_ := hf39; have e0_ := eb_.cellv (v := .int .i64 o.cnt) (cA0 o); simp [go_sem, sEv, sLook, nbeq, i64_w, -List.getD_eq_getElem?_getD, e0_]) ?_
          refine rw_val (v := .pointer (some ⟨g26, 0, none⟩)) (w' := w_L35) rfl rfl rfl rfl (by simp [go_sem, sEv, sLook, nbeq, i64_w, -List.getD_eq_getElem?_getD, Try.underlying31]) ?_
          refine rw_val (v := .int .i64 ((l.getD j CL.unit).cnt)) (w' := w_L35) rfl rfl rfl rfl (by have eb_ := hf40; have e0_ := eb_.cellv (v := .int .i64 ((l.getD j CL.unit).cnt)) (cA0 (l.getD j CL.unit)); simp [go_sem, sEv, sLook, nbeq, i64_w, -List.getD_eq_getElem?_getD, e0_]) ?_
          refine rw_val (v := .int .i64 (wrap64 (o.cnt + ((l.getD j CL.unit).cnt)))) (w' := w_L35) rfl rfl rfl rfl (by simp [go_sem, sEv, sLook, nbeq, i64_w, -List.getD_eq_getElem?_getD]) ?_
          refine rw_val (v := .pointer (some ⟨g7, 0, none⟩)) (w' := w_L35) rfl rfl rfl rfl (by simp [go_sem, sEv, sLook, nbeq, i64_w, -List.getD_eq_getElem?_getD, Try.underlying31]) ?_
          refine rw_seg (g := g7) (off := 0) (ty := 3) (p := .tmp 44) (x := .tmp 43) (v := .int .i64 (wrap64 (o.cnt + ((l.getD j CL.unit).cnt)))) (cs' := carr (⟨wrap64 (o.cnt + ((l.getD j CL.unit).cnt)), o.hi, o.lo, o.mn, o.mx, o.t, o.src, o.seq, o.v, o.h⟩ : CL)) rfl rfl rfl rfl rfl rfl hf39 (by kernel_rfl) (by rw [carr_size]; simp [Value.cells] <;> omega) (by intro q hq; simp only [List.mem_cons, List.not_mem_nil, or_false, Value.cells] at hq; (first | (rcases hq with rfl | rfl | rfl | rfl <;> rfl) | (rcases hq with rfl | rfl <;> rfl) | (subst hq; rfl))) (seg_cnt o (wrap64 (o.cnt + ((l.getD j CL.unit).cnt)))) ?_
          intro w49 hk50 hb51
          have hs_w49 := hk50.size
          refine rw_end ?_
          refine w_weaken (G' := [(0, .slice (some ad23) l.length c1), (2, .pointer (some ⟨g1, 0, none⟩)), (3, .pointer (some ⟨g7, 0, none⟩)), (4, .int .i64 ((j : Nat) : Int)), (5, .pointer (some ⟨g26, 0, none⟩))]) ⟨rfl, rfl, rfl, rfl, rfl, trivial⟩ ?_
          refine w_seq ?_
          refine w_region ?_
          refine rw_val (v := .pointer (some ⟨g7, 1, none⟩)) (w' := w49) rfl rfl rfl rfl (by simp [go_sem, sEv, sLook, nbeq, i64_w, -List.getD_eq_getElem?_getD, Try.underlying31]) ?_
          refine rw_val (v := .agg #[.int .i64 o.hi, .int .u64 o.lo]) (w' := w49) rfl rfl rfl rfl (by have eb_ := hb51; have e0_ := eb_.cellv (v := .int .i64 o.hi) (cA1 (⟨wrap64 (o.cnt + ((l.getD j CL.unit).cnt)), o.hi, o.lo, o.mn, o.mx, o.t, o.src, o.seq, o.v, o.h⟩ : CL)); have e1_ := eb_.cellv (v := .int .u64 o.lo) (cA2 (⟨wrap64 (o.cnt + ((l.getD j CL.unit).cnt)), o.hi, o.lo, o.mn, o.mx, o.t, o.src, o.seq, o.v, o.h⟩ : CL)); simp [go_sem, sEv, sLook, nbeq, i64_w, -List.getD_eq_getElem?_getD, e0_, e1_, Try.underlying26]) ?_
          refine rw_val (v := .pointer (some ⟨g26, 1, none⟩)) (w' := w49) rfl rfl rfl rfl (by simp [go_sem, sEv, sLook, nbeq, i64_w, -List.getD_eq_getElem?_getD, Try.underlying31]) ?_
          refine rw_val (v := .agg #[.int .i64 ((l.getD j CL.unit).hi), .int .u64 ((l.getD j CL.unit).lo)]) (w' := w49) rfl rfl rfl rfl (by have eb_ := (hf40.keep hk50 (by omega)); have e0_ := eb_.cellv (v := .int .i64 ((l.getD j CL.unit).hi)) (cA1 (l.getD j CL.unit)); have e1_ := eb_.cellv (v := .int .u64 ((l.getD j CL.unit).lo)) (cA2 (l.getD j CL.unit)); simp [go_sem, sEv, sLook, nbeq, i64_w, -List.getD_eq_getElem?_getD, e0_, e1_, Try.underlying26]) ?_
          refine rw_call rfl rfl rfl rfl (f := 25) (args := #[.agg #[.int .i64 o.hi, .int .u64 o.lo], .agg #[.int .i64 ((l.getD j CL.unit).hi), .int .u64 ((l.getD j CL.unit).lo)]]) (by simp [go_sem, sEv, sLook, nbeq, i64_w, -List.getD_eq_getElem?_getD]) (radd_calls o.hi o.lo ((l.getD j CL.unit).hi) ((l.getD j CL.unit).lo) hhi_ hlo_ hhe_ hle_ w49) ?_
          rintro e_ w52 ⟨rfl, hb53⟩
          refine ⟨_, rfl, ?_⟩
          have hs_w52 := hb53.size
          refine rw_val (v := .pointer (some ⟨g7, 1, none⟩)) (w' := w52) rfl rfl rfl rfl (by simp [go_sem, sEv, sLook, nbeq, i64_w, -List.getD_eq_getElem?_getD, Try.underlying31]) ?_
          refine rw_seg (g := g7) (off := 1) (ty := 26) (p := .tmp 50) (x := .tmp 49) (v := .agg #[.int .i64 (wh o.hi o.lo ((l.getD j CL.unit).hi) ((l.getD j CL.unit).lo)), .int .u64 (wl o.lo ((l.getD j CL.unit).lo))]) (cs' := carr (⟨wrap64 (o.cnt + ((l.getD j CL.unit).cnt)), (wh o.hi o.lo ((l.getD j CL.unit).hi) ((l.getD j CL.unit).lo)), (wl o.lo ((l.getD j CL.unit).lo)), o.mn, o.mx, o.t, o.src, o.seq, o.v, o.h⟩ : CL)) rfl rfl rfl rfl rfl rfl (hb51.on hb53) (by kernel_rfl) (by rw [carr_size]; simp [Value.cells] <;> omega) (by intro q hq; simp only [List.mem_cons, List.not_mem_nil, or_false, Value.cells] at hq; (first | (rcases hq with rfl | rfl | rfl | rfl <;> rfl) | (rcases hq with rfl | rfl <;> rfl) | (subst hq; rfl))) (seg_sum (⟨wrap64 (o.cnt + ((l.getD j CL.unit).cnt)), o.hi, o.lo, o.mn, o.mx, o.t, o.src, o.seq, o.v, o.h⟩ : CL) (wh o.hi o.lo ((l.getD j CL.unit).hi) ((l.getD j CL.unit).lo)) (wl o.lo ((l.getD j CL.unit).lo))) ?_
          intro w54 hk55 hb56
          have hs_w54 := hk55.size
          refine rw_end ?_
          refine w_weaken (G' := [(0, .slice (some ad23) l.length c1), (2, .pointer (some ⟨g1, 0, none⟩)), (3, .pointer (some ⟨g7, 0, none⟩)), (4, .int .i64 ((j : Nat) : Int)), (5, .pointer (some ⟨g26, 0, none⟩))]) ⟨rfl, rfl, rfl, rfl, rfl, trivial⟩ ?_
          refine w_seq ?_
          refine w_seq ?_
          refine w_region ?_
          refine rw_val (v := .pointer (some ⟨g26, 3, none⟩)) (w' := w54) rfl rfl rfl rfl (by simp [go_sem, sEv, sLook, nbeq, i64_w, -List.getD_eq_getElem?_getD, Try.underlying31]) ?_
          refine rw_val (v := .int .i64 ((l.getD j CL.unit).mn)) (w' := w54) rfl rfl rfl rfl (by have eb_ := (((hf40.keep hk50 (by omega)).on hb53).keep hk55 (by omega)); have e0_ := eb_.cellv (v := .int .i64 ((l.getD j CL.unit).mn)) (cA3 (l.getD j CL.unit)); simp [go_sem, sEv, sLook, nbeq, i64_w, -List.getD_eq_getElem?_getD, e0_]) ?_
          refine rw_val (v := .pointer (some ⟨g7, 3, none⟩)) (w' := w54) rfl rfl rfl rfl (by simp [go_sem, sEv, sLook, nbeq, i64_w, -List.getD_eq_getElem?_getD, Try.underlying31]) ?_
          refine rw_val (v := .int .i64 o.mn) (w' := w54) rfl rfl rfl rfl (by have eb_ := hb56; have e0_ := eb_.cellv (v := .int .i64 o.mn) (cA3 (⟨wrap64 (o.cnt + ((l.getD j CL.unit).cnt)), (wh o.hi o.lo ((l.getD j CL.unit).hi) ((l.getD j CL.unit).lo)), (wl o.lo ((l.getD j CL.unit).lo)), o.mn, o.mx, o.t, o.src, o.seq, o.v, o.h⟩ : CL)); simp [go_sem, sEv, sLook, nbeq, i64_w, -List.getD_eq_getElem?_getD, e0_]) ?_
          refine rw_val (v := .bool (decide (((l.getD j CL.unit).mn) < o.mn))) (w' := w54) rfl rfl rfl rfl (by simp [go_sem, sEv, sLook, nbeq, i64_w, -List.getD_eq_getElem?_getD]) ?_
          refine rw_end ?_
          refine w_weaken (G' := [(0, .slice (some ad23) l.length c1), (2, .pointer (some ⟨g1, 0, none⟩)), (3, .pointer (some ⟨g7, 0, none⟩)), (4, .int .i64 ((j : Nat) : Int)), (5, .pointer (some ⟨g26, 0, none⟩)), (55, .bool (decide (((l.getD j CL.unit).mn) < o.mn)))]) ⟨rfl, rfl, rfl, rfl, rfl, rfl, trivial⟩ ?_
          refine w_cond rfl rfl (fun cMn => ?_) (fun cMn => ?_)
          · have l57 : (((l.getD j CL.unit).mn) < o.mn) := of_decide_eq_true cMn
            refine w_region ?_
            refine rw_val (v := .pointer (some ⟨g26, 3, none⟩)) (w' := w54) rfl rfl rfl rfl (by simp [go_sem, sEv, sLook, nbeq, i64_w, -List.getD_eq_getElem?_getD, Try.underlying31]) ?_
            refine rw_val (v := .int .i64 ((l.getD j CL.unit).mn)) (w' := w54) rfl rfl rfl rfl (by have eb_ := (((hf40.keep hk50 (by omega)).on hb53).keep hk55 (by omega)); have e0_ := eb_.cellv (v := .int .i64 ((l.getD j CL.unit).mn)) (cA3 (l.getD j CL.unit)); simp [go_sem, sEv, sLook, nbeq, i64_w, -List.getD_eq_getElem?_getD, e0_]) ?_
            refine rw_val (v := .pointer (some ⟨g7, 3, none⟩)) (w' := w54) rfl rfl rfl rfl (by simp [go_sem, sEv, sLook, nbeq, i64_w, -List.getD_eq_getElem?_getD, Try.underlying31]) ?_
            refine rw_seg (g := g7) (off := 3) (ty := 3) (p := .tmp 58) (x := .tmp 57) (v := .int .i64 ((l.getD j CL.unit).mn)) (cs' := carr (⟨wrap64 (o.cnt + ((l.getD j CL.unit).cnt)), (wh o.hi o.lo ((l.getD j CL.unit).hi) ((l.getD j CL.unit).lo)), (wl o.lo ((l.getD j CL.unit).lo)), (l.getD j CL.unit).mn, o.mx, o.t, o.src, o.seq, o.v, o.h⟩ : CL)) rfl rfl rfl rfl rfl rfl hb56 (by kernel_rfl) (by rw [carr_size]; simp [Value.cells] <;> omega) (by intro q hq; simp only [List.mem_cons, List.not_mem_nil, or_false, Value.cells] at hq; (first | (rcases hq with rfl | rfl | rfl | rfl <;> rfl) | (rcases hq with rfl | rfl <;> rfl) | (subst hq; rfl))) (seg_mn (⟨wrap64 (o.cnt + ((l.getD j CL.unit).cnt)), (wh o.hi o.lo ((l.getD j CL.unit).hi) ((l.getD j CL.unit).lo)), (wl o.lo ((l.getD j CL.unit).lo)), o.mn, o.mx, o.t, o.src, o.seq, o.v, o.h⟩ : CL) ((l.getD j CL.unit).mn)) ?_
            intro w58 hk59 hb60
            have hs_w58 := hk59.size
            refine rw_end ?_
            refine w_weaken (G' := [(0, .slice (some ad23) l.length c1), (2, .pointer (some ⟨g1, 0, none⟩)), (3, .pointer (some ⟨g7, 0, none⟩)), (4, .int .i64 ((j : Nat) : Int)), (5, .pointer (some ⟨g26, 0, none⟩))]) ⟨rfl, rfl, rfl, rfl, rfl, trivial⟩ ?_
            refine w_seq ?_
            refine w_seq ?_
            refine w_region ?_
            refine rw_val (v := .pointer (some ⟨g26, 4, none⟩)) (w' := w58) rfl rfl rfl rfl (by simp [go_sem, sEv, sLook, nbeq, i64_w, -List.getD_eq_getElem?_getD, Try.underlying31]) ?_
            refine rw_val (v := .int .i64 ((l.getD j CL.unit).mx)) (w' := w58) rfl rfl rfl rfl (by have eb_ := ((((hf40.keep hk50 (by omega)).on hb53).keep hk55 (by omega)).keep hk59 (by omega)); have e0_ := eb_.cellv (v := .int .i64 ((l.getD j CL.unit).mx)) (cA4 (l.getD j CL.unit)); simp [go_sem, sEv, sLook, nbeq, i64_w, -List.getD_eq_getElem?_getD, e0_]) ?_
            refine rw_val (v := .pointer (some ⟨g7, 4, none⟩)) (w' := w58) rfl rfl rfl rfl (by simp [go_sem, sEv, sLook, nbeq, i64_w, -List.getD_eq_getElem?_getD, Try.underlying31]) ?_
            refine rw_val (v := .int .i64 o.mx) (w' := w58) rfl rfl rfl rfl (by have eb_ := hb60; have e0_ := eb_.cellv (v := .int .i64 o.mx) (cA4 (⟨wrap64 (o.cnt + ((l.getD j CL.unit).cnt)), (wh o.hi o.lo ((l.getD j CL.unit).hi) ((l.getD j CL.unit).lo)), (wl o.lo ((l.getD j CL.unit).lo)), (l.getD j CL.unit).mn, o.mx, o.t, o.src, o.seq, o.v, o.h⟩ : CL)); simp [go_sem, sEv, sLook, nbeq, i64_w, -List.getD_eq_getElem?_getD, e0_]) ?_
            refine rw_val (v := .bool (decide (o.mx < ((l.getD j CL.unit).mx)))) (w' := w58) rfl rfl rfl rfl (by simp [go_sem, sEv, sLook, nbeq, i64_w, -List.getD_eq_getElem?_getD]) ?_
            refine rw_end ?_
            refine w_weaken (G' := [(0, .slice (some ad23) l.length c1), (2, .pointer (some ⟨g1, 0, none⟩)), (3, .pointer (some ⟨g7, 0, none⟩)), (4, .int .i64 ((j : Nat) : Int)), (5, .pointer (some ⟨g26, 0, none⟩)), (63, .bool (decide (o.mx < ((l.getD j CL.unit).mx))))]) ⟨rfl, rfl, rfl, rfl, rfl, rfl, trivial⟩ ?_
            refine w_cond rfl rfl (fun cMx => ?_) (fun cMx => ?_)
            · have l61 : (o.mx < ((l.getD j CL.unit).mx)) := of_decide_eq_true cMx
              refine w_region ?_
              refine rw_val (v := .pointer (some ⟨g26, 4, none⟩)) (w' := w58) rfl rfl rfl rfl (by simp [go_sem, sEv, sLook, nbeq, i64_w, -List.getD_eq_getElem?_getD, Try.underlying31]) ?_
              refine rw_val (v := .int .i64 ((l.getD j CL.unit).mx)) (w' := w58) rfl rfl rfl rfl (by have eb_ := ((((hf40.keep hk50 (by omega)).on hb53).keep hk55 (by omega)).keep hk59 (by omega)); have e0_ := eb_.cellv (v := .int .i64 ((l.getD j CL.unit).mx)) (cA4 (l.getD j CL.unit)); simp [go_sem, sEv, sLook, nbeq, i64_w, -List.getD_eq_getElem?_getD, e0_]) ?_
              refine rw_val (v := .pointer (some ⟨g7, 4, none⟩)) (w' := w58) rfl rfl rfl rfl (by simp [go_sem, sEv, sLook, nbeq, i64_w, -List.getD_eq_getElem?_getD, Try.underlying31]) ?_
              refine rw_seg (g := g7) (off := 4) (ty := 3) (p := .tmp 66) (x := .tmp 65) (v := .int .i64 ((l.getD j CL.unit).mx)) (cs' := carr (⟨wrap64 (o.cnt + ((l.getD j CL.unit).cnt)), (wh o.hi o.lo ((l.getD j CL.unit).hi) ((l.getD j CL.unit).lo)), (wl o.lo ((l.getD j CL.unit).lo)), (l.getD j CL.unit).mn, (l.getD j CL.unit).mx, o.t, o.src, o.seq, o.v, o.h⟩ : CL)) rfl rfl rfl rfl rfl rfl hb60 (by kernel_rfl) (by rw [carr_size]; simp [Value.cells] <;> omega) (by intro q hq; simp only [List.mem_cons, List.not_mem_nil, or_false, Value.cells] at hq; (first | (rcases hq with rfl | rfl | rfl | rfl <;> rfl) | (rcases hq with rfl | rfl <;> rfl) | (subst hq; rfl))) (seg_mx (⟨wrap64 (o.cnt + ((l.getD j CL.unit).cnt)), (wh o.hi o.lo ((l.getD j CL.unit).hi) ((l.getD j CL.unit).lo)), (wl o.lo ((l.getD j CL.unit).lo)), (l.getD j CL.unit).mn, o.mx, o.t, o.src, o.seq, o.v, o.h⟩ : CL) ((l.getD j CL.unit).mx)) ?_
              intro w62 hk63 hb64
              have hs_w62 := hk63.size
              refine rw_end ?_
              refine w_weaken (G' := [(0, .slice (some ad23) l.length c1), (2, .pointer (some ⟨g1, 0, none⟩)), (3, .pointer (some ⟨g7, 0, none⟩)), (4, .int .i64 ((j : Nat) : Int)), (5, .pointer (some ⟨g26, 0, none⟩))]) ⟨rfl, rfl, rfl, rfl, rfl, trivial⟩ ?_
              refine w_seq ?_
              refine w_seq ?_
              refine w_region ?_
              refine rw_val (v := .pointer (some ⟨g26, 5, none⟩)) (w' := w62) rfl rfl rfl rfl (by simp [go_sem, sEv, sLook, nbeq, i64_w, -List.getD_eq_getElem?_getD, Try.underlying31]) ?_
              refine rw_val (v := .agg #[.int .i64 ((l.getD j CL.unit).t), .int .i64 ((l.getD j CL.unit).src), .int .i64 ((l.getD j CL.unit).seq), .int .i64 ((l.getD j CL.unit).v)]) (w' := w62) rfl rfl rfl rfl (by have eb_ := (((((hf40.keep hk50 (by omega)).on hb53).keep hk55 (by omega)).keep hk59 (by omega)).keep hk63 (by omega)); have e0_ := eb_.cellv (v := .int .i64 ((l.getD j CL.unit).t)) (cA5 (l.getD j CL.unit)); have e1_ := eb_.cellv (v := .int .i64 ((l.getD j CL.unit).src)) (cA6 (l.getD j CL.unit)); have e2_ := eb_.cellv (v := .int .i64 ((l.getD j CL.unit).seq)) (cA7 (l.getD j CL.unit)); have e3_ := eb_.cellv (v := .int .i64 ((l.getD j CL.unit).v)) (cA8 (l.getD j CL.unit)); simp [go_sem, sEv, sLook, nbeq, i64_w, -List.getD_eq_getElem?_getD, e0_, e1_, e2_, e3_, Try.underlying28]) ?_
              refine rw_val (v := .pointer (some ⟨g7, 5, none⟩)) (w' := w62) rfl rfl rfl rfl (by simp [go_sem, sEv, sLook, nbeq, i64_w, -List.getD_eq_getElem?_getD, Try.underlying31]) ?_
              refine rw_val (v := .agg #[.int .i64 o.t, .int .i64 o.src, .int .i64 o.seq, .int .i64 o.v]) (w' := w62) rfl rfl rfl rfl (by have eb_ := hb64; have e0_ := eb_.cellv (v := .int .i64 o.t) (cA5 (⟨wrap64 (o.cnt + ((l.getD j CL.unit).cnt)), (wh o.hi o.lo ((l.getD j CL.unit).hi) ((l.getD j CL.unit).lo)), (wl o.lo ((l.getD j CL.unit).lo)), (l.getD j CL.unit).mn, (l.getD j CL.unit).mx, o.t, o.src, o.seq, o.v, o.h⟩ : CL)); have e1_ := eb_.cellv (v := .int .i64 o.src) (cA6 (⟨wrap64 (o.cnt + ((l.getD j CL.unit).cnt)), (wh o.hi o.lo ((l.getD j CL.unit).hi) ((l.getD j CL.unit).lo)), (wl o.lo ((l.getD j CL.unit).lo)), (l.getD j CL.unit).mn, (l.getD j CL.unit).mx, o.t, o.src, o.seq, o.v, o.h⟩ : CL)); have e2_ := eb_.cellv (v := .int .i64 o.seq) (cA7 (⟨wrap64 (o.cnt + ((l.getD j CL.unit).cnt)), (wh o.hi o.lo ((l.getD j CL.unit).hi) ((l.getD j CL.unit).lo)), (wl o.lo ((l.getD j CL.unit).lo)), (l.getD j CL.unit).mn, (l.getD j CL.unit).mx, o.t, o.src, o.seq, o.v, o.h⟩ : CL)); have e3_ := eb_.cellv (v := .int .i64 o.v) (cA8 (⟨wrap64 (o.cnt + ((l.getD j CL.unit).cnt)), (wh o.hi o.lo ((l.getD j CL.unit).hi) ((l.getD j CL.unit).lo)), (wl o.lo ((l.getD j CL.unit).lo)), (l.getD j CL.unit).mn, (l.getD j CL.unit).mx, o.t, o.src, o.seq, o.v, o.h⟩ : CL)); simp [go_sem, sEv, sLook, nbeq, i64_w, -List.getD_eq_getElem?_getD, e0_, e1_, e2_, e3_, Try.underlying28]) ?_
              refine rw_call rfl rfl rfl rfl (f := 17) (args := #[.agg #[.int .i64 ((l.getD j CL.unit).t), .int .i64 ((l.getD j CL.unit).src), .int .i64 ((l.getD j CL.unit).seq), .int .i64 ((l.getD j CL.unit).v)], .agg #[.int .i64 o.t, .int .i64 o.src, .int .i64 o.seq, .int .i64 o.v]]) (by simp [go_sem, sEv, sLook, nbeq, i64_w, -List.getD_eq_getElem?_getD]) (rlater_calls ((l.getD j CL.unit).t) ((l.getD j CL.unit).src) ((l.getD j CL.unit).seq) ((l.getD j CL.unit).v) o.t o.src o.seq o.v w62) ?_
              rintro e_ w65 ⟨rfl, hb66⟩
              refine ⟨_, rfl, ?_⟩
              have hs_w65 := hb66.size
              refine rw_end ?_
              refine w_weaken (G' := [(0, .slice (some ad23) l.length c1), (2, .pointer (some ⟨g1, 0, none⟩)), (3, .pointer (some ⟨g7, 0, none⟩)), (4, .int .i64 ((j : Nat) : Int)), (5, .pointer (some ⟨g26, 0, none⟩)), (71, .bool (later ((l.getD j CL.unit).t) ((l.getD j CL.unit).src) ((l.getD j CL.unit).seq) ((l.getD j CL.unit).v) o.t o.src o.seq o.v))]) ⟨rfl, rfl, rfl, rfl, rfl, rfl, trivial⟩ ?_
              refine w_cond rfl rfl (fun cL => ?_) (fun cL => ?_)
              · refine w_region ?_
                refine rw_val (v := .pointer (some ⟨g26, 5, none⟩)) (w' := w65) rfl rfl rfl rfl (by simp [go_sem, sEv, sLook, nbeq, i64_w, -List.getD_eq_getElem?_getD, Try.underlying31]) ?_
                refine rw_val (v := .agg #[.int .i64 ((l.getD j CL.unit).t), .int .i64 ((l.getD j CL.unit).src), .int .i64 ((l.getD j CL.unit).seq), .int .i64 ((l.getD j CL.unit).v)]) (w' := w65) rfl rfl rfl rfl (by have eb_ := ((((((hf40.keep hk50 (by omega)).on hb53).keep hk55 (by omega)).keep hk59 (by omega)).keep hk63 (by omega)).on hb66); have e0_ := eb_.cellv (v := .int .i64 ((l.getD j CL.unit).t)) (cA5 (l.getD j CL.unit)); have e1_ := eb_.cellv (v := .int .i64 ((l.getD j CL.unit).src)) (cA6 (l.getD j CL.unit)); have e2_ := eb_.cellv (v := .int .i64 ((l.getD j CL.unit).seq)) (cA7 (l.getD j CL.unit)); have e3_ := eb_.cellv (v := .int .i64 ((l.getD j CL.unit).v)) (cA8 (l.getD j CL.unit)); simp [go_sem, sEv, sLook, nbeq, i64_w, -List.getD_eq_getElem?_getD, e0_, e1_, e2_, e3_, Try.underlying28]) ?_
                refine rw_val (v := .pointer (some ⟨g7, 5, none⟩)) (w' := w65) rfl rfl rfl rfl (by simp [go_sem, sEv, sLook, nbeq, i64_w, -List.getD_eq_getElem?_getD, Try.underlying31]) ?_
                refine rw_seg (g := g7) (off := 5) (ty := 28) (p := .tmp 74) (x := .tmp 73) (v := .agg #[.int .i64 ((l.getD j CL.unit).t), .int .i64 ((l.getD j CL.unit).src), .int .i64 ((l.getD j CL.unit).seq), .int .i64 ((l.getD j CL.unit).v)]) (cs' := carr (⟨wrap64 (o.cnt + ((l.getD j CL.unit).cnt)), (wh o.hi o.lo ((l.getD j CL.unit).hi) ((l.getD j CL.unit).lo)), (wl o.lo ((l.getD j CL.unit).lo)), (l.getD j CL.unit).mn, (l.getD j CL.unit).mx, (l.getD j CL.unit).t, (l.getD j CL.unit).src, (l.getD j CL.unit).seq, (l.getD j CL.unit).v, o.h⟩ : CL)) rfl rfl rfl rfl rfl rfl (hb64.on hb66) (by kernel_rfl) (by rw [carr_size]; simp [Value.cells] <;> omega) (by intro q hq; simp only [List.mem_cons, List.not_mem_nil, or_false, Value.cells] at hq; (first | (rcases hq with rfl | rfl | rfl | rfl <;> rfl) | (rcases hq with rfl | rfl <;> rfl) | (subst hq; rfl))) (seg_last (⟨wrap64 (o.cnt + ((l.getD j CL.unit).cnt)), (wh o.hi o.lo ((l.getD j CL.unit).hi) ((l.getD j CL.unit).lo)), (wl o.lo ((l.getD j CL.unit).lo)), (l.getD j CL.unit).mn, (l.getD j CL.unit).mx, o.t, o.src, o.seq, o.v, o.h⟩ : CL) ((l.getD j CL.unit).t) ((l.getD j CL.unit).src) ((l.getD j CL.unit).seq) ((l.getD j CL.unit).v)) ?_
                intro w67 hk68 hb69
                have hs_w67 := hk68.size
                refine rw_end ?_
                refine w_weaken (G' := [(0, .slice (some ad23) l.length c1), (2, .pointer (some ⟨g1, 0, none⟩)), (3, .pointer (some ⟨g7, 0, none⟩)), (4, .int .i64 ((j : Nat) : Int)), (5, .pointer (some ⟨g26, 0, none⟩))]) ⟨rfl, rfl, rfl, rfl, rfl, trivial⟩ ?_
                refine w_seq ?_
                refine w_region ?_
                refine rw_val (v := .int .i64 0) (w' := w67) rfl rfl rfl rfl rfl ?_
                refine rw_end ?_
                refine w_block ?_
                refine w_loop (fun m_ G W_ => ∃ (q : Nat), q + m_ = 65 ∧ Below w.heap.size w W_ ∧ (Blk W_ g7 31 (carr (⟨wrap64 (o.cnt + ((l.getD j CL.unit).cnt)), (wh o.hi o.lo ((l.getD j CL.unit).hi) ((l.getD j CL.unit).lo)), (wl o.lo ((l.getD j CL.unit).lo)), (l.getD j CL.unit).mn, (l.getD j CL.unit).mx, (l.getD j CL.unit).t, (l.getD j CL.unit).src, (l.getD j CL.unit).seq, (l.getD j CL.unit).v, (sumF o.h (l.getD j CL.unit).h q)⟩ : CL))) ∧ (Blk W_ g1 31 (carr CL.unit)) ∧ (Blk W_ g26 31 (carr (l.getD j CL.unit))) ∧ G = [(0, .slice (some ad23) l.length c1), (2, .pointer (some ⟨g1, 0, none⟩)), (3, .pointer (some ⟨g7, 0, none⟩)), (4, .int .i64 ((j : Nat) : Int)), (5, .pointer (some ⟨g26, 0, none⟩)), (8, .int .i64 ((q : Nat) : Int))]) 65 [(0, .slice (some ad23) l.length c1), (2, .pointer (some ⟨g1, 0, none⟩)), (3, .pointer (some ⟨g7, 0, none⟩)), (4, .int .i64 ((j : Nat) : Int)), (5, .pointer (some ⟨g26, 0, none⟩)), (8, .int .i64 0)] ⟨0, by omega, (hk68.below (by omega) (chain (hk63.below (by omega) (hk59.below (by omega) (hk55.below (by omega) (chain (hk50.below (by omega) hB_L35) hb53)))) hb66)), (by rw [sumF_zero]; exact hb69), (((((((hf38.keep hk50 (by omega)).on hb53).keep hk55 (by omega)).keep hk59 (by omega)).keep hk63 (by omega)).on hb66).keep hk68 (by omega)), (((((((hf40.keep hk50 (by omega)).on hb53).keep hk55 (by omega)).keep hk59 (by omega)).keep hk63 (by omega)).on hb66).keep hk68 (by omega)), rfl⟩ ⟨rfl, rfl, rfl, rfl, rfl, rfl, trivial⟩ ?_
                rintro m2_ G w_L70 ⟨q, hp71, hB_L70, hf72, hf73, hf74, rfl⟩
                have hs_w_L70 := hB_L70.size
                have hlt3c_ := hf72.lt
                have hlt2c_ := hf73.lt
                have hlt5c_ := hf74.lt
                refine w_seq ?_
                refine w_seq ?_
                refine w_region ?_
                refine rw_val (v := .int .i64 ((q : Nat) : Int)) (w' := w_L70) rfl rfl rfl rfl rfl ?_
                refine rw_val (v := .bool (decide (((q : Nat) : Int) < 65))) (w' := w_L70) rfl rfl rfl rfl (by simp [go_sem, sEv, sLook, nbeq, i64_w, -List.getD_eq_getElem?_getD]) ?_
                refine rw_end ?_
                refine w_cond rfl rfl (fun cQ => ?_) (fun cQ => ?_)
                · have l75 : (((q : Nat) : Int) < 65) := of_decide_eq_true cQ
                  refine w_skip ?_
                  refine w_seq ?_
                  refine w_block ?_
                  refine w_drawk (M := [0, 0, 0, 6, 14, 0, 0, 96, 224, 510, 0, 2047, 4095]) (ss := [Is (.int .i64 ((q : Nat) : Int)), Is (.int .i64 ((q : Nat) : Int)), Is (.pointer (some ⟨g7, 9, none⟩)), Is (.pointer (some ⟨g7, 9 + q, none⟩)), Is (.int .i64 (atF (sumF o.h (l.getD j CL.unit).h q) q)), Is (.int .i64 ((q : Nat) : Int)), Is (.pointer (some ⟨g26, 9, none⟩)), Is (.pointer (some ⟨g26, 9 + q, none⟩)), Is (.int .i64 (atF ((l.getD j CL.unit).h) q)), Is (.int .i64 (wrap64 ((atF (sumF o.h (l.getD j CL.unit).h q) q) + (atF ((l.getD j CL.unit).h) q)))), Is (.pointer (some ⟨g7, 9, none⟩))]) 11 rfl (by decide +kernel) ?_
                  refine t_is (.int .i64 ((q : Nat) : Int)) rfl rfl rfl rfl (fun W_ hW_ F_ => rfl) ?_
                  refine t_is (.int .i64 ((q : Nat) : Int)) rfl rfl rfl rfl (fun W_ hW_ F_ => rfl) ?_
                  refine t_is (.pointer (some ⟨g7, 9, none⟩)) rfl rfl rfl rfl (fun W_ hW_ F_ => by simp [go_sem, sEv, sLook, nbeq, i64_w, -List.getD_eq_getElem?_getD, Try.underlying31]) ?_
                  refine t_is (.pointer (some ⟨g7, 9 + q, none⟩)) rfl rfl rfl rfl (fun W_ hW_ F_ => (run_as (addr_hist q (by omega) _))) ?_
                  refine t_is (.int .i64 (atF (sumF o.h (l.getD j CL.unit).h q) q)) rfl rfl rfl rfl (fun W_ hW_ F_ => (by have e0_ := ((hf72.on (below_of_drew hW_))).cellv (cHA (⟨wrap64 (o.cnt + ((l.getD j CL.unit).cnt)), (wh o.hi o.lo ((l.getD j CL.unit).hi) ((l.getD j CL.unit).lo)), (wl o.lo ((l.getD j CL.unit).lo)), (l.getD j CL.unit).mn, (l.getD j CL.unit).mx, (l.getD j CL.unit).t, (l.getD j CL.unit).src, (l.getD j CL.unit).seq, (l.getD j CL.unit).v, (sumF o.h (l.getD j CL.unit).h q)⟩ : CL) q (by omega)); simp [go_sem, sEv, sLook, nbeq, i64_w, -List.getD_eq_getElem?_getD, e0_])) ?_
                  refine t_is (.int .i64 ((q : Nat) : Int)) rfl rfl rfl rfl (fun W_ hW_ F_ => rfl) ?_
                  refine t_is (.pointer (some ⟨g26, 9, none⟩)) rfl rfl rfl rfl (fun W_ hW_ F_ => by simp [go_sem, sEv, sLook, nbeq, i64_w, -List.getD_eq_getElem?_getD, Try.underlying31]) ?_
                  refine t_is (.pointer (some ⟨g26, 9 + q, none⟩)) rfl rfl rfl rfl (fun W_ hW_ F_ => (run_as (addr_hist q (by omega) _))) ?_
                  refine t_is (.int .i64 (atF ((l.getD j CL.unit).h) q)) rfl rfl rfl rfl (fun W_ hW_ F_ => (by have e0_ := ((hf74.on (below_of_drew hW_))).cellv (cHA (l.getD j CL.unit) q (by omega)); simp [go_sem, sEv, sLook, nbeq, i64_w, -List.getD_eq_getElem?_getD, e0_])) ?_
                  refine t_is (.int .i64 (wrap64 ((atF (sumF o.h (l.getD j CL.unit).h q) q) + (atF ((l.getD j CL.unit).h) q)))) rfl rfl rfl rfl (fun W_ hW_ F_ => by simp [go_sem, sEv, sLook, nbeq, i64_w, -List.getD_eq_getElem?_getD]) ?_
                  refine t_is (.pointer (some ⟨g7, 9, none⟩)) rfl rfl rfl rfl (fun W_ hW_ F_ => by simp [go_sem, sEv, sLook, nbeq, i64_w, -List.getD_eq_getElem?_getD, Try.underlying31]) ?_
                  refine t_tail ?_
                  intro w76 hb77_ F78
                  have hb77 := below_of_drew hb77_
                  have hs_w76 := hb77.size
                  refine rw_val (v := .pointer (some ⟨g7, 9 + q, none⟩)) (w' := w76) rfl rfl rfl rfl (run_as (addr_hist q (by omega) _)) ?_
                  refine rw_seg (g := g7) (off := (9 + q)) (ty := 3) (p := .tmp 90) (x := .tmp 88) (v := .int .i64 (wrap64 ((atF (sumF o.h (l.getD j CL.unit).h q) q) + (atF ((l.getD j CL.unit).h) q)))) (cs' := carr (⟨wrap64 (o.cnt + ((l.getD j CL.unit).cnt)), (wh o.hi o.lo ((l.getD j CL.unit).hi) ((l.getD j CL.unit).lo)), (wl o.lo ((l.getD j CL.unit).lo)), (l.getD j CL.unit).mn, (l.getD j CL.unit).mx, (l.getD j CL.unit).t, (l.getD j CL.unit).src, (l.getD j CL.unit).seq, (l.getD j CL.unit).v, (updF (sumF o.h (l.getD j CL.unit).h q) q (wrap64 ((atF (sumF o.h (l.getD j CL.unit).h q) q) + (atF ((l.getD j CL.unit).h) q))))⟩ : CL)) rfl rfl rfl rfl rfl rfl (hf72.on hb77) (by kernel_rfl) (by rw [carr_size]; show 9 + q + 1 ≤ 74; omega) (by intro q hq; simp only [List.mem_cons, List.not_mem_nil, or_false, Value.cells] at hq; (first | (rcases hq with rfl | rfl | rfl | rfl <;> rfl) | (rcases hq with rfl | rfl <;> rfl) | (subst hq; rfl))) (seg_h (⟨wrap64 (o.cnt + ((l.getD j CL.unit).cnt)), (wh o.hi o.lo ((l.getD j CL.unit).hi) ((l.getD j CL.unit).lo)), (wl o.lo ((l.getD j CL.unit).lo)), (l.getD j CL.unit).mn, (l.getD j CL.unit).mx, (l.getD j CL.unit).t, (l.getD j CL.unit).src, (l.getD j CL.unit).seq, (l.getD j CL.unit).v, (sumF o.h (l.getD j CL.unit).h q)⟩ : CL) q (by omega) (wrap64 ((atF (sumF o.h (l.getD j CL.unit).h q) q) + (atF ((l.getD j CL.unit).h) q)))) ?_
                  intro w79 hk80 hb81
                  have hs_w79 := hk80.size
                  refine rw_end ?_
                  refine w_weaken (G' := [(0, .slice (some ad23) l.length c1), (2, .pointer (some ⟨g1, 0, none⟩)), (3, .pointer (some ⟨g7, 0, none⟩)), (4, .int .i64 ((j : Nat) : Int)), (5, .pointer (some ⟨g26, 0, none⟩)), (8, .int .i64 ((q : Nat) : Int))]) ⟨rfl, rfl, rfl, rfl, rfl, rfl, trivial⟩ ?_
                  refine w_blk ?_
                  refine w_region ?_
                  refine rw_val (v := .int .i64 ((q : Nat) : Int)) (w' := w79) rfl rfl rfl rfl rfl ?_
                  refine rw_val (v := .int .i64 ((q + 1 : Nat) : Int)) (w' := w79) rfl rfl rfl rfl (by simp [go_sem, sEv, sLook, nbeq, i64_w, -List.getD_eq_getElem?_getD]; exact wrap_id (by omega) (by omega)) ?_
                  refine rw_val (v := .int .i64 ((q + 1 : Nat) : Int)) (w' := w79) rfl rfl rfl rfl rfl ?_
                  refine rw_end ?_
                  exact w_back (m2_ - 1) [(0, .slice (some ad23) l.length c1), (2, .pointer (some ⟨g1, 0, none⟩)), (3, .pointer (some ⟨g7, 0, none⟩)), (4, .int .i64 ((j : Nat) : Int)), (5, .pointer (some ⟨g26, 0, none⟩)), (8, .int .i64 ((q + 1 : Nat) : Int))] (by omega) ⟨rfl, rfl, rfl, rfl, rfl, rfl, trivial⟩ ⟨(q + 1), by omega, (hk80.below (by omega) (chain hB_L70 hb77)), (by have h_ := hb81; rw [sumF_at, sumF_step _ _ _ (by omega)] at h_; exact h_), ((hf73.on hb77).keep hk80 (by omega)), ((hf74.on hb77).keep hk80 (by omega)), rfl⟩
                · have l82 : ¬ (((q : Nat) : Int) < 65) := of_decide_eq_false cQ
                  refine w_exit rfl ?_
                  refine w_blk ?_
                  refine w_region ?_
                  refine rw_val (v := .int .i64 ((j : Nat) : Int)) (w' := w_L70) rfl rfl rfl rfl rfl ?_
                  refine rw_val (v := .int .i64 ((j + 1 : Nat) : Int)) (w' := w_L70) rfl rfl rfl rfl (by simp [go_sem, sEv, sLook, nbeq, i64_w, -List.getD_eq_getElem?_getD]; exact wrap_id (by omega) (by omega)) ?_
                  refine rw_val (v := .int .i64 ((j + 1 : Nat) : Int)) (w' := w_L70) rfl rfl rfl rfl rfl ?_
                  refine rw_end ?_
                  exact w_back (m_ - 1) [(0, .slice (some ad23) l.length c1), (2, .pointer (some ⟨g1, 0, none⟩)), (3, .pointer (some ⟨g7, 0, none⟩)), (4, .int .i64 ((j + 1 : Nat) : Int))] (by omega) ⟨rfl, rfl, rfl, rfl, trivial⟩ ⟨(j + 1), (⟨wrap64 (o.cnt + ((l.getD j CL.unit).cnt)), (wh o.hi o.lo ((l.getD j CL.unit).hi) ((l.getD j CL.unit).lo)), (wl o.lo ((l.getD j CL.unit).lo)), (l.getD j CL.unit).mn, (l.getD j CL.unit).mx, (l.getD j CL.unit).t, (l.getD j CL.unit).src, (l.getD j CL.unit).seq, (l.getD j CL.unit).v, (sumF o.h (l.getD j CL.unit).h q)⟩ : CL), true, by omega, hB_L70, (by have hb2_ : b = true := (by rw [hbb_, ← show k = j by omega]; have h_ := hf37; rw [cF] at h_; simpa using h_); rw [joinS_succ l j (by omega), hf18]; unfold joinStep; rw [if_neg (by rw [cU]; decide), hb2_, show q = 65 by omega]; exact congrArg (fun z => (z, true)) (two_leaf o (l.getD j CL.unit) ((l.getD j CL.unit).mn) ((l.getD j CL.unit).mx) ((l.getD j CL.unit).t) ((l.getD j CL.unit).src) ((l.getD j CL.unit).seq) ((l.getD j CL.unit).v) (by rw [if_pos (of_decide_eq_true cMn)]) (by rw [if_pos (of_decide_eq_true cMx)]) (by rw [if_pos cL]))), hf72, hf73, (wrap_rng _), rfl⟩
              · refine w_skip ?_
                refine w_seq ?_
                refine w_region ?_
                refine rw_val (v := .int .i64 0) (w' := w65) rfl rfl rfl rfl rfl ?_
                refine rw_end ?_
                refine w_block ?_
                refine w_loop (fun m_ G W_ => ∃ (q : Nat), q + m_ = 65 ∧ Below w.heap.size w W_ ∧ (Blk W_ g7 31 (carr (⟨wrap64 (o.cnt + ((l.getD j CL.unit).cnt)), (wh o.hi o.lo ((l.getD j CL.unit).hi) ((l.getD j CL.unit).lo)), (wl o.lo ((l.getD j CL.unit).lo)), (l.getD j CL.unit).mn, (l.getD j CL.unit).mx, o.t, o.src, o.seq, o.v, (sumF o.h (l.getD j CL.unit).h q)⟩ : CL))) ∧ (Blk W_ g1 31 (carr CL.unit)) ∧ (Blk W_ g26 31 (carr (l.getD j CL.unit))) ∧ G = [(0, .slice (some ad23) l.length c1), (2, .pointer (some ⟨g1, 0, none⟩)), (3, .pointer (some ⟨g7, 0, none⟩)), (4, .int .i64 ((j : Nat) : Int)), (5, .pointer (some ⟨g26, 0, none⟩)), (8, .int .i64 ((q : Nat) : Int))]) 65 [(0, .slice (some ad23) l.length c1), (2, .pointer (some ⟨g1, 0, none⟩)), (3, .pointer (some ⟨g7, 0, none⟩)), (4, .int .i64 ((j : Nat) : Int)), (5, .pointer (some ⟨g26, 0, none⟩)), (8, .int .i64 0)] ⟨0, by omega, (chain (hk63.below (by omega) (hk59.below (by omega) (hk55.below (by omega) (chain (hk50.below (by omega) hB_L35) hb53)))) hb66), (by rw [sumF_zero]; exact (hb64.on hb66)), ((((((hf38.keep hk50 (by omega)).on hb53).keep hk55 (by omega)).keep hk59 (by omega)).keep hk63 (by omega)).on hb66), ((((((hf40.keep hk50 (by omega)).on hb53).keep hk55 (by omega)).keep hk59 (by omega)).keep hk63 (by omega)).on hb66), rfl⟩ ⟨rfl, rfl, rfl, rfl, rfl, rfl, trivial⟩ ?_
                rintro m2_ G w_L83 ⟨q, hp84, hB_L83, hf85, hf86, hf87, rfl⟩
                have hs_w_L83 := hB_L83.size
                have hlt3c_ := hf85.lt
                have hlt2c_ := hf86.lt
                have hlt5c_ := hf87.lt
                refine w_seq ?_
                refine w_seq ?_
                refine w_region ?_
                refine rw_val (v := .int .i64 ((q : Nat) : Int)) (w' := w_L83) rfl rfl rfl rfl rfl ?_
                refine rw_val (v := .bool (decide (((q : Nat) : Int) < 65))) (w' := w_L83) rfl rfl rfl rfl (by simp [go_sem, sEv, sLook, nbeq, i64_w, -List.getD_eq_getElem?_getD]) ?_
                refine rw_end ?_
                refine w_cond rfl rfl (fun cQ => ?_) (fun cQ => ?_)
                · have l88 : (((q : Nat) : Int) < 65) := of_decide_eq_true cQ
                  refine w_skip ?_
                  refine w_seq ?_
                  refine w_block ?_
                  refine w_drawk (M := [0, 0, 0, 6, 14, 0, 0, 96, 224, 510, 0, 2047, 4095]) (ss := [Is (.int .i64 ((q : Nat) : Int)), Is (.int .i64 ((q : Nat) : Int)), Is (.pointer (some ⟨g7, 9, none⟩)), Is (.pointer (some ⟨g7, 9 + q, none⟩)), Is (.int .i64 (atF (sumF o.h (l.getD j CL.unit).h q) q)), Is (.int .i64 ((q : Nat) : Int)), Is (.pointer (some ⟨g26, 9, none⟩)), Is (.pointer (some ⟨g26, 9 + q, none⟩)), Is (.int .i64 (atF ((l.getD j CL.unit).h) q)), Is (.int .i64 (wrap64 ((atF (sumF o.h (l.getD j CL.unit).h q) q) + (atF ((l.getD j CL.unit).h) q)))), Is (.pointer (some ⟨g7, 9, none⟩))]) 11 rfl (by decide +kernel) ?_
                  refine t_is (.int .i64 ((q : Nat) : Int)) rfl rfl rfl rfl (fun W_ hW_ F_ => rfl) ?_
                  refine t_is (.int .i64 ((q : Nat) : Int)) rfl rfl rfl rfl (fun W_ hW_ F_ => rfl) ?_
                  refine t_is (.pointer (some ⟨g7, 9, none⟩)) rfl rfl rfl rfl (fun W_ hW_ F_ => by simp [go_sem, sEv, sLook, nbeq, i64_w, -List.getD_eq_getElem?_getD, Try.underlying31]) ?_
                  refine t_is (.pointer (some ⟨g7, 9 + q, none⟩)) rfl rfl rfl rfl (fun W_ hW_ F_ => (run_as (addr_hist q (by omega) _))) ?_
                  refine t_is (.int .i64 (atF (sumF o.h (l.getD j CL.unit).h q) q)) rfl rfl rfl rfl (fun W_ hW_ F_ => (by have e0_ := ((hf85.on (below_of_drew hW_))).cellv (cHA (⟨wrap64 (o.cnt + ((l.getD j CL.unit).cnt)), (wh o.hi o.lo ((l.getD j CL.unit).hi) ((l.getD j CL.unit).lo)), (wl o.lo ((l.getD j CL.unit).lo)), (l.getD j CL.unit).mn, (l.getD j CL.unit).mx, o.t, o.src, o.seq, o.v, (sumF o.h (l.getD j CL.unit).h q)⟩ : CL) q (by omega)); simp [go_sem, sEv, sLook, nbeq, i64_w, -List.getD_eq_getElem?_getD, e0_])) ?_
                  refine t_is (.int .i64 ((q : Nat) : Int)) rfl rfl rfl rfl (fun W_ hW_ F_ => rfl) ?_
                  refine t_is (.pointer (some ⟨g26, 9, none⟩)) rfl rfl rfl rfl (fun W_ hW_ F_ => by simp [go_sem, sEv, sLook, nbeq, i64_w, -List.getD_eq_getElem?_getD, Try.underlying31]) ?_
                  refine t_is (.pointer (some ⟨g26, 9 + q, none⟩)) rfl rfl rfl rfl (fun W_ hW_ F_ => (run_as (addr_hist q (by omega) _))) ?_
                  refine t_is (.int .i64 (atF ((l.getD j CL.unit).h) q)) rfl rfl rfl rfl (fun W_ hW_ F_ => (by have e0_ := ((hf87.on (below_of_drew hW_))).cellv (cHA (l.getD j CL.unit) q (by omega)); simp [go_sem, sEv, sLook, nbeq, i64_w, -List.getD_eq_getElem?_getD, e0_])) ?_
                  refine t_is (.int .i64 (wrap64 ((atF (sumF o.h (l.getD j CL.unit).h q) q) + (atF ((l.getD j CL.unit).h) q)))) rfl rfl rfl rfl (fun W_ hW_ F_ => by simp [go_sem, sEv, sLook, nbeq, i64_w, -List.getD_eq_getElem?_getD]) ?_
                  refine t_is (.pointer (some ⟨g7, 9, none⟩)) rfl rfl rfl rfl (fun W_ hW_ F_ => by simp [go_sem, sEv, sLook, nbeq, i64_w, -List.getD_eq_getElem?_getD, Try.underlying31]) ?_
                  refine t_tail ?_
                  intro w89 hb90_ F91
                  have hb90 := below_of_drew hb90_
                  have hs_w89 := hb90.size
                  refine rw_val (v := .pointer (some ⟨g7, 9 + q, none⟩)) (w' := w89) rfl rfl rfl rfl (run_as (addr_hist q (by omega) _)) ?_
                  refine rw_seg (g := g7) (off := (9 + q)) (ty := 3) (p := .tmp 90) (x := .tmp 88) (v := .int .i64 (wrap64 ((atF (sumF o.h (l.getD j CL.unit).h q) q) + (atF ((l.getD j CL.unit).h) q)))) (cs' := carr (⟨wrap64 (o.cnt + ((l.getD j CL.unit).cnt)), (wh o.hi o.lo ((l.getD j CL.unit).hi) ((l.getD j CL.unit).lo)), (wl o.lo ((l.getD j CL.unit).lo)), (l.getD j CL.unit).mn, (l.getD j CL.unit).mx, o.t, o.src, o.seq, o.v, (updF (sumF o.h (l.getD j CL.unit).h q) q (wrap64 ((atF (sumF o.h (l.getD j CL.unit).h q) q) + (atF ((l.getD j CL.unit).h) q))))⟩ : CL)) rfl rfl rfl rfl rfl rfl (hf85.on hb90) (by kernel_rfl) (by rw [carr_size]; show 9 + q + 1 ≤ 74; omega) (by intro q hq; simp only [List.mem_cons, List.not_mem_nil, or_false, Value.cells] at hq; (first | (rcases hq with rfl | rfl | rfl | rfl <;> rfl) | (rcases hq with rfl | rfl <;> rfl) | (subst hq; rfl))) (seg_h (⟨wrap64 (o.cnt + ((l.getD j CL.unit).cnt)), (wh o.hi o.lo ((l.getD j CL.unit).hi) ((l.getD j CL.unit).lo)), (wl o.lo ((l.getD j CL.unit).lo)), (l.getD j CL.unit).mn, (l.getD j CL.unit).mx, o.t, o.src, o.seq, o.v, (sumF o.h (l.getD j CL.unit).h q)⟩ : CL) q (by omega) (wrap64 ((atF (sumF o.h (l.getD j CL.unit).h q) q) + (atF ((l.getD j CL.unit).h) q)))) ?_
                  intro w92 hk93 hb94
                  have hs_w92 := hk93.size
                  refine rw_end ?_
                  refine w_weaken (G' := [(0, .slice (some ad23) l.length c1), (2, .pointer (some ⟨g1, 0, none⟩)), (3, .pointer (some ⟨g7, 0, none⟩)), (4, .int .i64 ((j : Nat) : Int)), (5, .pointer (some ⟨g26, 0, none⟩)), (8, .int .i64 ((q : Nat) : Int))]) ⟨rfl, rfl, rfl, rfl, rfl, rfl, trivial⟩ ?_
                  refine w_blk ?_
                  refine w_region ?_
                  refine rw_val (v := .int .i64 ((q : Nat) : Int)) (w' := w92) rfl rfl rfl rfl rfl ?_
                  refine rw_val (v := .int .i64 ((q + 1 : Nat) : Int)) (w' := w92) rfl rfl rfl rfl (by simp [go_sem, sEv, sLook, nbeq, i64_w, -List.getD_eq_getElem?_getD]; exact wrap_id (by omega) (by omega)) ?_
                  refine rw_val (v := .int .i64 ((q + 1 : Nat) : Int)) (w' := w92) rfl rfl rfl rfl rfl ?_
                  refine rw_end ?_
                  exact w_back (m2_ - 1) [(0, .slice (some ad23) l.length c1), (2, .pointer (some ⟨g1, 0, none⟩)), (3, .pointer (some ⟨g7, 0, none⟩)), (4, .int .i64 ((j : Nat) : Int)), (5, .pointer (some ⟨g26, 0, none⟩)), (8, .int .i64 ((q + 1 : Nat) : Int))] (by omega) ⟨rfl, rfl, rfl, rfl, rfl, rfl, trivial⟩ ⟨(q + 1), by omega, (hk93.below (by omega) (chain hB_L83 hb90)), (by have h_ := hb94; rw [sumF_at, sumF_step _ _ _ (by omega)] at h_; exact h_), ((hf86.on hb90).keep hk93 (by omega)), ((hf87.on hb90).keep hk93 (by omega)), rfl⟩
                · have l95 : ¬ (((q : Nat) : Int) < 65) := of_decide_eq_false cQ
                  refine w_exit rfl ?_
                  refine w_blk ?_
                  refine w_region ?_
                  refine rw_val (v := .int .i64 ((j : Nat) : Int)) (w' := w_L83) rfl rfl rfl rfl rfl ?_
                  refine rw_val (v := .int .i64 ((j + 1 : Nat) : Int)) (w' := w_L83) rfl rfl rfl rfl (by simp [go_sem, sEv, sLook, nbeq, i64_w, -List.getD_eq_getElem?_getD]; exact wrap_id (by omega) (by omega)) ?_
                  refine rw_val (v := .int .i64 ((j + 1 : Nat) : Int)) (w' := w_L83) rfl rfl rfl rfl rfl ?_
                  refine rw_end ?_
                  exact w_back (m_ - 1) [(0, .slice (some ad23) l.length c1), (2, .pointer (some ⟨g1, 0, none⟩)), (3, .pointer (some ⟨g7, 0, none⟩)), (4, .int .i64 ((j + 1 : Nat) : Int))] (by omega) ⟨rfl, rfl, rfl, rfl, trivial⟩ ⟨(j + 1), (⟨wrap64 (o.cnt + ((l.getD j CL.unit).cnt)), (wh o.hi o.lo ((l.getD j CL.unit).hi) ((l.getD j CL.unit).lo)), (wl o.lo ((l.getD j CL.unit).lo)), (l.getD j CL.unit).mn, (l.getD j CL.unit).mx, o.t, o.src, o.seq, o.v, (sumF o.h (l.getD j CL.unit).h q)⟩ : CL), true, by omega, hB_L83, (by have hb2_ : b = true := (by rw [hbb_, ← show k = j by omega]; have h_ := hf37; rw [cF] at h_; simpa using h_); rw [joinS_succ l j (by omega), hf18]; unfold joinStep; rw [if_neg (by rw [cU]; decide), hb2_, show q = 65 by omega]; exact congrArg (fun z => (z, true)) (two_leaf o (l.getD j CL.unit) ((l.getD j CL.unit).mn) ((l.getD j CL.unit).mx) o.t o.src o.seq o.v (by rw [if_pos (of_decide_eq_true cMn)]) (by rw [if_pos (of_decide_eq_true cMx)]) (by rw [if_neg (by rw [cL]; decide)]))), hf85, hf86, (wrap_rng _), rfl⟩
            · have l96 : ¬ (o.mx < ((l.getD j CL.unit).mx)) := of_decide_eq_false cMx
              refine w_skip ?_
              refine w_seq ?_
              refine w_seq ?_
              refine w_region ?_
              refine rw_val (v := .pointer (some ⟨g26, 5, none⟩)) (w' := w58) rfl rfl rfl rfl (by simp [go_sem, sEv, sLook, nbeq, i64_w, -List.getD_eq_getElem?_getD, Try.underlying31]) ?_
              refine rw_val (v := .agg #[.int .i64 ((l.getD j CL.unit).t), .int .i64 ((l.getD j CL.unit).src), .int .i64 ((l.getD j CL.unit).seq), .int .i64 ((l.getD j CL.unit).v)]) (w' := w58) rfl rfl rfl rfl (by have eb_ := ((((hf40.keep hk50 (by omega)).on hb53).keep hk55 (by omega)).keep hk59 (by omega)); have e0_ := eb_.cellv (v := .int .i64 ((l.getD j CL.unit).t)) (cA5 (l.getD j CL.unit)); have e1_ := eb_.cellv (v := .int .i64 ((l.getD j CL.unit).src)) (cA6 (l.getD j CL.unit)); have e2_ := eb_.cellv (v := .int .i64 ((l.getD j CL.unit).seq)) (cA7 (l.getD j CL.unit)); have e3_ := eb_.cellv (v := .int .i64 ((l.getD j CL.unit).v)) (cA8 (l.getD j CL.unit)); simp [go_sem, sEv, sLook, nbeq, i64_w, -List.getD_eq_getElem?_getD, e0_, e1_, e2_, e3_, Try.underlying28]) ?_
              refine rw_val (v := .pointer (some ⟨g7, 5, none⟩)) (w' := w58) rfl rfl rfl rfl (by simp [go_sem, sEv, sLook, nbeq, i64_w, -List.getD_eq_getElem?_getD, Try.underlying31]) ?_
              refine rw_val (v := .agg #[.int .i64 o.t, .int .i64 o.src, .int .i64 o.seq, .int .i64 o.v]) (w' := w58) rfl rfl rfl rfl (by have eb_ := hb60; have e0_ := eb_.cellv (v := .int .i64 o.t) (cA5 (⟨wrap64 (o.cnt + ((l.getD j CL.unit).cnt)), (wh o.hi o.lo ((l.getD j CL.unit).hi) ((l.getD j CL.unit).lo)), (wl o.lo ((l.getD j CL.unit).lo)), (l.getD j CL.unit).mn, o.mx, o.t, o.src, o.seq, o.v, o.h⟩ : CL)); have e1_ := eb_.cellv (v := .int .i64 o.src) (cA6 (⟨wrap64 (o.cnt + ((l.getD j CL.unit).cnt)), (wh o.hi o.lo ((l.getD j CL.unit).hi) ((l.getD j CL.unit).lo)), (wl o.lo ((l.getD j CL.unit).lo)), (l.getD j CL.unit).mn, o.mx, o.t, o.src, o.seq, o.v, o.h⟩ : CL)); have e2_ := eb_.cellv (v := .int .i64 o.seq) (cA7 (⟨wrap64 (o.cnt + ((l.getD j CL.unit).cnt)), (wh o.hi o.lo ((l.getD j CL.unit).hi) ((l.getD j CL.unit).lo)), (wl o.lo ((l.getD j CL.unit).lo)), (l.getD j CL.unit).mn, o.mx, o.t, o.src, o.seq, o.v, o.h⟩ : CL)); have e3_ := eb_.cellv (v := .int .i64 o.v) (cA8 (⟨wrap64 (o.cnt + ((l.getD j CL.unit).cnt)), (wh o.hi o.lo ((l.getD j CL.unit).hi) ((l.getD j CL.unit).lo)), (wl o.lo ((l.getD j CL.unit).lo)), (l.getD j CL.unit).mn, o.mx, o.t, o.src, o.seq, o.v, o.h⟩ : CL)); simp [go_sem, sEv, sLook, nbeq, i64_w, -List.getD_eq_getElem?_getD, e0_, e1_, e2_, e3_, Try.underlying28]) ?_
              refine rw_call rfl rfl rfl rfl (f := 17) (args := #[.agg #[.int .i64 ((l.getD j CL.unit).t), .int .i64 ((l.getD j CL.unit).src), .int .i64 ((l.getD j CL.unit).seq), .int .i64 ((l.getD j CL.unit).v)], .agg #[.int .i64 o.t, .int .i64 o.src, .int .i64 o.seq, .int .i64 o.v]]) (by simp [go_sem, sEv, sLook, nbeq, i64_w, -List.getD_eq_getElem?_getD]) (rlater_calls ((l.getD j CL.unit).t) ((l.getD j CL.unit).src) ((l.getD j CL.unit).seq) ((l.getD j CL.unit).v) o.t o.src o.seq o.v w58) ?_
              rintro e_ w97 ⟨rfl, hb98⟩
              refine ⟨_, rfl, ?_⟩
              have hs_w97 := hb98.size
              refine rw_end ?_
              refine w_weaken (G' := [(0, .slice (some ad23) l.length c1), (2, .pointer (some ⟨g1, 0, none⟩)), (3, .pointer (some ⟨g7, 0, none⟩)), (4, .int .i64 ((j : Nat) : Int)), (5, .pointer (some ⟨g26, 0, none⟩)), (71, .bool (later ((l.getD j CL.unit).t) ((l.getD j CL.unit).src) ((l.getD j CL.unit).seq) ((l.getD j CL.unit).v) o.t o.src o.seq o.v))]) ⟨rfl, rfl, rfl, rfl, rfl, rfl, trivial⟩ ?_
              refine w_cond rfl rfl (fun cL => ?_) (fun cL => ?_)
              · refine w_region ?_
                refine rw_val (v := .pointer (some ⟨g26, 5, none⟩)) (w' := w97) rfl rfl rfl rfl (by simp [go_sem, sEv, sLook, nbeq, i64_w, -List.getD_eq_getElem?_getD, Try.underlying31]) ?_
                refine rw_val (v := .agg #[.int .i64 ((l.getD j CL.unit).t), .int .i64 ((l.getD j CL.unit).src), .int .i64 ((l.getD j CL.unit).seq), .int .i64 ((l.getD j CL.unit).v)]) (w' := w97) rfl rfl rfl rfl (by have eb_ := (((((hf40.keep hk50 (by omega)).on hb53).keep hk55 (by omega)).keep hk59 (by omega)).on hb98); have e0_ := eb_.cellv (v := .int .i64 ((l.getD j CL.unit).t)) (cA5 (l.getD j CL.unit)); have e1_ := eb_.cellv (v := .int .i64 ((l.getD j CL.unit).src)) (cA6 (l.getD j CL.unit)); have e2_ := eb_.cellv (v := .int .i64 ((l.getD j CL.unit).seq)) (cA7 (l.getD j CL.unit)); have e3_ := eb_.cellv (v := .int .i64 ((l.getD j CL.unit).v)) (cA8 (l.getD j CL.unit)); simp [go_sem, sEv, sLook, nbeq, i64_w, -List.getD_eq_getElem?_getD, e0_, e1_, e2_, e3_, Try.underlying28]) ?_
                refine rw_val (v := .pointer (some ⟨g7, 5, none⟩)) (w' := w97) rfl rfl rfl rfl (by simp [go_sem, sEv, sLook, nbeq, i64_w, -List.getD_eq_getElem?_getD, Try.underlying31]) ?_
                refine rw_seg (g := g7) (off := 5) (ty := 28) (p := .tmp 74) (x := .tmp 73) (v := .agg #[.int .i64 ((l.getD j CL.unit).t), .int .i64 ((l.getD j CL.unit).src), .int .i64 ((l.getD j CL.unit).seq), .int .i64 ((l.getD j CL.unit).v)]) (cs' := carr (⟨wrap64 (o.cnt + ((l.getD j CL.unit).cnt)), (wh o.hi o.lo ((l.getD j CL.unit).hi) ((l.getD j CL.unit).lo)), (wl o.lo ((l.getD j CL.unit).lo)), (l.getD j CL.unit).mn, o.mx, (l.getD j CL.unit).t, (l.getD j CL.unit).src, (l.getD j CL.unit).seq, (l.getD j CL.unit).v, o.h⟩ : CL)) rfl rfl rfl rfl rfl rfl (hb60.on hb98) (by kernel_rfl) (by rw [carr_size]; simp [Value.cells] <;> omega) (by intro q hq; simp only [List.mem_cons, List.not_mem_nil, or_false, Value.cells] at hq; (first | (rcases hq with rfl | rfl | rfl | rfl <;> rfl) | (rcases hq with rfl | rfl <;> rfl) | (subst hq; rfl))) (seg_last (⟨wrap64 (o.cnt + ((l.getD j CL.unit).cnt)), (wh o.hi o.lo ((l.getD j CL.unit).hi) ((l.getD j CL.unit).lo)), (wl o.lo ((l.getD j CL.unit).lo)), (l.getD j CL.unit).mn, o.mx, o.t, o.src, o.seq, o.v, o.h⟩ : CL) ((l.getD j CL.unit).t) ((l.getD j CL.unit).src) ((l.getD j CL.unit).seq) ((l.getD j CL.unit).v)) ?_
                intro w99 hk100 hb101
                have hs_w99 := hk100.size
                refine rw_end ?_
                refine w_weaken (G' := [(0, .slice (some ad23) l.length c1), (2, .pointer (some ⟨g1, 0, none⟩)), (3, .pointer (some ⟨g7, 0, none⟩)), (4, .int .i64 ((j : Nat) : Int)), (5, .pointer (some ⟨g26, 0, none⟩))]) ⟨rfl, rfl, rfl, rfl, rfl, trivial⟩ ?_
                refine w_seq ?_
                refine w_region ?_
                refine rw_val (v := .int .i64 0) (w' := w99) rfl rfl rfl rfl rfl ?_
                refine rw_end ?_
                refine w_block ?_
                refine w_loop (fun m_ G W_ => ∃ (q : Nat), q + m_ = 65 ∧ Below w.heap.size w W_ ∧ (Blk W_ g7 31 (carr (⟨wrap64 (o.cnt + ((l.getD j CL.unit).cnt)), (wh o.hi o.lo ((l.getD j CL.unit).hi) ((l.getD j CL.unit).lo)), (wl o.lo ((l.getD j CL.unit).lo)), (l.getD j CL.unit).mn, o.mx, (l.getD j CL.unit).t, (l.getD j CL.unit).src, (l.getD j CL.unit).seq, (l.getD j CL.unit).v, (sumF o.h (l.getD j CL.unit).h q)⟩ : CL))) ∧ (Blk W_ g1 31 (carr CL.unit)) ∧ (Blk W_ g26 31 (carr (l.getD j CL.unit))) ∧ G = [(0, .slice (some ad23) l.length c1), (2, .pointer (some ⟨g1, 0, none⟩)), (3, .pointer (some ⟨g7, 0, none⟩)), (4, .int .i64 ((j : Nat) : Int)), (5, .pointer (some ⟨g26, 0, none⟩)), (8, .int .i64 ((q : Nat) : Int))]) 65 [(0, .slice (some ad23) l.length c1), (2, .pointer (some ⟨g1, 0, none⟩)), (3, .pointer (some ⟨g7, 0, none⟩)), (4, .int .i64 ((j : Nat) : Int)), (5, .pointer (some ⟨g26, 0, none⟩)), (8, .int .i64 0)] ⟨0, by omega, (hk100.below (by omega) (chain (hk59.below (by omega) (hk55.below (by omega) (chain (hk50.below (by omega) hB_L35) hb53))) hb98)), (by rw [sumF_zero]; exact hb101), ((((((hf38.keep hk50 (by omega)).on hb53).keep hk55 (by omega)).keep hk59 (by omega)).on hb98).keep hk100 (by omega)), ((((((hf40.keep hk50 (by omega)).on hb53).keep hk55 (by omega)).keep hk59 (by omega)).on hb98).keep hk100 (by omega)), rfl⟩ ⟨rfl, rfl, rfl, rfl, rfl, rfl, trivial⟩ ?_
                rintro m2_ G w_L102 ⟨q, hp103, hB_L102, hf104, hf105, hf106, rfl⟩
                have hs_w_L102 := hB_L102.size
                have hlt3c_ := hf104.lt
                have hlt2c_ := hf105.lt
                have hlt5c_ := hf106.lt
                refine w_seq ?_
                refine w_seq ?_
                refine w_region ?_
                refine rw_val (v := .int .i64 ((q : Nat) : Int)) (w' := w_L102) rfl rfl rfl rfl rfl ?_
                refine rw_val (v := .bool (decide (((q : Nat) : Int) < 65))) (w' := w_L102) rfl rfl rfl rfl (by simp [go_sem, sEv, sLook, nbeq, i64_w, -List.getD_eq_getElem?_getD]) ?_
                refine rw_end ?_
                refine w_cond rfl rfl (fun cQ => ?_) (fun cQ => ?_)
                · have l107 : (((q : Nat) : Int) < 65) := of_decide_eq_true cQ
                  refine w_skip ?_
                  refine w_seq ?_
                  refine w_block ?_
                  refine w_drawk (M := [0, 0, 0, 6, 14, 0, 0, 96, 224, 510, 0, 2047, 4095]) (ss := [Is (.int .i64 ((q : Nat) : Int)), Is (.int .i64 ((q : Nat) : Int)), Is (.pointer (some ⟨g7, 9, none⟩)), Is (.pointer (some ⟨g7, 9 + q, none⟩)), Is (.int .i64 (atF (sumF o.h (l.getD j CL.unit).h q) q)), Is (.int .i64 ((q : Nat) : Int)), Is (.pointer (some ⟨g26, 9, none⟩)), Is (.pointer (some ⟨g26, 9 + q, none⟩)), Is (.int .i64 (atF ((l.getD j CL.unit).h) q)), Is (.int .i64 (wrap64 ((atF (sumF o.h (l.getD j CL.unit).h q) q) + (atF ((l.getD j CL.unit).h) q)))), Is (.pointer (some ⟨g7, 9, none⟩))]) 11 rfl (by decide +kernel) ?_
                  refine t_is (.int .i64 ((q : Nat) : Int)) rfl rfl rfl rfl (fun W_ hW_ F_ => rfl) ?_
                  refine t_is (.int .i64 ((q : Nat) : Int)) rfl rfl rfl rfl (fun W_ hW_ F_ => rfl) ?_
                  refine t_is (.pointer (some ⟨g7, 9, none⟩)) rfl rfl rfl rfl (fun W_ hW_ F_ => by simp [go_sem, sEv, sLook, nbeq, i64_w, -List.getD_eq_getElem?_getD, Try.underlying31]) ?_
                  refine t_is (.pointer (some ⟨g7, 9 + q, none⟩)) rfl rfl rfl rfl (fun W_ hW_ F_ => (run_as (addr_hist q (by omega) _))) ?_
                  refine t_is (.int .i64 (atF (sumF o.h (l.getD j CL.unit).h q) q)) rfl rfl rfl rfl (fun W_ hW_ F_ => (by have e0_ := ((hf104.on (below_of_drew hW_))).cellv (cHA (⟨wrap64 (o.cnt + ((l.getD j CL.unit).cnt)), (wh o.hi o.lo ((l.getD j CL.unit).hi) ((l.getD j CL.unit).lo)), (wl o.lo ((l.getD j CL.unit).lo)), (l.getD j CL.unit).mn, o.mx, (l.getD j CL.unit).t, (l.getD j CL.unit).src, (l.getD j CL.unit).seq, (l.getD j CL.unit).v, (sumF o.h (l.getD j CL.unit).h q)⟩ : CL) q (by omega)); simp [go_sem, sEv, sLook, nbeq, i64_w, -List.getD_eq_getElem?_getD, e0_])) ?_
                  refine t_is (.int .i64 ((q : Nat) : Int)) rfl rfl rfl rfl (fun W_ hW_ F_ => rfl) ?_
                  refine t_is (.pointer (some ⟨g26, 9, none⟩)) rfl rfl rfl rfl (fun W_ hW_ F_ => by simp [go_sem, sEv, sLook, nbeq, i64_w, -List.getD_eq_getElem?_getD, Try.underlying31]) ?_
                  refine t_is (.pointer (some ⟨g26, 9 + q, none⟩)) rfl rfl rfl rfl (fun W_ hW_ F_ => (run_as (addr_hist q (by omega) _))) ?_
                  refine t_is (.int .i64 (atF ((l.getD j CL.unit).h) q)) rfl rfl rfl rfl (fun W_ hW_ F_ => (by have e0_ := ((hf106.on (below_of_drew hW_))).cellv (cHA (l.getD j CL.unit) q (by omega)); simp [go_sem, sEv, sLook, nbeq, i64_w, -List.getD_eq_getElem?_getD, e0_])) ?_
                  refine t_is (.int .i64 (wrap64 ((atF (sumF o.h (l.getD j CL.unit).h q) q) + (atF ((l.getD j CL.unit).h) q)))) rfl rfl rfl rfl (fun W_ hW_ F_ => by simp [go_sem, sEv, sLook, nbeq, i64_w, -List.getD_eq_getElem?_getD]) ?_
                  refine t_is (.pointer (some ⟨g7, 9, none⟩)) rfl rfl rfl rfl (fun W_ hW_ F_ => by simp [go_sem, sEv, sLook, nbeq, i64_w, -List.getD_eq_getElem?_getD, Try.underlying31]) ?_
                  refine t_tail ?_
                  intro w108 hb109_ F110
                  have hb109 := below_of_drew hb109_
                  have hs_w108 := hb109.size
                  refine rw_val (v := .pointer (some ⟨g7, 9 + q, none⟩)) (w' := w108) rfl rfl rfl rfl (run_as (addr_hist q (by omega) _)) ?_
                  refine rw_seg (g := g7) (off := (9 + q)) (ty := 3) (p := .tmp 90) (x := .tmp 88) (v := .int .i64 (wrap64 ((atF (sumF o.h (l.getD j CL.unit).h q) q) + (atF ((l.getD j CL.unit).h) q)))) (cs' := carr (⟨wrap64 (o.cnt + ((l.getD j CL.unit).cnt)), (wh o.hi o.lo ((l.getD j CL.unit).hi) ((l.getD j CL.unit).lo)), (wl o.lo ((l.getD j CL.unit).lo)), (l.getD j CL.unit).mn, o.mx, (l.getD j CL.unit).t, (l.getD j CL.unit).src, (l.getD j CL.unit).seq, (l.getD j CL.unit).v, (updF (sumF o.h (l.getD j CL.unit).h q) q (wrap64 ((atF (sumF o.h (l.getD j CL.unit).h q) q) + (atF ((l.getD j CL.unit).h) q))))⟩ : CL)) rfl rfl rfl rfl rfl rfl (hf104.on hb109) (by kernel_rfl) (by rw [carr_size]; show 9 + q + 1 ≤ 74; omega) (by intro q hq; simp only [List.mem_cons, List.not_mem_nil, or_false, Value.cells] at hq; (first | (rcases hq with rfl | rfl | rfl | rfl <;> rfl) | (rcases hq with rfl | rfl <;> rfl) | (subst hq; rfl))) (seg_h (⟨wrap64 (o.cnt + ((l.getD j CL.unit).cnt)), (wh o.hi o.lo ((l.getD j CL.unit).hi) ((l.getD j CL.unit).lo)), (wl o.lo ((l.getD j CL.unit).lo)), (l.getD j CL.unit).mn, o.mx, (l.getD j CL.unit).t, (l.getD j CL.unit).src, (l.getD j CL.unit).seq, (l.getD j CL.unit).v, (sumF o.h (l.getD j CL.unit).h q)⟩ : CL) q (by omega) (wrap64 ((atF (sumF o.h (l.getD j CL.unit).h q) q) + (atF ((l.getD j CL.unit).h) q)))) ?_
                  intro w111 hk112 hb113
                  have hs_w111 := hk112.size
                  refine rw_end ?_
                  refine w_weaken (G' := [(0, .slice (some ad23) l.length c1), (2, .pointer (some ⟨g1, 0, none⟩)), (3, .pointer (some ⟨g7, 0, none⟩)), (4, .int .i64 ((j : Nat) : Int)), (5, .pointer (some ⟨g26, 0, none⟩)), (8, .int .i64 ((q : Nat) : Int))]) ⟨rfl, rfl, rfl, rfl, rfl, rfl, trivial⟩ ?_
                  refine w_blk ?_
                  refine w_region ?_
                  refine rw_val (v := .int .i64 ((q : Nat) : Int)) (w' := w111) rfl rfl rfl rfl rfl ?_
                  refine rw_val (v := .int .i64 ((q + 1 : Nat) : Int)) (w' := w111) rfl rfl rfl rfl (by simp [go_sem, sEv, sLook, nbeq, i64_w, -List.getD_eq_getElem?_getD]; exact wrap_id (by omega) (by omega)) ?_
                  refine rw_val (v := .int .i64 ((q + 1 : Nat) : Int)) (w' := w111) rfl rfl rfl rfl rfl ?_
                  refine rw_end ?_
                  exact w_back (m2_ - 1) [(0, .slice (some ad23) l.length c1), (2, .pointer (some ⟨g1, 0, none⟩)), (3, .pointer (some ⟨g7, 0, none⟩)), (4, .int .i64 ((j : Nat) : Int)), (5, .pointer (some ⟨g26, 0, none⟩)), (8, .int .i64 ((q + 1 : Nat) : Int))] (by omega) ⟨rfl, rfl, rfl, rfl, rfl, rfl, trivial⟩ ⟨(q + 1), by omega, (hk112.below (by omega) (chain hB_L102 hb109)), (by have h_ := hb113; rw [sumF_at, sumF_step _ _ _ (by omega)] at h_; exact h_), ((hf105.on hb109).keep hk112 (by omega)), ((hf106.on hb109).keep hk112 (by omega)), rfl⟩
                · have l114 : ¬ (((q : Nat) : Int) < 65) := of_decide_eq_false cQ
                  refine w_exit rfl ?_
                  refine w_blk ?_
                  refine w_region ?_
                  refine rw_val (v := .int .i64 ((j : Nat) : Int)) (w' := w_L102) rfl rfl rfl rfl rfl ?_
                  refine rw_val (v := .int .i64 ((j + 1 : Nat) : Int)) (w' := w_L102) rfl rfl rfl rfl (by simp [go_sem, sEv, sLook, nbeq, i64_w, -List.getD_eq_getElem?_getD]; exact wrap_id (by omega) (by omega)) ?_
                  refine rw_val (v := .int .i64 ((j + 1 : Nat) : Int)) (w' := w_L102) rfl rfl rfl rfl rfl ?_
                  refine rw_end ?_
                  exact w_back (m_ - 1) [(0, .slice (some ad23) l.length c1), (2, .pointer (some ⟨g1, 0, none⟩)), (3, .pointer (some ⟨g7, 0, none⟩)), (4, .int .i64 ((j + 1 : Nat) : Int))] (by omega) ⟨rfl, rfl, rfl, rfl, trivial⟩ ⟨(j + 1), (⟨wrap64 (o.cnt + ((l.getD j CL.unit).cnt)), (wh o.hi o.lo ((l.getD j CL.unit).hi) ((l.getD j CL.unit).lo)), (wl o.lo ((l.getD j CL.unit).lo)), (l.getD j CL.unit).mn, o.mx, (l.getD j CL.unit).t, (l.getD j CL.unit).src, (l.getD j CL.unit).seq, (l.getD j CL.unit).v, (sumF o.h (l.getD j CL.unit).h q)⟩ : CL), true, by omega, hB_L102, (by have hb2_ : b = true := (by rw [hbb_, ← show k = j by omega]; have h_ := hf37; rw [cF] at h_; simpa using h_); rw [joinS_succ l j (by omega), hf18]; unfold joinStep; rw [if_neg (by rw [cU]; decide), hb2_, show q = 65 by omega]; exact congrArg (fun z => (z, true)) (two_leaf o (l.getD j CL.unit) ((l.getD j CL.unit).mn) o.mx ((l.getD j CL.unit).t) ((l.getD j CL.unit).src) ((l.getD j CL.unit).seq) ((l.getD j CL.unit).v) (by rw [if_pos (of_decide_eq_true cMn)]) (by rw [if_neg (of_decide_eq_false cMx)]) (by rw [if_pos cL]))), hf104, hf105, (wrap_rng _), rfl⟩
              · refine w_skip ?_
                refine w_seq ?_
                refine w_region ?_
                refine rw_val (v := .int .i64 0) (w' := w97) rfl rfl rfl rfl rfl ?_
                refine rw_end ?_
                refine w_block ?_
                refine w_loop (fun m_ G W_ => ∃ (q : Nat), q + m_ = 65 ∧ Below w.heap.size w W_ ∧ (Blk W_ g7 31 (carr (⟨wrap64 (o.cnt + ((l.getD j CL.unit).cnt)), (wh o.hi o.lo ((l.getD j CL.unit).hi) ((l.getD j CL.unit).lo)), (wl o.lo ((l.getD j CL.unit).lo)), (l.getD j CL.unit).mn, o.mx, o.t, o.src, o.seq, o.v, (sumF o.h (l.getD j CL.unit).h q)⟩ : CL))) ∧ (Blk W_ g1 31 (carr CL.unit)) ∧ (Blk W_ g26 31 (carr (l.getD j CL.unit))) ∧ G = [(0, .slice (some ad23) l.length c1), (2, .pointer (some ⟨g1, 0, none⟩)), (3, .pointer (some ⟨g7, 0, none⟩)), (4, .int .i64 ((j : Nat) : Int)), (5, .pointer (some ⟨g26, 0, none⟩)), (8, .int .i64 ((q : Nat) : Int))]) 65 [(0, .slice (some ad23) l.length c1), (2, .pointer (some ⟨g1, 0, none⟩)), (3, .pointer (some ⟨g7, 0, none⟩)), (4, .int .i64 ((j : Nat) : Int)), (5, .pointer (some ⟨g26, 0, none⟩)), (8, .int .i64 0)] ⟨0, by omega, (chain (hk59.below (by omega) (hk55.below (by omega) (chain (hk50.below (by omega) hB_L35) hb53))) hb98), (by rw [sumF_zero]; exact (hb60.on hb98)), (((((hf38.keep hk50 (by omega)).on hb53).keep hk55 (by omega)).keep hk59 (by omega)).on hb98), (((((hf40.keep hk50 (by omega)).on hb53).keep hk55 (by omega)).keep hk59 (by omega)).on hb98), rfl⟩ ⟨rfl, rfl, rfl, rfl, rfl, rfl, trivial⟩ ?_
                rintro m2_ G w_L115 ⟨q, hp116, hB_L115, hf117, hf118, hf119, rfl⟩
                have hs_w_L115 := hB_L115.size
                have hlt3c_ := hf117.lt
                have hlt2c_ := hf118.lt
                have hlt5c_ := hf119.lt
                refine w_seq ?_
                refine w_seq ?_
                refine w_region ?_
                refine rw_val (v := .int .i64 ((q : Nat) : Int)) (w' := w_L115) rfl rfl rfl rfl rfl ?_
                refine rw_val (v := .bool (decide (((q : Nat) : Int) < 65))) (w' := w_L115) rfl rfl rfl rfl (by simp [go_sem, sEv, sLook, nbeq, i64_w, -List.getD_eq_getElem?_getD]) ?_
                refine rw_end ?_
                refine w_cond rfl rfl (fun cQ => ?_) (fun cQ => ?_)
                · have l120 : (((q : Nat) : Int) < 65) := of_decide_eq_true cQ
                  refine w_skip ?_
                  refine w_seq ?_
                  refine w_block ?_
                  refine w_drawk (M := [0, 0, 0, 6, 14, 0, 0, 96, 224, 510, 0, 2047, 4095]) (ss := [Is (.int .i64 ((q : Nat) : Int)), Is (.int .i64 ((q : Nat) : Int)), Is (.pointer (some ⟨g7, 9, none⟩)), Is (.pointer (some ⟨g7, 9 + q, none⟩)), Is (.int .i64 (atF (sumF o.h (l.getD j CL.unit).h q) q)), Is (.int .i64 ((q : Nat) : Int)), Is (.pointer (some ⟨g26, 9, none⟩)), Is (.pointer (some ⟨g26, 9 + q, none⟩)), Is (.int .i64 (atF ((l.getD j CL.unit).h) q)), Is (.int .i64 (wrap64 ((atF (sumF o.h (l.getD j CL.unit).h q) q) + (atF ((l.getD j CL.unit).h) q)))), Is (.pointer (some ⟨g7, 9, none⟩))]) 11 rfl (by decide +kernel) ?_
                  refine t_is (.int .i64 ((q : Nat) : Int)) rfl rfl rfl rfl (fun W_ hW_ F_ => rfl) ?_
                  refine t_is (.int .i64 ((q : Nat) : Int)) rfl rfl rfl rfl (fun W_ hW_ F_ => rfl) ?_
                  refine t_is (.pointer (some ⟨g7, 9, none⟩)) rfl rfl rfl rfl (fun W_ hW_ F_ => by simp [go_sem, sEv, sLook, nbeq, i64_w, -List.getD_eq_getElem?_getD, Try.underlying31]) ?_
                  refine t_is (.pointer (some ⟨g7, 9 + q, none⟩)) rfl rfl rfl rfl (fun W_ hW_ F_ => (run_as (addr_hist q (by omega) _))) ?_
                  refine t_is (.int .i64 (atF (sumF o.h (l.getD j CL.unit).h q) q)) rfl rfl rfl rfl (fun W_ hW_ F_ => (by have e0_ := ((hf117.on (below_of_drew hW_))).cellv (cHA (⟨wrap64 (o.cnt + ((l.getD j CL.unit).cnt)), (wh o.hi o.lo ((l.getD j CL.unit).hi) ((l.getD j CL.unit).lo)), (wl o.lo ((l.getD j CL.unit).lo)), (l.getD j CL.unit).mn, o.mx, o.t, o.src, o.seq, o.v, (sumF o.h (l.getD j CL.unit).h q)⟩ : CL) q (by omega)); simp [go_sem, sEv, sLook, nbeq, i64_w, -List.getD_eq_getElem?_getD, e0_])) ?_
                  refine t_is (.int .i64 ((q : Nat) : Int)) rfl rfl rfl rfl (fun W_ hW_ F_ => rfl) ?_
                  refine t_is (.pointer (some ⟨g26, 9, none⟩)) rfl rfl rfl rfl (fun W_ hW_ F_ => by simp [go_sem, sEv, sLook, nbeq, i64_w, -List.getD_eq_getElem?_getD, Try.underlying31]) ?_
                  refine t_is (.pointer (some ⟨g26, 9 + q, none⟩)) rfl rfl rfl rfl (fun W_ hW_ F_ => (run_as (addr_hist q (by omega) _))) ?_
                  refine t_is (.int .i64 (atF ((l.getD j CL.unit).h) q)) rfl rfl rfl rfl (fun W_ hW_ F_ => (by have e0_ := ((hf119.on (below_of_drew hW_))).cellv (cHA (l.getD j CL.unit) q (by omega)); simp [go_sem, sEv, sLook, nbeq, i64_w, -List.getD_eq_getElem?_getD, e0_])) ?_
                  refine t_is (.int .i64 (wrap64 ((atF (sumF o.h (l.getD j CL.unit).h q) q) + (atF ((l.getD j CL.unit).h) q)))) rfl rfl rfl rfl (fun W_ hW_ F_ => by simp [go_sem, sEv, sLook, nbeq, i64_w, -List.getD_eq_getElem?_getD]) ?_
                  refine t_is (.pointer (some ⟨g7, 9, none⟩)) rfl rfl rfl rfl (fun W_ hW_ F_ => by simp [go_sem, sEv, sLook, nbeq, i64_w, -List.getD_eq_getElem?_getD, Try.underlying31]) ?_
                  refine t_tail ?_
                  intro w121 hb122_ F123
                  have hb122 := below_of_drew hb122_
                  have hs_w121 := hb122.size
                  refine rw_val (v := .pointer (some ⟨g7, 9 + q, none⟩)) (w' := w121) rfl rfl rfl rfl (run_as (addr_hist q (by omega) _)) ?_
                  refine rw_seg (g := g7) (off := (9 + q)) (ty := 3) (p := .tmp 90) (x := .tmp 88) (v := .int .i64 (wrap64 ((atF (sumF o.h (l.getD j CL.unit).h q) q) + (atF ((l.getD j CL.unit).h) q)))) (cs' := carr (⟨wrap64 (o.cnt + ((l.getD j CL.unit).cnt)), (wh o.hi o.lo ((l.getD j CL.unit).hi) ((l.getD j CL.unit).lo)), (wl o.lo ((l.getD j CL.unit).lo)), (l.getD j CL.unit).mn, o.mx, o.t, o.src, o.seq, o.v, (updF (sumF o.h (l.getD j CL.unit).h q) q (wrap64 ((atF (sumF o.h (l.getD j CL.unit).h q) q) + (atF ((l.getD j CL.unit).h) q))))⟩ : CL)) rfl rfl rfl rfl rfl rfl (hf117.on hb122) (by kernel_rfl) (by rw [carr_size]; show 9 + q + 1 ≤ 74; omega) (by intro q hq; simp only [List.mem_cons, List.not_mem_nil, or_false, Value.cells] at hq; (first | (rcases hq with rfl | rfl | rfl | rfl <;> rfl) | (rcases hq with rfl | rfl <;> rfl) | (subst hq; rfl))) (seg_h (⟨wrap64 (o.cnt + ((l.getD j CL.unit).cnt)), (wh o.hi o.lo ((l.getD j CL.unit).hi) ((l.getD j CL.unit).lo)), (wl o.lo ((l.getD j CL.unit).lo)), (l.getD j CL.unit).mn, o.mx, o.t, o.src, o.seq, o.v, (sumF o.h (l.getD j CL.unit).h q)⟩ : CL) q (by omega) (wrap64 ((atF (sumF o.h (l.getD j CL.unit).h q) q) + (atF ((l.getD j CL.unit).h) q)))) ?_
                  intro w124 hk125 hb126
                  have hs_w124 := hk125.size
                  refine rw_end ?_
                  refine w_weaken (G' := [(0, .slice (some ad23) l.length c1), (2, .pointer (some ⟨g1, 0, none⟩)), (3, .pointer (some ⟨g7, 0, none⟩)), (4, .int .i64 ((j : Nat) : Int)), (5, .pointer (some ⟨g26, 0, none⟩)), (8, .int .i64 ((q : Nat) : Int))]) ⟨rfl, rfl, rfl, rfl, rfl, rfl, trivial⟩ ?_
                  refine w_blk ?_
                  refine w_region ?_
                  refine rw_val (v := .int .i64 ((q : Nat) : Int)) (w' := w124) rfl rfl rfl rfl rfl ?_
                  refine rw_val (v := .int .i64 ((q + 1 : Nat) : Int)) (w' := w124) rfl rfl rfl rfl (by simp [go_sem, sEv, sLook, nbeq, i64_w, -List.getD_eq_getElem?_getD]; exact wrap_id (by omega) (by omega)) ?_
                  refine rw_val (v := .int .i64 ((q + 1 : Nat) : Int)) (w' := w124) rfl rfl rfl rfl rfl ?_
                  refine rw_end ?_
                  exact w_back (m2_ - 1) [(0, .slice (some ad23) l.length c1), (2, .pointer (some ⟨g1, 0, none⟩)), (3, .pointer (some ⟨g7, 0, none⟩)), (4, .int .i64 ((j : Nat) : Int)), (5, .pointer (some ⟨g26, 0, none⟩)), (8, .int .i64 ((q + 1 : Nat) : Int))] (by omega) ⟨rfl, rfl, rfl, rfl, rfl, rfl, trivial⟩ ⟨(q + 1), by omega, (hk125.below (by omega) (chain hB_L115 hb122)), (by have h_ := hb126; rw [sumF_at, sumF_step _ _ _ (by omega)] at h_; exact h_), ((hf118.on hb122).keep hk125 (by omega)), ((hf119.on hb122).keep hk125 (by omega)), rfl⟩
                · have l127 : ¬ (((q : Nat) : Int) < 65) := of_decide_eq_false cQ
                  refine w_exit rfl ?_
                  refine w_blk ?_
                  refine w_region ?_
                  refine rw_val (v := .int .i64 ((j : Nat) : Int)) (w' := w_L115) rfl rfl rfl rfl rfl ?_
                  refine rw_val (v := .int .i64 ((j + 1 : Nat) : Int)) (w' := w_L115) rfl rfl rfl rfl (by simp [go_sem, sEv, sLook, nbeq, i64_w, -List.getD_eq_getElem?_getD]; exact wrap_id (by omega) (by omega)) ?_
                  refine rw_val (v := .int .i64 ((j + 1 : Nat) : Int)) (w' := w_L115) rfl rfl rfl rfl rfl ?_
                  refine rw_end ?_
                  exact w_back (m_ - 1) [(0, .slice (some ad23) l.length c1), (2, .pointer (some ⟨g1, 0, none⟩)), (3, .pointer (some ⟨g7, 0, none⟩)), (4, .int .i64 ((j + 1 : Nat) : Int))] (by omega) ⟨rfl, rfl, rfl, rfl, trivial⟩ ⟨(j + 1), (⟨wrap64 (o.cnt + ((l.getD j CL.unit).cnt)), (wh o.hi o.lo ((l.getD j CL.unit).hi) ((l.getD j CL.unit).lo)), (wl o.lo ((l.getD j CL.unit).lo)), (l.getD j CL.unit).mn, o.mx, o.t, o.src, o.seq, o.v, (sumF o.h (l.getD j CL.unit).h q)⟩ : CL), true, by omega, hB_L115, (by have hb2_ : b = true := (by rw [hbb_, ← show k = j by omega]; have h_ := hf37; rw [cF] at h_; simpa using h_); rw [joinS_succ l j (by omega), hf18]; unfold joinStep; rw [if_neg (by rw [cU]; decide), hb2_, show q = 65 by omega]; exact congrArg (fun z => (z, true)) (two_leaf o (l.getD j CL.unit) ((l.getD j CL.unit).mn) o.mx o.t o.src o.seq o.v (by rw [if_pos (of_decide_eq_true cMn)]) (by rw [if_neg (of_decide_eq_false cMx)]) (by rw [if_neg (by rw [cL]; decide)]))), hf117, hf118, (wrap_rng _), rfl⟩
          · have l128 : ¬ (((l.getD j CL.unit).mn) < o.mn) := of_decide_eq_false cMn
            refine w_skip ?_
            refine w_seq ?_
            refine w_seq ?_
            refine w_region ?_
            refine rw_val (v := .pointer (some ⟨g26, 4, none⟩)) (w' := w54) rfl rfl rfl rfl (by simp [go_sem, sEv, sLook, nbeq, i64_w, -List.getD_eq_getElem?_getD, Try.underlying31]) ?_
            refine rw_val (v := .int .i64 ((l.getD j CL.unit).mx)) (w' := w54) rfl rfl rfl rfl (by have eb_ := (((hf40.keep hk50 (by omega)).on hb53).keep hk55 (by omega)); have e0_ := eb_.cellv (v := .int .i64 ((l.getD j CL.unit).mx)) (cA4 (l.getD j CL.unit)); simp [go_sem, sEv, sLook, nbeq, i64_w, -List.getD_eq_getElem?_getD, e0_]) ?_
            refine rw_val (v := .pointer (some ⟨g7, 4, none⟩)) (w' := w54) rfl rfl rfl rfl (by simp [go_sem, sEv, sLook, nbeq, i64_w, -List.getD_eq_getElem?_getD, Try.underlying31]) ?_
            refine rw_val (v := .int .i64 o.mx) (w' := w54) rfl rfl rfl rfl (by have eb_ := hb56; have e0_ := eb_.cellv (v := .int .i64 o.mx) (cA4 (⟨wrap64 (o.cnt + ((l.getD j CL.unit).cnt)), (wh o.hi o.lo ((l.getD j CL.unit).hi) ((l.getD j CL.unit).lo)), (wl o.lo ((l.getD j CL.unit).lo)), o.mn, o.mx, o.t, o.src, o.seq, o.v, o.h⟩ : CL)); simp [go_sem, sEv, sLook, nbeq, i64_w, -List.getD_eq_getElem?_getD, e0_]) ?_
            refine rw_val (v := .bool (decide (o.mx < ((l.getD j CL.unit).mx)))) (w' := w54) rfl rfl rfl rfl (by simp [go_sem, sEv, sLook, nbeq, i64_w, -List.getD_eq_getElem?_getD]) ?_
            refine rw_end ?_
            refine w_weaken (G' := [(0, .slice (some ad23) l.length c1), (2, .pointer (some ⟨g1, 0, none⟩)), (3, .pointer (some ⟨g7, 0, none⟩)), (4, .int .i64 ((j : Nat) : Int)), (5, .pointer (some ⟨g26, 0, none⟩)), (63, .bool (decide (o.mx < ((l.getD j CL.unit).mx))))]) ⟨rfl, rfl, rfl, rfl, rfl, rfl, trivial⟩ ?_
            refine w_cond rfl rfl (fun cMx => ?_) (fun cMx => ?_)
            · have l129 : (o.mx < ((l.getD j CL.unit).mx)) := of_decide_eq_true cMx
              refine w_region ?_
              refine rw_val (v := .pointer (some ⟨g26, 4, none⟩)) (w' := w54) rfl rfl rfl rfl (by simp [go_sem, sEv, sLook, nbeq, i64_w, -List.getD_eq_getElem?_getD, Try.underlying31]) ?_
              refine rw_val (v := .int .i64 ((l.getD j CL.unit).mx)) (w' := w54) rfl rfl rfl rfl (by have eb_ := (((hf40.keep hk50 (by omega)).on hb53).keep hk55 (by omega)); have e0_ := eb_.cellv (v := .int .i64 ((l.getD j CL.unit).mx)) (cA4 (l.getD j CL.unit)); simp [go_sem, sEv, sLook, nbeq, i64_w, -List.getD_eq_getElem?_getD, e0_]) ?_
              refine rw_val (v := .pointer (some ⟨g7, 4, none⟩)) (w' := w54) rfl rfl rfl rfl (by simp [go_sem, sEv, sLook, nbeq, i64_w, -List.getD_eq_getElem?_getD, Try.underlying31]) ?_
              refine rw_seg (g := g7) (off := 4) (ty := 3) (p := .tmp 66) (x := .tmp 65) (v := .int .i64 ((l.getD j CL.unit).mx)) (cs' := carr (⟨wrap64 (o.cnt + ((l.getD j CL.unit).cnt)), (wh o.hi o.lo ((l.getD j CL.unit).hi) ((l.getD j CL.unit).lo)), (wl o.lo ((l.getD j CL.unit).lo)), o.mn, (l.getD j CL.unit).mx, o.t, o.src, o.seq, o.v, o.h⟩ : CL)) rfl rfl rfl rfl rfl rfl hb56 (by kernel_rfl) (by rw [carr_size]; simp [Value.cells] <;> omega) (by intro q hq; simp only [List.mem_cons, List.not_mem_nil, or_false, Value.cells] at hq; (first | (rcases hq with rfl | rfl | rfl | rfl <;> rfl) | (rcases hq with rfl | rfl <;> rfl) | (subst hq; rfl))) (seg_mx (⟨wrap64 (o.cnt + ((l.getD j CL.unit).cnt)), (wh o.hi o.lo ((l.getD j CL.unit).hi) ((l.getD j CL.unit).lo)), (wl o.lo ((l.getD j CL.unit).lo)), o.mn, o.mx, o.t, o.src, o.seq, o.v, o.h⟩ : CL) ((l.getD j CL.unit).mx)) ?_
              intro w130 hk131 hb132
              have hs_w130 := hk131.size
              refine rw_end ?_
              refine w_weaken (G' := [(0, .slice (some ad23) l.length c1), (2, .pointer (some ⟨g1, 0, none⟩)), (3, .pointer (some ⟨g7, 0, none⟩)), (4, .int .i64 ((j : Nat) : Int)), (5, .pointer (some ⟨g26, 0, none⟩))]) ⟨rfl, rfl, rfl, rfl, rfl, trivial⟩ ?_
              refine w_seq ?_
              refine w_seq ?_
              refine w_region ?_
              refine rw_val (v := .pointer (some ⟨g26, 5, none⟩)) (w' := w130) rfl rfl rfl rfl (by simp [go_sem, sEv, sLook, nbeq, i64_w, -List.getD_eq_getElem?_getD, Try.underlying31]) ?_
              refine rw_val (v := .agg #[.int .i64 ((l.getD j CL.unit).t), .int .i64 ((l.getD j CL.unit).src), .int .i64 ((l.getD j CL.unit).seq), .int .i64 ((l.getD j CL.unit).v)]) (w' := w130) rfl rfl rfl rfl (by have eb_ := ((((hf40.keep hk50 (by omega)).on hb53).keep hk55 (by omega)).keep hk131 (by omega)); have e0_ := eb_.cellv (v := .int .i64 ((l.getD j CL.unit).t)) (cA5 (l.getD j CL.unit)); have e1_ := eb_.cellv (v := .int .i64 ((l.getD j CL.unit).src)) (cA6 (l.getD j CL.unit)); have e2_ := eb_.cellv (v := .int .i64 ((l.getD j CL.unit).seq)) (cA7 (l.getD j CL.unit)); have e3_ := eb_.cellv (v := .int .i64 ((l.getD j CL.unit).v)) (cA8 (l.getD j CL.unit)); simp [go_sem, sEv, sLook, nbeq, i64_w, -List.getD_eq_getElem?_getD, e0_, e1_, e2_, e3_, Try.underlying28]) ?_
              refine rw_val (v := .pointer (some ⟨g7, 5, none⟩)) (w' := w130) rfl rfl rfl rfl (by simp [go_sem, sEv, sLook, nbeq, i64_w, -List.getD_eq_getElem?_getD, Try.underlying31]) ?_
              refine rw_val (v := .agg #[.int .i64 o.t, .int .i64 o.src, .int .i64 o.seq, .int .i64 o.v]) (w' := w130) rfl rfl rfl rfl (by have eb_ := hb132; have e0_ := eb_.cellv (v := .int .i64 o.t) (cA5 (⟨wrap64 (o.cnt + ((l.getD j CL.unit).cnt)), (wh o.hi o.lo ((l.getD j CL.unit).hi) ((l.getD j CL.unit).lo)), (wl o.lo ((l.getD j CL.unit).lo)), o.mn, (l.getD j CL.unit).mx, o.t, o.src, o.seq, o.v, o.h⟩ : CL)); have e1_ := eb_.cellv (v := .int .i64 o.src) (cA6 (⟨wrap64 (o.cnt + ((l.getD j CL.unit).cnt)), (wh o.hi o.lo ((l.getD j CL.unit).hi) ((l.getD j CL.unit).lo)), (wl o.lo ((l.getD j CL.unit).lo)), o.mn, (l.getD j CL.unit).mx, o.t, o.src, o.seq, o.v, o.h⟩ : CL)); have e2_ := eb_.cellv (v := .int .i64 o.seq) (cA7 (⟨wrap64 (o.cnt + ((l.getD j CL.unit).cnt)), (wh o.hi o.lo ((l.getD j CL.unit).hi) ((l.getD j CL.unit).lo)), (wl o.lo ((l.getD j CL.unit).lo)), o.mn, (l.getD j CL.unit).mx, o.t, o.src, o.seq, o.v, o.h⟩ : CL)); have e3_ := eb_.cellv (v := .int .i64 o.v) (cA8 (⟨wrap64 (o.cnt + ((l.getD j CL.unit).cnt)), (wh o.hi o.lo ((l.getD j CL.unit).hi) ((l.getD j CL.unit).lo)), (wl o.lo ((l.getD j CL.unit).lo)), o.mn, (l.getD j CL.unit).mx, o.t, o.src, o.seq, o.v, o.h⟩ : CL)); simp [go_sem, sEv, sLook, nbeq, i64_w, -List.getD_eq_getElem?_getD, e0_, e1_, e2_, e3_, Try.underlying28]) ?_
              refine rw_call rfl rfl rfl rfl (f := 17) (args := #[.agg #[.int .i64 ((l.getD j CL.unit).t), .int .i64 ((l.getD j CL.unit).src), .int .i64 ((l.getD j CL.unit).seq), .int .i64 ((l.getD j CL.unit).v)], .agg #[.int .i64 o.t, .int .i64 o.src, .int .i64 o.seq, .int .i64 o.v]]) (by simp [go_sem, sEv, sLook, nbeq, i64_w, -List.getD_eq_getElem?_getD]) (rlater_calls ((l.getD j CL.unit).t) ((l.getD j CL.unit).src) ((l.getD j CL.unit).seq) ((l.getD j CL.unit).v) o.t o.src o.seq o.v w130) ?_
              rintro e_ w133 ⟨rfl, hb134⟩
              refine ⟨_, rfl, ?_⟩
              have hs_w133 := hb134.size
              refine rw_end ?_
              refine w_weaken (G' := [(0, .slice (some ad23) l.length c1), (2, .pointer (some ⟨g1, 0, none⟩)), (3, .pointer (some ⟨g7, 0, none⟩)), (4, .int .i64 ((j : Nat) : Int)), (5, .pointer (some ⟨g26, 0, none⟩)), (71, .bool (later ((l.getD j CL.unit).t) ((l.getD j CL.unit).src) ((l.getD j CL.unit).seq) ((l.getD j CL.unit).v) o.t o.src o.seq o.v))]) ⟨rfl, rfl, rfl, rfl, rfl, rfl, trivial⟩ ?_
              refine w_cond rfl rfl (fun cL => ?_) (fun cL => ?_)
              · refine w_region ?_
                refine rw_val (v := .pointer (some ⟨g26, 5, none⟩)) (w' := w133) rfl rfl rfl rfl (by simp [go_sem, sEv, sLook, nbeq, i64_w, -List.getD_eq_getElem?_getD, Try.underlying31]) ?_
                refine rw_val (v := .agg #[.int .i64 ((l.getD j CL.unit).t), .int .i64 ((l.getD j CL.unit).src), .int .i64 ((l.getD j CL.unit).seq), .int .i64 ((l.getD j CL.unit).v)]) (w' := w133) rfl rfl rfl rfl (by have eb_ := (((((hf40.keep hk50 (by omega)).on hb53).keep hk55 (by omega)).keep hk131 (by omega)).on hb134); have e0_ := eb_.cellv (v := .int .i64 ((l.getD j CL.unit).t)) (cA5 (l.getD j CL.unit)); have e1_ := eb_.cellv (v := .int .i64 ((l.getD j CL.unit).src)) (cA6 (l.getD j CL.unit)); have e2_ := eb_.cellv (v := .int .i64 ((l.getD j CL.unit).seq)) (cA7 (l.getD j CL.unit)); have e3_ := eb_.cellv (v := .int .i64 ((l.getD j CL.unit).v)) (cA8 (l.getD j CL.unit)); simp [go_sem, sEv, sLook, nbeq, i64_w, -List.getD_eq_getElem?_getD, e0_, e1_, e2_, e3_, Try.underlying28]) ?_
                refine rw_val (v := .pointer (some ⟨g7, 5, none⟩)) (w' := w133) rfl rfl rfl rfl (by simp [go_sem, sEv, sLook, nbeq, i64_w, -List.getD_eq_getElem?_getD, Try.underlying31]) ?_
                refine rw_seg (g := g7) (off := 5) (ty := 28) (p := .tmp 74) (x := .tmp 73) (v := .agg #[.int .i64 ((l.getD j CL.unit).t), .int .i64 ((l.getD j CL.unit).src), .int .i64 ((l.getD j CL.unit).seq), .int .i64 ((l.getD j CL.unit).v)]) (cs' := carr (⟨wrap64 (o.cnt + ((l.getD j CL.unit).cnt)), (wh o.hi o.lo ((l.getD j CL.unit).hi) ((l.getD j CL.unit).lo)), (wl o.lo ((l.getD j CL.unit).lo)), o.mn, (l.getD j CL.unit).mx, (l.getD j CL.unit).t, (l.getD j CL.unit).src, (l.getD j CL.unit).seq, (l.getD j CL.unit).v, o.h⟩ : CL)) rfl rfl rfl rfl rfl rfl (hb132.on hb134) (by kernel_rfl) (by rw [carr_size]; simp [Value.cells] <;> omega) (by intro q hq; simp only [List.mem_cons, List.not_mem_nil, or_false, Value.cells] at hq; (first | (rcases hq with rfl | rfl | rfl | rfl <;> rfl) | (rcases hq with rfl | rfl <;> rfl) | (subst hq; rfl))) (seg_last (⟨wrap64 (o.cnt + ((l.getD j CL.unit).cnt)), (wh o.hi o.lo ((l.getD j CL.unit).hi) ((l.getD j CL.unit).lo)), (wl o.lo ((l.getD j CL.unit).lo)), o.mn, (l.getD j CL.unit).mx, o.t, o.src, o.seq, o.v, o.h⟩ : CL) ((l.getD j CL.unit).t) ((l.getD j CL.unit).src) ((l.getD j CL.unit).seq) ((l.getD j CL.unit).v)) ?_
                intro w135 hk136 hb137
                have hs_w135 := hk136.size
                refine rw_end ?_
                refine w_weaken (G' := [(0, .slice (some ad23) l.length c1), (2, .pointer (some ⟨g1, 0, none⟩)), (3, .pointer (some ⟨g7, 0, none⟩)), (4, .int .i64 ((j : Nat) : Int)), (5, .pointer (some ⟨g26, 0, none⟩))]) ⟨rfl, rfl, rfl, rfl, rfl, trivial⟩ ?_
                refine w_seq ?_
                refine w_region ?_
                refine rw_val (v := .int .i64 0) (w' := w135) rfl rfl rfl rfl rfl ?_
                refine rw_end ?_
                refine w_block ?_
                refine w_loop (fun m_ G W_ => ∃ (q : Nat), q + m_ = 65 ∧ Below w.heap.size w W_ ∧ (Blk W_ g7 31 (carr (⟨wrap64 (o.cnt + ((l.getD j CL.unit).cnt)), (wh o.hi o.lo ((l.getD j CL.unit).hi) ((l.getD j CL.unit).lo)), (wl o.lo ((l.getD j CL.unit).lo)), o.mn, (l.getD j CL.unit).mx, (l.getD j CL.unit).t, (l.getD j CL.unit).src, (l.getD j CL.unit).seq, (l.getD j CL.unit).v, (sumF o.h (l.getD j CL.unit).h q)⟩ : CL))) ∧ (Blk W_ g1 31 (carr CL.unit)) ∧ (Blk W_ g26 31 (carr (l.getD j CL.unit))) ∧ G = [(0, .slice (some ad23) l.length c1), (2, .pointer (some ⟨g1, 0, none⟩)), (3, .pointer (some ⟨g7, 0, none⟩)), (4, .int .i64 ((j : Nat) : Int)), (5, .pointer (some ⟨g26, 0, none⟩)), (8, .int .i64 ((q : Nat) : Int))]) 65 [(0, .slice (some ad23) l.length c1), (2, .pointer (some ⟨g1, 0, none⟩)), (3, .pointer (some ⟨g7, 0, none⟩)), (4, .int .i64 ((j : Nat) : Int)), (5, .pointer (some ⟨g26, 0, none⟩)), (8, .int .i64 0)] ⟨0, by omega, (hk136.below (by omega) (chain (hk131.below (by omega) (hk55.below (by omega) (chain (hk50.below (by omega) hB_L35) hb53))) hb134)), (by rw [sumF_zero]; exact hb137), ((((((hf38.keep hk50 (by omega)).on hb53).keep hk55 (by omega)).keep hk131 (by omega)).on hb134).keep hk136 (by omega)), ((((((hf40.keep hk50 (by omega)).on hb53).keep hk55 (by omega)).keep hk131 (by omega)).on hb134).keep hk136 (by omega)), rfl⟩ ⟨rfl, rfl, rfl, rfl, rfl, rfl, trivial⟩ ?_
                rintro m2_ G w_L138 ⟨q, hp139, hB_L138, hf140, hf141, hf142, rfl⟩
                have hs_w_L138 := hB_L138.size
                have hlt3c_ := hf140.lt
                have hlt2c_ := hf141.lt
                have hlt5c_ := hf142.lt
                refine w_seq ?_
                refine w_seq ?_
                refine w_region ?_
                refine rw_val (v := .int .i64 ((q : Nat) : Int)) (w' := w_L138) rfl rfl rfl rfl rfl ?_
                refine rw_val (v := .bool (decide (((q : Nat) : Int) < 65))) (w' := w_L138) rfl rfl rfl rfl (by simp [go_sem, sEv, sLook, nbeq, i64_w, -List.getD_eq_getElem?_getD]) ?_
                refine rw_end ?_
                refine w_cond rfl rfl (fun cQ => ?_) (fun cQ => ?_)
                · have l143 : (((q : Nat) : Int) < 65) := of_decide_eq_true cQ
                  refine w_skip ?_
                  refine w_seq ?_
                  refine w_block ?_
                  refine w_drawk (M := [0, 0, 0, 6, 14, 0, 0, 96, 224, 510, 0, 2047, 4095]) (ss := [Is (.int .i64 ((q : Nat) : Int)), Is (.int .i64 ((q : Nat) : Int)), Is (.pointer (some ⟨g7, 9, none⟩)), Is (.pointer (some ⟨g7, 9 + q, none⟩)), Is (.int .i64 (atF (sumF o.h (l.getD j CL.unit).h q) q)), Is (.int .i64 ((q : Nat) : Int)), Is (.pointer (some ⟨g26, 9, none⟩)), Is (.pointer (some ⟨g26, 9 + q, none⟩)), Is (.int .i64 (atF ((l.getD j CL.unit).h) q)), Is (.int .i64 (wrap64 ((atF (sumF o.h (l.getD j CL.unit).h q) q) + (atF ((l.getD j CL.unit).h) q)))), Is (.pointer (some ⟨g7, 9, none⟩))]) 11 rfl (by decide +kernel) ?_
                  refine t_is (.int .i64 ((q : Nat) : Int)) rfl rfl rfl rfl (fun W_ hW_ F_ => rfl) ?_
                  refine t_is (.int .i64 ((q : Nat) : Int)) rfl rfl rfl rfl (fun W_ hW_ F_ => rfl) ?_
                  refine t_is (.pointer (some ⟨g7, 9, none⟩)) rfl rfl rfl rfl (fun W_ hW_ F_ => by simp [go_sem, sEv, sLook, nbeq, i64_w, -List.getD_eq_getElem?_getD, Try.underlying31]) ?_
                  refine t_is (.pointer (some ⟨g7, 9 + q, none⟩)) rfl rfl rfl rfl (fun W_ hW_ F_ => (run_as (addr_hist q (by omega) _))) ?_
                  refine t_is (.int .i64 (atF (sumF o.h (l.getD j CL.unit).h q) q)) rfl rfl rfl rfl (fun W_ hW_ F_ => (by have e0_ := ((hf140.on (below_of_drew hW_))).cellv (cHA (⟨wrap64 (o.cnt + ((l.getD j CL.unit).cnt)), (wh o.hi o.lo ((l.getD j CL.unit).hi) ((l.getD j CL.unit).lo)), (wl o.lo ((l.getD j CL.unit).lo)), o.mn, (l.getD j CL.unit).mx, (l.getD j CL.unit).t, (l.getD j CL.unit).src, (l.getD j CL.unit).seq, (l.getD j CL.unit).v, (sumF o.h (l.getD j CL.unit).h q)⟩ : CL) q (by omega)); simp [go_sem, sEv, sLook, nbeq, i64_w, -List.getD_eq_getElem?_getD, e0_])) ?_
                  refine t_is (.int .i64 ((q : Nat) : Int)) rfl rfl rfl rfl (fun W_ hW_ F_ => rfl) ?_
                  refine t_is (.pointer (some ⟨g26, 9, none⟩)) rfl rfl rfl rfl (fun W_ hW_ F_ => by simp [go_sem, sEv, sLook, nbeq, i64_w, -List.getD_eq_getElem?_getD, Try.underlying31]) ?_
                  refine t_is (.pointer (some ⟨g26, 9 + q, none⟩)) rfl rfl rfl rfl (fun W_ hW_ F_ => (run_as (addr_hist q (by omega) _))) ?_
                  refine t_is (.int .i64 (atF ((l.getD j CL.unit).h) q)) rfl rfl rfl rfl (fun W_ hW_ F_ => (by have e0_ := ((hf142.on (below_of_drew hW_))).cellv (cHA (l.getD j CL.unit) q (by omega)); simp [go_sem, sEv, sLook, nbeq, i64_w, -List.getD_eq_getElem?_getD, e0_])) ?_
                  refine t_is (.int .i64 (wrap64 ((atF (sumF o.h (l.getD j CL.unit).h q) q) + (atF ((l.getD j CL.unit).h) q)))) rfl rfl rfl rfl (fun W_ hW_ F_ => by simp [go_sem, sEv, sLook, nbeq, i64_w, -List.getD_eq_getElem?_getD]) ?_
                  refine t_is (.pointer (some ⟨g7, 9, none⟩)) rfl rfl rfl rfl (fun W_ hW_ F_ => by simp [go_sem, sEv, sLook, nbeq, i64_w, -List.getD_eq_getElem?_getD, Try.underlying31]) ?_
                  refine t_tail ?_
                  intro w144 hb145_ F146
                  have hb145 := below_of_drew hb145_
                  have hs_w144 := hb145.size
                  refine rw_val (v := .pointer (some ⟨g7, 9 + q, none⟩)) (w' := w144) rfl rfl rfl rfl (run_as (addr_hist q (by omega) _)) ?_
                  refine rw_seg (g := g7) (off := (9 + q)) (ty := 3) (p := .tmp 90) (x := .tmp 88) (v := .int .i64 (wrap64 ((atF (sumF o.h (l.getD j CL.unit).h q) q) + (atF ((l.getD j CL.unit).h) q)))) (cs' := carr (⟨wrap64 (o.cnt + ((l.getD j CL.unit).cnt)), (wh o.hi o.lo ((l.getD j CL.unit).hi) ((l.getD j CL.unit).lo)), (wl o.lo ((l.getD j CL.unit).lo)), o.mn, (l.getD j CL.unit).mx, (l.getD j CL.unit).t, (l.getD j CL.unit).src, (l.getD j CL.unit).seq, (l.getD j CL.unit).v, (updF (sumF o.h (l.getD j CL.unit).h q) q (wrap64 ((atF (sumF o.h (l.getD j CL.unit).h q) q) + (atF ((l.getD j CL.unit).h) q))))⟩ : CL)) rfl rfl rfl rfl rfl rfl (hf140.on hb145) (by kernel_rfl) (by rw [carr_size]; show 9 + q + 1 ≤ 74; omega) (by intro q hq; simp only [List.mem_cons, List.not_mem_nil, or_false, Value.cells] at hq; (first | (rcases hq with rfl | rfl | rfl | rfl <;> rfl) | (rcases hq with rfl | rfl <;> rfl) | (subst hq; rfl))) (seg_h (⟨wrap64 (o.cnt + ((l.getD j CL.unit).cnt)), (wh o.hi o.lo ((l.getD j CL.unit).hi) ((l.getD j CL.unit).lo)), (wl o.lo ((l.getD j CL.unit).lo)), o.mn, (l.getD j CL.unit).mx, (l.getD j CL.unit).t, (l.getD j CL.unit).src, (l.getD j CL.unit).seq, (l.getD j CL.unit).v, (sumF o.h (l.getD j CL.unit).h q)⟩ : CL) q (by omega) (wrap64 ((atF (sumF o.h (l.getD j CL.unit).h q) q) + (atF ((l.getD j CL.unit).h) q)))) ?_
                  intro w147 hk148 hb149
                  have hs_w147 := hk148.size
                  refine rw_end ?_
                  refine w_weaken (G' := [(0, .slice (some ad23) l.length c1), (2, .pointer (some ⟨g1, 0, none⟩)), (3, .pointer (some ⟨g7, 0, none⟩)), (4, .int .i64 ((j : Nat) : Int)), (5, .pointer (some ⟨g26, 0, none⟩)), (8, .int .i64 ((q : Nat) : Int))]) ⟨rfl, rfl, rfl, rfl, rfl, rfl, trivial⟩ ?_
                  refine w_blk ?_
                  refine w_region ?_
                  refine rw_val (v := .int .i64 ((q : Nat) : Int)) (w' := w147) rfl rfl rfl rfl rfl ?_
                  refine rw_val (v := .int .i64 ((q + 1 : Nat) : Int)) (w' := w147) rfl rfl rfl rfl (by simp [go_sem, sEv, sLook, nbeq, i64_w, -List.getD_eq_getElem?_getD]; exact wrap_id (by omega) (by omega)) ?_
                  refine rw_val (v := .int .i64 ((q + 1 : Nat) : Int)) (w' := w147) rfl rfl rfl rfl rfl ?_
                  refine rw_end ?_
                  exact w_back (m2_ - 1) [(0, .slice (some ad23) l.length c1), (2, .pointer (some ⟨g1, 0, none⟩)), (3, .pointer (some ⟨g7, 0, none⟩)), (4, .int .i64 ((j : Nat) : Int)), (5, .pointer (some ⟨g26, 0, none⟩)), (8, .int .i64 ((q + 1 : Nat) : Int))] (by omega) ⟨rfl, rfl, rfl, rfl, rfl, rfl, trivial⟩ ⟨(q + 1), by omega, (hk148.below (by omega) (chain hB_L138 hb145)), (by have h_ := hb149; rw [sumF_at, sumF_step _ _ _ (by omega)] at h_; exact h_), ((hf141.on hb145).keep hk148 (by omega)), ((hf142.on hb145).keep hk148 (by omega)), rfl⟩
                · have l150 : ¬ (((q : Nat) : Int) < 65) := of_decide_eq_false cQ
                  refine w_exit rfl ?_
                  refine w_blk ?_
                  refine w_region ?_
                  refine rw_val (v := .int .i64 ((j : Nat) : Int)) (w' := w_L138) rfl rfl rfl rfl rfl ?_
                  refine rw_val (v := .int .i64 ((j + 1 : Nat) : Int)) (w' := w_L138) rfl rfl rfl rfl (by simp [go_sem, sEv, sLook, nbeq, i64_w, -List.getD_eq_getElem?_getD]; exact wrap_id (by omega) (by omega)) ?_
                  refine rw_val (v := .int .i64 ((j + 1 : Nat) : Int)) (w' := w_L138) rfl rfl rfl rfl rfl ?_
                  refine rw_end ?_
                  exact w_back (m_ - 1) [(0, .slice (some ad23) l.length c1), (2, .pointer (some ⟨g1, 0, none⟩)), (3, .pointer (some ⟨g7, 0, none⟩)), (4, .int .i64 ((j + 1 : Nat) : Int))] (by omega) ⟨rfl, rfl, rfl, rfl, trivial⟩ ⟨(j + 1), (⟨wrap64 (o.cnt + ((l.getD j CL.unit).cnt)), (wh o.hi o.lo ((l.getD j CL.unit).hi) ((l.getD j CL.unit).lo)), (wl o.lo ((l.getD j CL.unit).lo)), o.mn, (l.getD j CL.unit).mx, (l.getD j CL.unit).t, (l.getD j CL.unit).src, (l.getD j CL.unit).seq, (l.getD j CL.unit).v, (sumF o.h (l.getD j CL.unit).h q)⟩ : CL), true, by omega, hB_L138, (by have hb2_ : b = true := (by rw [hbb_, ← show k = j by omega]; have h_ := hf37; rw [cF] at h_; simpa using h_); rw [joinS_succ l j (by omega), hf18]; unfold joinStep; rw [if_neg (by rw [cU]; decide), hb2_, show q = 65 by omega]; exact congrArg (fun z => (z, true)) (two_leaf o (l.getD j CL.unit) o.mn ((l.getD j CL.unit).mx) ((l.getD j CL.unit).t) ((l.getD j CL.unit).src) ((l.getD j CL.unit).seq) ((l.getD j CL.unit).v) (by rw [if_neg (of_decide_eq_false cMn)]) (by rw [if_pos (of_decide_eq_true cMx)]) (by rw [if_pos cL]))), hf140, hf141, (wrap_rng _), rfl⟩
              · refine w_skip ?_
                refine w_seq ?_
                refine w_region ?_
                refine rw_val (v := .int .i64 0) (w' := w133) rfl rfl rfl rfl rfl ?_
                refine rw_end ?_
                refine w_block ?_
                refine w_loop (fun m_ G W_ => ∃ (q : Nat), q + m_ = 65 ∧ Below w.heap.size w W_ ∧ (Blk W_ g7 31 (carr (⟨wrap64 (o.cnt + ((l.getD j CL.unit).cnt)), (wh o.hi o.lo ((l.getD j CL.unit).hi) ((l.getD j CL.unit).lo)), (wl o.lo ((l.getD j CL.unit).lo)), o.mn, (l.getD j CL.unit).mx, o.t, o.src, o.seq, o.v, (sumF o.h (l.getD j CL.unit).h q)⟩ : CL))) ∧ (Blk W_ g1 31 (carr CL.unit)) ∧ (Blk W_ g26 31 (carr (l.getD j CL.unit))) ∧ G = [(0, .slice (some ad23) l.length c1), (2, .pointer (some ⟨g1, 0, none⟩)), (3, .pointer (some ⟨g7, 0, none⟩)), (4, .int .i64 ((j : Nat) : Int)), (5, .pointer (some ⟨g26, 0, none⟩)), (8, .int .i64 ((q : Nat) : Int))]) 65 [(0, .slice (some ad23) l.length c1), (2, .pointer (some ⟨g1, 0, none⟩)), (3, .pointer (some ⟨g7, 0, none⟩)), (4, .int .i64 ((j : Nat) : Int)), (5, .pointer (some ⟨g26, 0, none⟩)), (8, .int .i64 0)] ⟨0, by omega, (chain (hk131.below (by omega) (hk55.below (by omega) (chain (hk50.below (by omega) hB_L35) hb53))) hb134), (by rw [sumF_zero]; exact (hb132.on hb134)), (((((hf38.keep hk50 (by omega)).on hb53).keep hk55 (by omega)).keep hk131 (by omega)).on hb134), (((((hf40.keep hk50 (by omega)).on hb53).keep hk55 (by omega)).keep hk131 (by omega)).on hb134), rfl⟩ ⟨rfl, rfl, rfl, rfl, rfl, rfl, trivial⟩ ?_
                rintro m2_ G w_L151 ⟨q, hp152, hB_L151, hf153, hf154, hf155, rfl⟩
                have hs_w_L151 := hB_L151.size
                have hlt3c_ := hf153.lt
                have hlt2c_ := hf154.lt
                have hlt5c_ := hf155.lt
                refine w_seq ?_
                refine w_seq ?_
                refine w_region ?_
                refine rw_val (v := .int .i64 ((q : Nat) : Int)) (w' := w_L151) rfl rfl rfl rfl rfl ?_
                refine rw_val (v := .bool (decide (((q : Nat) : Int) < 65))) (w' := w_L151) rfl rfl rfl rfl (by simp [go_sem, sEv, sLook, nbeq, i64_w, -List.getD_eq_getElem?_getD]) ?_
                refine rw_end ?_
                refine w_cond rfl rfl (fun cQ => ?_) (fun cQ => ?_)
                · have l156 : (((q : Nat) : Int) < 65) := of_decide_eq_true cQ
                  refine w_skip ?_
                  refine w_seq ?_
                  refine w_block ?_
                  refine w_drawk (M := [0, 0, 0, 6, 14, 0, 0, 96, 224, 510, 0, 2047, 4095]) (ss := [Is (.int .i64 ((q : Nat) : Int)), Is (.int .i64 ((q : Nat) : Int)), Is (.pointer (some ⟨g7, 9, none⟩)), Is (.pointer (some ⟨g7, 9 + q, none⟩)), Is (.int .i64 (atF (sumF o.h (l.getD j CL.unit).h q) q)), Is (.int .i64 ((q : Nat) : Int)), Is (.pointer (some ⟨g26, 9, none⟩)), Is (.pointer (some ⟨g26, 9 + q, none⟩)), Is (.int .i64 (atF ((l.getD j CL.unit).h) q)), Is (.int .i64 (wrap64 ((atF (sumF o.h (l.getD j CL.unit).h q) q) + (atF ((l.getD j CL.unit).h) q)))), Is (.pointer (some ⟨g7, 9, none⟩))]) 11 rfl (by decide +kernel) ?_
                  refine t_is (.int .i64 ((q : Nat) : Int)) rfl rfl rfl rfl (fun W_ hW_ F_ => rfl) ?_
                  refine t_is (.int .i64 ((q : Nat) : Int)) rfl rfl rfl rfl (fun W_ hW_ F_ => rfl) ?_
                  refine t_is (.pointer (some ⟨g7, 9, none⟩)) rfl rfl rfl rfl (fun W_ hW_ F_ => by simp [go_sem, sEv, sLook, nbeq, i64_w, -List.getD_eq_getElem?_getD, Try.underlying31]) ?_
                  refine t_is (.pointer (some ⟨g7, 9 + q, none⟩)) rfl rfl rfl rfl (fun W_ hW_ F_ => (run_as (addr_hist q (by omega) _))) ?_
                  refine t_is (.int .i64 (atF (sumF o.h (l.getD j CL.unit).h q) q)) rfl rfl rfl rfl (fun W_ hW_ F_ => (by have e0_ := ((hf153.on (below_of_drew hW_))).cellv (cHA (⟨wrap64 (o.cnt + ((l.getD j CL.unit).cnt)), (wh o.hi o.lo ((l.getD j CL.unit).hi) ((l.getD j CL.unit).lo)), (wl o.lo ((l.getD j CL.unit).lo)), o.mn, (l.getD j CL.unit).mx, o.t, o.src, o.seq, o.v, (sumF o.h (l.getD j CL.unit).h q)⟩ : CL) q (by omega)); simp [go_sem, sEv, sLook, nbeq, i64_w, -List.getD_eq_getElem?_getD, e0_])) ?_
                  refine t_is (.int .i64 ((q : Nat) : Int)) rfl rfl rfl rfl (fun W_ hW_ F_ => rfl) ?_
                  refine t_is (.pointer (some ⟨g26, 9, none⟩)) rfl rfl rfl rfl (fun W_ hW_ F_ => by simp [go_sem, sEv, sLook, nbeq, i64_w, -List.getD_eq_getElem?_getD, Try.underlying31]) ?_
                  refine t_is (.pointer (some ⟨g26, 9 + q, none⟩)) rfl rfl rfl rfl (fun W_ hW_ F_ => (run_as (addr_hist q (by omega) _))) ?_
                  refine t_is (.int .i64 (atF ((l.getD j CL.unit).h) q)) rfl rfl rfl rfl (fun W_ hW_ F_ => (by have e0_ := ((hf155.on (below_of_drew hW_))).cellv (cHA (l.getD j CL.unit) q (by omega)); simp [go_sem, sEv, sLook, nbeq, i64_w, -List.getD_eq_getElem?_getD, e0_])) ?_
                  refine t_is (.int .i64 (wrap64 ((atF (sumF o.h (l.getD j CL.unit).h q) q) + (atF ((l.getD j CL.unit).h) q)))) rfl rfl rfl rfl (fun W_ hW_ F_ => by simp [go_sem, sEv, sLook, nbeq, i64_w, -List.getD_eq_getElem?_getD]) ?_
                  refine t_is (.pointer (some ⟨g7, 9, none⟩)) rfl rfl rfl rfl (fun W_ hW_ F_ => by simp [go_sem, sEv, sLook, nbeq, i64_w, -List.getD_eq_getElem?_getD, Try.underlying31]) ?_
                  refine t_tail ?_
                  intro w157 hb158_ F159
                  have hb158 := below_of_drew hb158_
                  have hs_w157 := hb158.size
                  refine rw_val (v := .pointer (some ⟨g7, 9 + q, none⟩)) (w' := w157) rfl rfl rfl rfl (run_as (addr_hist q (by omega) _)) ?_
                  refine rw_seg (g := g7) (off := (9 + q)) (ty := 3) (p := .tmp 90) (x := .tmp 88) (v := .int .i64 (wrap64 ((atF (sumF o.h (l.getD j CL.unit).h q) q) + (atF ((l.getD j CL.unit).h) q)))) (cs' := carr (⟨wrap64 (o.cnt + ((l.getD j CL.unit).cnt)), (wh o.hi o.lo ((l.getD j CL.unit).hi) ((l.getD j CL.unit).lo)), (wl o.lo ((l.getD j CL.unit).lo)), o.mn, (l.getD j CL.unit).mx, o.t, o.src, o.seq, o.v, (updF (sumF o.h (l.getD j CL.unit).h q) q (wrap64 ((atF (sumF o.h (l.getD j CL.unit).h q) q) + (atF ((l.getD j CL.unit).h) q))))⟩ : CL)) rfl rfl rfl rfl rfl rfl (hf153.on hb158) (by kernel_rfl) (by rw [carr_size]; show 9 + q + 1 ≤ 74; omega) (by intro q hq; simp only [List.mem_cons, List.not_mem_nil, or_false, Value.cells] at hq; (first | (rcases hq with rfl | rfl | rfl | rfl <;> rfl) | (rcases hq with rfl | rfl <;> rfl) | (subst hq; rfl))) (seg_h (⟨wrap64 (o.cnt + ((l.getD j CL.unit).cnt)), (wh o.hi o.lo ((l.getD j CL.unit).hi) ((l.getD j CL.unit).lo)), (wl o.lo ((l.getD j CL.unit).lo)), o.mn, (l.getD j CL.unit).mx, o.t, o.src, o.seq, o.v, (sumF o.h (l.getD j CL.unit).h q)⟩ : CL) q (by omega) (wrap64 ((atF (sumF o.h (l.getD j CL.unit).h q) q) + (atF ((l.getD j CL.unit).h) q)))) ?_
                  intro w160 hk161 hb162
                  have hs_w160 := hk161.size
                  refine rw_end ?_
                  refine w_weaken (G' := [(0, .slice (some ad23) l.length c1), (2, .pointer (some ⟨g1, 0, none⟩)), (3, .pointer (some ⟨g7, 0, none⟩)), (4, .int .i64 ((j : Nat) : Int)), (5, .pointer (some ⟨g26, 0, none⟩)), (8, .int .i64 ((q : Nat) : Int))]) ⟨rfl, rfl, rfl, rfl, rfl, rfl, trivial⟩ ?_
                  refine w_blk ?_
                  refine w_region ?_
                  refine rw_val (v := .int .i64 ((q : Nat) : Int)) (w' := w160) rfl rfl rfl rfl rfl ?_
                  refine rw_val (v := .int .i64 ((q + 1 : Nat) : Int)) (w' := w160) rfl rfl rfl rfl (by simp [go_sem, sEv, sLook, nbeq, i64_w, -List.getD_eq_getElem?_getD]; exact wrap_id (by omega) (by omega)) ?_
                  refine rw_val (v := .int .i64 ((q + 1 : Nat) : Int)) (w' := w160) rfl rfl rfl rfl rfl ?_
                  refine rw_end ?_
                  exact w_back (m2_ - 1) [(0, .slice (some ad23) l.length c1), (2, .pointer (some ⟨g1, 0, none⟩)), (3, .pointer (some ⟨g7, 0, none⟩)), (4, .int .i64 ((j : Nat) : Int)), (5, .pointer (some ⟨g26, 0, none⟩)), (8, .int .i64 ((q + 1 : Nat) : Int))] (by omega) ⟨rfl, rfl, rfl, rfl, rfl, rfl, trivial⟩ ⟨(q + 1), by omega, (hk161.below (by omega) (chain hB_L151 hb158)), (by have h_ := hb162; rw [sumF_at, sumF_step _ _ _ (by omega)] at h_; exact h_), ((hf154.on hb158).keep hk161 (by omega)), ((hf155.on hb158).keep hk161 (by omega)), rfl⟩
                · have l163 : ¬ (((q : Nat) : Int) < 65) := of_decide_eq_false cQ
                  refine w_exit rfl ?_
                  refine w_blk ?_
                  refine w_region ?_
                  refine rw_val (v := .int .i64 ((j : Nat) : Int)) (w' := w_L151) rfl rfl rfl rfl rfl ?_
                  refine rw_val (v := .int .i64 ((j + 1 : Nat) : Int)) (w' := w_L151) rfl rfl rfl rfl (by simp [go_sem, sEv, sLook, nbeq, i64_w, -List.getD_eq_getElem?_getD]; exact wrap_id (by omega) (by omega)) ?_
                  refine rw_val (v := .int .i64 ((j + 1 : Nat) : Int)) (w' := w_L151) rfl rfl rfl rfl rfl ?_
                  refine rw_end ?_
                  exact w_back (m_ - 1) [(0, .slice (some ad23) l.length c1), (2, .pointer (some ⟨g1, 0, none⟩)), (3, .pointer (some ⟨g7, 0, none⟩)), (4, .int .i64 ((j + 1 : Nat) : Int))] (by omega) ⟨rfl, rfl, rfl, rfl, trivial⟩ ⟨(j + 1), (⟨wrap64 (o.cnt + ((l.getD j CL.unit).cnt)), (wh o.hi o.lo ((l.getD j CL.unit).hi) ((l.getD j CL.unit).lo)), (wl o.lo ((l.getD j CL.unit).lo)), o.mn, (l.getD j CL.unit).mx, o.t, o.src, o.seq, o.v, (sumF o.h (l.getD j CL.unit).h q)⟩ : CL), true, by omega, hB_L151, (by have hb2_ : b = true := (by rw [hbb_, ← show k = j by omega]; have h_ := hf37; rw [cF] at h_; simpa using h_); rw [joinS_succ l j (by omega), hf18]; unfold joinStep; rw [if_neg (by rw [cU]; decide), hb2_, show q = 65 by omega]; exact congrArg (fun z => (z, true)) (two_leaf o (l.getD j CL.unit) o.mn ((l.getD j CL.unit).mx) o.t o.src o.seq o.v (by rw [if_neg (of_decide_eq_false cMn)]) (by rw [if_pos (of_decide_eq_true cMx)]) (by rw [if_neg (by rw [cL]; decide)]))), hf153, hf154, (wrap_rng _), rfl⟩
            · have l164 : ¬ (o.mx < ((l.getD j CL.unit).mx)) := of_decide_eq_false cMx
              refine w_skip ?_
              refine w_seq ?_
              refine w_seq ?_
              refine w_region ?_
              refine rw_val (v := .pointer (some ⟨g26, 5, none⟩)) (w' := w54) rfl rfl rfl rfl (by simp [go_sem, sEv, sLook, nbeq, i64_w, -List.getD_eq_getElem?_getD, Try.underlying31]) ?_
              refine rw_val (v := .agg #[.int .i64 ((l.getD j CL.unit).t), .int .i64 ((l.getD j CL.unit).src), .int .i64 ((l.getD j CL.unit).seq), .int .i64 ((l.getD j CL.unit).v)]) (w' := w54) rfl rfl rfl rfl (by have eb_ := (((hf40.keep hk50 (by omega)).on hb53).keep hk55 (by omega)); have e0_ := eb_.cellv (v := .int .i64 ((l.getD j CL.unit).t)) (cA5 (l.getD j CL.unit)); have e1_ := eb_.cellv (v := .int .i64 ((l.getD j CL.unit).src)) (cA6 (l.getD j CL.unit)); have e2_ := eb_.cellv (v := .int .i64 ((l.getD j CL.unit).seq)) (cA7 (l.getD j CL.unit)); have e3_ := eb_.cellv (v := .int .i64 ((l.getD j CL.unit).v)) (cA8 (l.getD j CL.unit)); simp [go_sem, sEv, sLook, nbeq, i64_w, -List.getD_eq_getElem?_getD, e0_, e1_, e2_, e3_, Try.underlying28]) ?_
              refine rw_val (v := .pointer (some ⟨g7, 5, none⟩)) (w' := w54) rfl rfl rfl rfl (by simp [go_sem, sEv, sLook, nbeq, i64_w, -List.getD_eq_getElem?_getD, Try.underlying31]) ?_
              refine rw_val (v := .agg #[.int .i64 o.t, .int .i64 o.src, .int .i64 o.seq, .int .i64 o.v]) (w' := w54) rfl rfl rfl rfl (by have eb_ := hb56; have e0_ := eb_.cellv (v := .int .i64 o.t) (cA5 (⟨wrap64 (o.cnt + ((l.getD j CL.unit).cnt)), (wh o.hi o.lo ((l.getD j CL.unit).hi) ((l.getD j CL.unit).lo)), (wl o.lo ((l.getD j CL.unit).lo)), o.mn, o.mx, o.t, o.src, o.seq, o.v, o.h⟩ : CL)); have e1_ := eb_.cellv (v := .int .i64 o.src) (cA6 (⟨wrap64 (o.cnt + ((l.getD j CL.unit).cnt)), (wh o.hi o.lo ((l.getD j CL.unit).hi) ((l.getD j CL.unit).lo)), (wl o.lo ((l.getD j CL.unit).lo)), o.mn, o.mx, o.t, o.src, o.seq, o.v, o.h⟩ : CL)); have e2_ := eb_.cellv (v := .int .i64 o.seq) (cA7 (⟨wrap64 (o.cnt + ((l.getD j CL.unit).cnt)), (wh o.hi o.lo ((l.getD j CL.unit).hi) ((l.getD j CL.unit).lo)), (wl o.lo ((l.getD j CL.unit).lo)), o.mn, o.mx, o.t, o.src, o.seq, o.v, o.h⟩ : CL)); have e3_ := eb_.cellv (v := .int .i64 o.v) (cA8 (⟨wrap64 (o.cnt + ((l.getD j CL.unit).cnt)), (wh o.hi o.lo ((l.getD j CL.unit).hi) ((l.getD j CL.unit).lo)), (wl o.lo ((l.getD j CL.unit).lo)), o.mn, o.mx, o.t, o.src, o.seq, o.v, o.h⟩ : CL)); simp [go_sem, sEv, sLook, nbeq, i64_w, -List.getD_eq_getElem?_getD, e0_, e1_, e2_, e3_, Try.underlying28]) ?_
              refine rw_call rfl rfl rfl rfl (f := 17) (args := #[.agg #[.int .i64 ((l.getD j CL.unit).t), .int .i64 ((l.getD j CL.unit).src), .int .i64 ((l.getD j CL.unit).seq), .int .i64 ((l.getD j CL.unit).v)], .agg #[.int .i64 o.t, .int .i64 o.src, .int .i64 o.seq, .int .i64 o.v]]) (by simp [go_sem, sEv, sLook, nbeq, i64_w, -List.getD_eq_getElem?_getD]) (rlater_calls ((l.getD j CL.unit).t) ((l.getD j CL.unit).src) ((l.getD j CL.unit).seq) ((l.getD j CL.unit).v) o.t o.src o.seq o.v w54) ?_
              rintro e_ w165 ⟨rfl, hb166⟩
              refine ⟨_, rfl, ?_⟩
              have hs_w165 := hb166.size
              refine rw_end ?_
              refine w_weaken (G' := [(0, .slice (some ad23) l.length c1), (2, .pointer (some ⟨g1, 0, none⟩)), (3, .pointer (some ⟨g7, 0, none⟩)), (4, .int .i64 ((j : Nat) : Int)), (5, .pointer (some ⟨g26, 0, none⟩)), (71, .bool (later ((l.getD j CL.unit).t) ((l.getD j CL.unit).src) ((l.getD j CL.unit).seq) ((l.getD j CL.unit).v) o.t o.src o.seq o.v))]) ⟨rfl, rfl, rfl, rfl, rfl, rfl, trivial⟩ ?_
              refine w_cond rfl rfl (fun cL => ?_) (fun cL => ?_)
              · refine w_region ?_
                refine rw_val (v := .pointer (some ⟨g26, 5, none⟩)) (w' := w165) rfl rfl rfl rfl (by simp [go_sem, sEv, sLook, nbeq, i64_w, -List.getD_eq_getElem?_getD, Try.underlying31]) ?_
                refine rw_val (v := .agg #[.int .i64 ((l.getD j CL.unit).t), .int .i64 ((l.getD j CL.unit).src), .int .i64 ((l.getD j CL.unit).seq), .int .i64 ((l.getD j CL.unit).v)]) (w' := w165) rfl rfl rfl rfl (by have eb_ := ((((hf40.keep hk50 (by omega)).on hb53).keep hk55 (by omega)).on hb166); have e0_ := eb_.cellv (v := .int .i64 ((l.getD j CL.unit).t)) (cA5 (l.getD j CL.unit)); have e1_ := eb_.cellv (v := .int .i64 ((l.getD j CL.unit).src)) (cA6 (l.getD j CL.unit)); have e2_ := eb_.cellv (v := .int .i64 ((l.getD j CL.unit).seq)) (cA7 (l.getD j CL.unit)); have e3_ := eb_.cellv (v := .int .i64 ((l.getD j CL.unit).v)) (cA8 (l.getD j CL.unit)); simp [go_sem, sEv, sLook, nbeq, i64_w, -List.getD_eq_getElem?_getD, e0_, e1_, e2_, e3_, Try.underlying28]) ?_
                refine rw_val (v := .pointer (some ⟨g7, 5, none⟩)) (w' := w165) rfl rfl rfl rfl (by simp [go_sem, sEv, sLook, nbeq, i64_w, -List.getD_eq_getElem?_getD, Try.underlying31]) ?_
                refine rw_seg (g := g7) (off := 5) (ty := 28) (p := .tmp 74) (x := .tmp 73) (v := .agg #[.int .i64 ((l.getD j CL.unit).t), .int .i64 ((l.getD j CL.unit).src), .int .i64 ((l.getD j CL.unit).seq), .int .i64 ((l.getD j CL.unit).v)]) (cs' := carr (⟨wrap64 (o.cnt + ((l.getD j CL.unit).cnt)), (wh o.hi o.lo ((l.getD j CL.unit).hi) ((l.getD j CL.unit).lo)), (wl o.lo ((l.getD j CL.unit).lo)), o.mn, o.mx, (l.getD j CL.unit).t, (l.getD j CL.unit).src, (l.getD j CL.unit).seq, (l.getD j CL.unit).v, o.h⟩ : CL)) rfl rfl rfl rfl rfl rfl (hb56.on hb166) (by kernel_rfl) (by rw [carr_size]; simp [Value.cells] <;> omega) (by intro q hq; simp only [List.mem_cons, List.not_mem_nil, or_false, Value.cells] at hq; (first | (rcases hq with rfl | rfl | rfl | rfl <;> rfl) | (rcases hq with rfl | rfl <;> rfl) | (subst hq; rfl))) (seg_last (⟨wrap64 (o.cnt + ((l.getD j CL.unit).cnt)), (wh o.hi o.lo ((l.getD j CL.unit).hi) ((l.getD j CL.unit).lo)), (wl o.lo ((l.getD j CL.unit).lo)), o.mn, o.mx, o.t, o.src, o.seq, o.v, o.h⟩ : CL) ((l.getD j CL.unit).t) ((l.getD j CL.unit).src) ((l.getD j CL.unit).seq) ((l.getD j CL.unit).v)) ?_
                intro w167 hk168 hb169
                have hs_w167 := hk168.size
                refine rw_end ?_
                refine w_weaken (G' := [(0, .slice (some ad23) l.length c1), (2, .pointer (some ⟨g1, 0, none⟩)), (3, .pointer (some ⟨g7, 0, none⟩)), (4, .int .i64 ((j : Nat) : Int)), (5, .pointer (some ⟨g26, 0, none⟩))]) ⟨rfl, rfl, rfl, rfl, rfl, trivial⟩ ?_
                refine w_seq ?_
                refine w_region ?_
                refine rw_val (v := .int .i64 0) (w' := w167) rfl rfl rfl rfl rfl ?_
                refine rw_end ?_
                refine w_block ?_
                refine w_loop (fun m_ G W_ => ∃ (q : Nat), q + m_ = 65 ∧ Below w.heap.size w W_ ∧ (Blk W_ g7 31 (carr (⟨wrap64 (o.cnt + ((l.getD j CL.unit).cnt)), (wh o.hi o.lo ((l.getD j CL.unit).hi) ((l.getD j CL.unit).lo)), (wl o.lo ((l.getD j CL.unit).lo)), o.mn, o.mx, (l.getD j CL.unit).t, (l.getD j CL.unit).src, (l.getD j CL.unit).seq, (l.getD j CL.unit).v, (sumF o.h (l.getD j CL.unit).h q)⟩ : CL))) ∧ (Blk W_ g1 31 (carr CL.unit)) ∧ (Blk W_ g26 31 (carr (l.getD j CL.unit))) ∧ G = [(0, .slice (some ad23) l.length c1), (2, .pointer (some ⟨g1, 0, none⟩)), (3, .pointer (some ⟨g7, 0, none⟩)), (4, .int .i64 ((j : Nat) : Int)), (5, .pointer (some ⟨g26, 0, none⟩)), (8, .int .i64 ((q : Nat) : Int))]) 65 [(0, .slice (some ad23) l.length c1), (2, .pointer (some ⟨g1, 0, none⟩)), (3, .pointer (some ⟨g7, 0, none⟩)), (4, .int .i64 ((j : Nat) : Int)), (5, .pointer (some ⟨g26, 0, none⟩)), (8, .int .i64 0)] ⟨0, by omega, (hk168.below (by omega) (chain (hk55.below (by omega) (chain (hk50.below (by omega) hB_L35) hb53)) hb166)), (by rw [sumF_zero]; exact hb169), (((((hf38.keep hk50 (by omega)).on hb53).keep hk55 (by omega)).on hb166).keep hk168 (by omega)), (((((hf40.keep hk50 (by omega)).on hb53).keep hk55 (by omega)).on hb166).keep hk168 (by omega)), rfl⟩ ⟨rfl, rfl, rfl, rfl, rfl, rfl, trivial⟩ ?_
                rintro m2_ G w_L170 ⟨q, hp171, hB_L170, hf172, hf173, hf174, rfl⟩
                have hs_w_L170 := hB_L170.size
                have hlt3c_ := hf172.lt
                have hlt2c_ := hf173.lt
                have hlt5c_ := hf174.lt
                refine w_seq ?_
                refine w_seq ?_
                refine w_region ?_
                refine rw_val (v := .int .i64 ((q : Nat) : Int)) (w' := w_L170) rfl rfl rfl rfl rfl ?_
                refine rw_val (v := .bool (decide (((q : Nat) : Int) < 65))) (w' := w_L170) rfl rfl rfl rfl (by simp [go_sem, sEv, sLook, nbeq, i64_w, -List.getD_eq_getElem?_getD]) ?_
                refine rw_end ?_
                refine w_cond rfl rfl (fun cQ => ?_) (fun cQ => ?_)
                · have l175 : (((q : Nat) : Int) < 65) := of_decide_eq_true cQ
                  refine w_skip ?_
                  refine w_seq ?_
                  refine w_block ?_
                  refine w_drawk (M := [0, 0, 0, 6, 14, 0, 0, 96, 224, 510, 0, 2047, 4095]) (ss := [Is (.int .i64 ((q : Nat) : Int)), Is (.int .i64 ((q : Nat) : Int)), Is (.pointer (some ⟨g7, 9, none⟩)), Is (.pointer (some ⟨g7, 9 + q, none⟩)), Is (.int .i64 (atF (sumF o.h (l.getD j CL.unit).h q) q)), Is (.int .i64 ((q : Nat) : Int)), Is (.pointer (some ⟨g26, 9, none⟩)), Is (.pointer (some ⟨g26, 9 + q, none⟩)), Is (.int .i64 (atF ((l.getD j CL.unit).h) q)), Is (.int .i64 (wrap64 ((atF (sumF o.h (l.getD j CL.unit).h q) q) + (atF ((l.getD j CL.unit).h) q)))), Is (.pointer (some ⟨g7, 9, none⟩))]) 11 rfl (by decide +kernel) ?_
                  refine t_is (.int .i64 ((q : Nat) : Int)) rfl rfl rfl rfl (fun W_ hW_ F_ => rfl) ?_
                  refine t_is (.int .i64 ((q : Nat) : Int)) rfl rfl rfl rfl (fun W_ hW_ F_ => rfl) ?_
                  refine t_is (.pointer (some ⟨g7, 9, none⟩)) rfl rfl rfl rfl (fun W_ hW_ F_ => by simp [go_sem, sEv, sLook, nbeq, i64_w, -List.getD_eq_getElem?_getD, Try.underlying31]) ?_
                  refine t_is (.pointer (some ⟨g7, 9 + q, none⟩)) rfl rfl rfl rfl (fun W_ hW_ F_ => (run_as (addr_hist q (by omega) _))) ?_
                  refine t_is (.int .i64 (atF (sumF o.h (l.getD j CL.unit).h q) q)) rfl rfl rfl rfl (fun W_ hW_ F_ => (by have e0_ := ((hf172.on (below_of_drew hW_))).cellv (cHA (⟨wrap64 (o.cnt + ((l.getD j CL.unit).cnt)), (wh o.hi o.lo ((l.getD j CL.unit).hi) ((l.getD j CL.unit).lo)), (wl o.lo ((l.getD j CL.unit).lo)), o.mn, o.mx, (l.getD j CL.unit).t, (l.getD j CL.unit).src, (l.getD j CL.unit).seq, (l.getD j CL.unit).v, (sumF o.h (l.getD j CL.unit).h q)⟩ : CL) q (by omega)); simp [go_sem, sEv, sLook, nbeq, i64_w, -List.getD_eq_getElem?_getD, e0_])) ?_
                  refine t_is (.int .i64 ((q : Nat) : Int)) rfl rfl rfl rfl (fun W_ hW_ F_ => rfl) ?_
                  refine t_is (.pointer (some ⟨g26, 9, none⟩)) rfl rfl rfl rfl (fun W_ hW_ F_ => by simp [go_sem, sEv, sLook, nbeq, i64_w, -List.getD_eq_getElem?_getD, Try.underlying31]) ?_
                  refine t_is (.pointer (some ⟨g26, 9 + q, none⟩)) rfl rfl rfl rfl (fun W_ hW_ F_ => (run_as (addr_hist q (by omega) _))) ?_
                  refine t_is (.int .i64 (atF ((l.getD j CL.unit).h) q)) rfl rfl rfl rfl (fun W_ hW_ F_ => (by have e0_ := ((hf174.on (below_of_drew hW_))).cellv (cHA (l.getD j CL.unit) q (by omega)); simp [go_sem, sEv, sLook, nbeq, i64_w, -List.getD_eq_getElem?_getD, e0_])) ?_
                  refine t_is (.int .i64 (wrap64 ((atF (sumF o.h (l.getD j CL.unit).h q) q) + (atF ((l.getD j CL.unit).h) q)))) rfl rfl rfl rfl (fun W_ hW_ F_ => by simp [go_sem, sEv, sLook, nbeq, i64_w, -List.getD_eq_getElem?_getD]) ?_
                  refine t_is (.pointer (some ⟨g7, 9, none⟩)) rfl rfl rfl rfl (fun W_ hW_ F_ => by simp [go_sem, sEv, sLook, nbeq, i64_w, -List.getD_eq_getElem?_getD, Try.underlying31]) ?_
                  refine t_tail ?_
                  intro w176 hb177_ F178
                  have hb177 := below_of_drew hb177_
                  have hs_w176 := hb177.size
                  refine rw_val (v := .pointer (some ⟨g7, 9 + q, none⟩)) (w' := w176) rfl rfl rfl rfl (run_as (addr_hist q (by omega) _)) ?_
                  refine rw_seg (g := g7) (off := (9 + q)) (ty := 3) (p := .tmp 90) (x := .tmp 88) (v := .int .i64 (wrap64 ((atF (sumF o.h (l.getD j CL.unit).h q) q) + (atF ((l.getD j CL.unit).h) q)))) (cs' := carr (⟨wrap64 (o.cnt + ((l.getD j CL.unit).cnt)), (wh o.hi o.lo ((l.getD j CL.unit).hi) ((l.getD j CL.unit).lo)), (wl o.lo ((l.getD j CL.unit).lo)), o.mn, o.mx, (l.getD j CL.unit).t, (l.getD j CL.unit).src, (l.getD j CL.unit).seq, (l.getD j CL.unit).v, (updF (sumF o.h (l.getD j CL.unit).h q) q (wrap64 ((atF (sumF o.h (l.getD j CL.unit).h q) q) + (atF ((l.getD j CL.unit).h) q))))⟩ : CL)) rfl rfl rfl rfl rfl rfl (hf172.on hb177) (by kernel_rfl) (by rw [carr_size]; show 9 + q + 1 ≤ 74; omega) (by intro q hq; simp only [List.mem_cons, List.not_mem_nil, or_false, Value.cells] at hq; (first | (rcases hq with rfl | rfl | rfl | rfl <;> rfl) | (rcases hq with rfl | rfl <;> rfl) | (subst hq; rfl))) (seg_h (⟨wrap64 (o.cnt + ((l.getD j CL.unit).cnt)), (wh o.hi o.lo ((l.getD j CL.unit).hi) ((l.getD j CL.unit).lo)), (wl o.lo ((l.getD j CL.unit).lo)), o.mn, o.mx, (l.getD j CL.unit).t, (l.getD j CL.unit).src, (l.getD j CL.unit).seq, (l.getD j CL.unit).v, (sumF o.h (l.getD j CL.unit).h q)⟩ : CL) q (by omega) (wrap64 ((atF (sumF o.h (l.getD j CL.unit).h q) q) + (atF ((l.getD j CL.unit).h) q)))) ?_
                  intro w179 hk180 hb181
                  have hs_w179 := hk180.size
                  refine rw_end ?_
                  refine w_weaken (G' := [(0, .slice (some ad23) l.length c1), (2, .pointer (some ⟨g1, 0, none⟩)), (3, .pointer (some ⟨g7, 0, none⟩)), (4, .int .i64 ((j : Nat) : Int)), (5, .pointer (some ⟨g26, 0, none⟩)), (8, .int .i64 ((q : Nat) : Int))]) ⟨rfl, rfl, rfl, rfl, rfl, rfl, trivial⟩ ?_
                  refine w_blk ?_
                  refine w_region ?_
                  refine rw_val (v := .int .i64 ((q : Nat) : Int)) (w' := w179) rfl rfl rfl rfl rfl ?_
                  refine rw_val (v := .int .i64 ((q + 1 : Nat) : Int)) (w' := w179) rfl rfl rfl rfl (by simp [go_sem, sEv, sLook, nbeq, i64_w, -List.getD_eq_getElem?_getD]; exact wrap_id (by omega) (by omega)) ?_
                  refine rw_val (v := .int .i64 ((q + 1 : Nat) : Int)) (w' := w179) rfl rfl rfl rfl rfl ?_
                  refine rw_end ?_
                  exact w_back (m2_ - 1) [(0, .slice (some ad23) l.length c1), (2, .pointer (some ⟨g1, 0, none⟩)), (3, .pointer (some ⟨g7, 0, none⟩)), (4, .int .i64 ((j : Nat) : Int)), (5, .pointer (some ⟨g26, 0, none⟩)), (8, .int .i64 ((q + 1 : Nat) : Int))] (by omega) ⟨rfl, rfl, rfl, rfl, rfl, rfl, trivial⟩ ⟨(q + 1), by omega, (hk180.below (by omega) (chain hB_L170 hb177)), (by have h_ := hb181; rw [sumF_at, sumF_step _ _ _ (by omega)] at h_; exact h_), ((hf173.on hb177).keep hk180 (by omega)), ((hf174.on hb177).keep hk180 (by omega)), rfl⟩
                · have l182 : ¬ (((q : Nat) : Int) < 65) := of_decide_eq_false cQ
                  refine w_exit rfl ?_
                  refine w_blk ?_
                  refine w_region ?_
                  refine rw_val (v := .int .i64 ((j : Nat) : Int)) (w' := w_L170) rfl rfl rfl rfl rfl ?_
                  refine rw_val (v := .int .i64 ((j + 1 : Nat) : Int)) (w' := w_L170) rfl rfl rfl rfl (by simp [go_sem, sEv, sLook, nbeq, i64_w, -List.getD_eq_getElem?_getD]; exact wrap_id (by omega) (by omega)) ?_
                  refine rw_val (v := .int .i64 ((j + 1 : Nat) : Int)) (w' := w_L170) rfl rfl rfl rfl rfl ?_
                  refine rw_end ?_
                  exact w_back (m_ - 1) [(0, .slice (some ad23) l.length c1), (2, .pointer (some ⟨g1, 0, none⟩)), (3, .pointer (some ⟨g7, 0, none⟩)), (4, .int .i64 ((j + 1 : Nat) : Int))] (by omega) ⟨rfl, rfl, rfl, rfl, trivial⟩ ⟨(j + 1), (⟨wrap64 (o.cnt + ((l.getD j CL.unit).cnt)), (wh o.hi o.lo ((l.getD j CL.unit).hi) ((l.getD j CL.unit).lo)), (wl o.lo ((l.getD j CL.unit).lo)), o.mn, o.mx, (l.getD j CL.unit).t, (l.getD j CL.unit).src, (l.getD j CL.unit).seq, (l.getD j CL.unit).v, (sumF o.h (l.getD j CL.unit).h q)⟩ : CL), true, by omega, hB_L170, (by have hb2_ : b = true := (by rw [hbb_, ← show k = j by omega]; have h_ := hf37; rw [cF] at h_; simpa using h_); rw [joinS_succ l j (by omega), hf18]; unfold joinStep; rw [if_neg (by rw [cU]; decide), hb2_, show q = 65 by omega]; exact congrArg (fun z => (z, true)) (two_leaf o (l.getD j CL.unit) o.mn o.mx ((l.getD j CL.unit).t) ((l.getD j CL.unit).src) ((l.getD j CL.unit).seq) ((l.getD j CL.unit).v) (by rw [if_neg (of_decide_eq_false cMn)]) (by rw [if_neg (of_decide_eq_false cMx)]) (by rw [if_pos cL]))), hf172, hf173, (wrap_rng _), rfl⟩
              · refine w_skip ?_
                refine w_seq ?_
                refine w_region ?_
                refine rw_val (v := .int .i64 0) (w' := w165) rfl rfl rfl rfl rfl ?_
                refine rw_end ?_
                refine w_block ?_
                refine w_loop (fun m_ G W_ => ∃ (q : Nat), q + m_ = 65 ∧ Below w.heap.size w W_ ∧ (Blk W_ g7 31 (carr (⟨wrap64 (o.cnt + ((l.getD j CL.unit).cnt)), (wh o.hi o.lo ((l.getD j CL.unit).hi) ((l.getD j CL.unit).lo)), (wl o.lo ((l.getD j CL.unit).lo)), o.mn, o.mx, o.t, o.src, o.seq, o.v, (sumF o.h (l.getD j CL.unit).h q)⟩ : CL))) ∧ (Blk W_ g1 31 (carr CL.unit)) ∧ (Blk W_ g26 31 (carr (l.getD j CL.unit))) ∧ G = [(0, .slice (some ad23) l.length c1), (2, .pointer (some ⟨g1, 0, none⟩)), (3, .pointer (some ⟨g7, 0, none⟩)), (4, .int .i64 ((j : Nat) : Int)), (5, .pointer (some ⟨g26, 0, none⟩)), (8, .int .i64 ((q : Nat) : Int))]) 65 [(0, .slice (some ad23) l.length c1), (2, .pointer (some ⟨g1, 0, none⟩)), (3, .pointer (some ⟨g7, 0, none⟩)), (4, .int .i64 ((j : Nat) : Int)), (5, .pointer (some ⟨g26, 0, none⟩)), (8, .int .i64 0)] ⟨0, by omega, (chain (hk55.below (by omega) (chain (hk50.below (by omega) hB_L35) hb53)) hb166), (by rw [sumF_zero]; exact (hb56.on hb166)), ((((hf38.keep hk50 (by omega)).on hb53).keep hk55 (by omega)).on hb166), ((((hf40.keep hk50 (by omega)).on hb53).keep hk55 (by omega)).on hb166), rfl⟩ ⟨rfl, rfl, rfl, rfl, rfl, rfl, trivial⟩ ?_
                rintro m2_ G w_L183 ⟨q, hp184, hB_L183, hf185, hf186, hf187, rfl⟩
                have hs_w_L183 := hB_L183.size
                have hlt3c_ := hf185.lt
                have hlt2c_ := hf186.lt
                have hlt5c_ := hf187.lt
                refine w_seq ?_
                refine w_seq ?_
                refine w_region ?_
                refine rw_val (v := .int .i64 ((q : Nat) : Int)) (w' := w_L183) rfl rfl rfl rfl rfl ?_
                refine rw_val (v := .bool (decide (((q : Nat) : Int) < 65))) (w' := w_L183) rfl rfl rfl rfl (by simp [go_sem, sEv, sLook, nbeq, i64_w, -List.getD_eq_getElem?_getD]) ?_
                refine rw_end ?_
                refine w_cond rfl rfl (fun cQ => ?_) (fun cQ => ?_)
                · have l188 : (((q : Nat) : Int) < 65) := of_decide_eq_true cQ
                  refine w_skip ?_
                  refine w_seq ?_
                  refine w_block ?_
                  refine w_drawk (M := [0, 0, 0, 6, 14, 0, 0, 96, 224, 510, 0, 2047, 4095]) (ss := [Is (.int .i64 ((q : Nat) : Int)), Is (.int .i64 ((q : Nat) : Int)), Is (.pointer (some ⟨g7, 9, none⟩)), Is (.pointer (some ⟨g7, 9 + q, none⟩)), Is (.int .i64 (atF (sumF o.h (l.getD j CL.unit).h q) q)), Is (.int .i64 ((q : Nat) : Int)), Is (.pointer (some ⟨g26, 9, none⟩)), Is (.pointer (some ⟨g26, 9 + q, none⟩)), Is (.int .i64 (atF ((l.getD j CL.unit).h) q)), Is (.int .i64 (wrap64 ((atF (sumF o.h (l.getD j CL.unit).h q) q) + (atF ((l.getD j CL.unit).h) q)))), Is (.pointer (some ⟨g7, 9, none⟩))]) 11 rfl (by decide +kernel) ?_
                  refine t_is (.int .i64 ((q : Nat) : Int)) rfl rfl rfl rfl (fun W_ hW_ F_ => rfl) ?_
                  refine t_is (.int .i64 ((q : Nat) : Int)) rfl rfl rfl rfl (fun W_ hW_ F_ => rfl) ?_
                  refine t_is (.pointer (some ⟨g7, 9, none⟩)) rfl rfl rfl rfl (fun W_ hW_ F_ => by simp [go_sem, sEv, sLook, nbeq, i64_w, -List.getD_eq_getElem?_getD, Try.underlying31]) ?_
                  refine t_is (.pointer (some ⟨g7, 9 + q, none⟩)) rfl rfl rfl rfl (fun W_ hW_ F_ => (run_as (addr_hist q (by omega) _))) ?_
                  refine t_is (.int .i64 (atF (sumF o.h (l.getD j CL.unit).h q) q)) rfl rfl rfl rfl (fun W_ hW_ F_ => (by have e0_ := ((hf185.on (below_of_drew hW_))).cellv (cHA (⟨wrap64 (o.cnt + ((l.getD j CL.unit).cnt)), (wh o.hi o.lo ((l.getD j CL.unit).hi) ((l.getD j CL.unit).lo)), (wl o.lo ((l.getD j CL.unit).lo)), o.mn, o.mx, o.t, o.src, o.seq, o.v, (sumF o.h (l.getD j CL.unit).h q)⟩ : CL) q (by omega)); simp [go_sem, sEv, sLook, nbeq, i64_w, -List.getD_eq_getElem?_getD, e0_])) ?_
                  refine t_is (.int .i64 ((q : Nat) : Int)) rfl rfl rfl rfl (fun W_ hW_ F_ => rfl) ?_
                  refine t_is (.pointer (some ⟨g26, 9, none⟩)) rfl rfl rfl rfl (fun W_ hW_ F_ => by simp [go_sem, sEv, sLook, nbeq, i64_w, -List.getD_eq_getElem?_getD, Try.underlying31]) ?_
                  refine t_is (.pointer (some ⟨g26, 9 + q, none⟩)) rfl rfl rfl rfl (fun W_ hW_ F_ => (run_as (addr_hist q (by omega) _))) ?_
                  refine t_is (.int .i64 (atF ((l.getD j CL.unit).h) q)) rfl rfl rfl rfl (fun W_ hW_ F_ => (by have e0_ := ((hf187.on (below_of_drew hW_))).cellv (cHA (l.getD j CL.unit) q (by omega)); simp [go_sem, sEv, sLook, nbeq, i64_w, -List.getD_eq_getElem?_getD, e0_])) ?_
                  refine t_is (.int .i64 (wrap64 ((atF (sumF o.h (l.getD j CL.unit).h q) q) + (atF ((l.getD j CL.unit).h) q)))) rfl rfl rfl rfl (fun W_ hW_ F_ => by simp [go_sem, sEv, sLook, nbeq, i64_w, -List.getD_eq_getElem?_getD]) ?_
                  refine t_is (.pointer (some ⟨g7, 9, none⟩)) rfl rfl rfl rfl (fun W_ hW_ F_ => by simp [go_sem, sEv, sLook, nbeq, i64_w, -List.getD_eq_getElem?_getD, Try.underlying31]) ?_
                  refine t_tail ?_
                  intro w189 hb190_ F191
                  have hb190 := below_of_drew hb190_
                  have hs_w189 := hb190.size
                  refine rw_val (v := .pointer (some ⟨g7, 9 + q, none⟩)) (w' := w189) rfl rfl rfl rfl (run_as (addr_hist q (by omega) _)) ?_
                  refine rw_seg (g := g7) (off := (9 + q)) (ty := 3) (p := .tmp 90) (x := .tmp 88) (v := .int .i64 (wrap64 ((atF (sumF o.h (l.getD j CL.unit).h q) q) + (atF ((l.getD j CL.unit).h) q)))) (cs' := carr (⟨wrap64 (o.cnt + ((l.getD j CL.unit).cnt)), (wh o.hi o.lo ((l.getD j CL.unit).hi) ((l.getD j CL.unit).lo)), (wl o.lo ((l.getD j CL.unit).lo)), o.mn, o.mx, o.t, o.src, o.seq, o.v, (updF (sumF o.h (l.getD j CL.unit).h q) q (wrap64 ((atF (sumF o.h (l.getD j CL.unit).h q) q) + (atF ((l.getD j CL.unit).h) q))))⟩ : CL)) rfl rfl rfl rfl rfl rfl (hf185.on hb190) (by kernel_rfl) (by rw [carr_size]; show 9 + q + 1 ≤ 74; omega) (by intro q hq; simp only [List.mem_cons, List.not_mem_nil, or_false, Value.cells] at hq; (first | (rcases hq with rfl | rfl | rfl | rfl <;> rfl) | (rcases hq with rfl | rfl <;> rfl) | (subst hq; rfl))) (seg_h (⟨wrap64 (o.cnt + ((l.getD j CL.unit).cnt)), (wh o.hi o.lo ((l.getD j CL.unit).hi) ((l.getD j CL.unit).lo)), (wl o.lo ((l.getD j CL.unit).lo)), o.mn, o.mx, o.t, o.src, o.seq, o.v, (sumF o.h (l.getD j CL.unit).h q)⟩ : CL) q (by omega) (wrap64 ((atF (sumF o.h (l.getD j CL.unit).h q) q) + (atF ((l.getD j CL.unit).h) q)))) ?_
                  intro w192 hk193 hb194
                  have hs_w192 := hk193.size
                  refine rw_end ?_
                  refine w_weaken (G' := [(0, .slice (some ad23) l.length c1), (2, .pointer (some ⟨g1, 0, none⟩)), (3, .pointer (some ⟨g7, 0, none⟩)), (4, .int .i64 ((j : Nat) : Int)), (5, .pointer (some ⟨g26, 0, none⟩)), (8, .int .i64 ((q : Nat) : Int))]) ⟨rfl, rfl, rfl, rfl, rfl, rfl, trivial⟩ ?_
                  refine w_blk ?_
                  refine w_region ?_
                  refine rw_val (v := .int .i64 ((q : Nat) : Int)) (w' := w192) rfl rfl rfl rfl rfl ?_
                  refine rw_val (v := .int .i64 ((q + 1 : Nat) : Int)) (w' := w192) rfl rfl rfl rfl (by simp [go_sem, sEv, sLook, nbeq, i64_w, -List.getD_eq_getElem?_getD]; exact wrap_id (by omega) (by omega)) ?_
                  refine rw_val (v := .int .i64 ((q + 1 : Nat) : Int)) (w' := w192) rfl rfl rfl rfl rfl ?_
                  refine rw_end ?_
                  exact w_back (m2_ - 1) [(0, .slice (some ad23) l.length c1), (2, .pointer (some ⟨g1, 0, none⟩)), (3, .pointer (some ⟨g7, 0, none⟩)), (4, .int .i64 ((j : Nat) : Int)), (5, .pointer (some ⟨g26, 0, none⟩)), (8, .int .i64 ((q + 1 : Nat) : Int))] (by omega) ⟨rfl, rfl, rfl, rfl, rfl, rfl, trivial⟩ ⟨(q + 1), by omega, (hk193.below (by omega) (chain hB_L183 hb190)), (by have h_ := hb194; rw [sumF_at, sumF_step _ _ _ (by omega)] at h_; exact h_), ((hf186.on hb190).keep hk193 (by omega)), ((hf187.on hb190).keep hk193 (by omega)), rfl⟩
                · have l195 : ¬ (((q : Nat) : Int) < 65) := of_decide_eq_false cQ
                  refine w_exit rfl ?_
                  refine w_blk ?_
                  refine w_region ?_
                  refine rw_val (v := .int .i64 ((j : Nat) : Int)) (w' := w_L183) rfl rfl rfl rfl rfl ?_
                  refine rw_val (v := .int .i64 ((j + 1 : Nat) : Int)) (w' := w_L183) rfl rfl rfl rfl (by simp [go_sem, sEv, sLook, nbeq, i64_w, -List.getD_eq_getElem?_getD]; exact wrap_id (by omega) (by omega)) ?_
                  refine rw_val (v := .int .i64 ((j + 1 : Nat) : Int)) (w' := w_L183) rfl rfl rfl rfl rfl ?_
                  refine rw_end ?_
                  exact w_back (m_ - 1) [(0, .slice (some ad23) l.length c1), (2, .pointer (some ⟨g1, 0, none⟩)), (3, .pointer (some ⟨g7, 0, none⟩)), (4, .int .i64 ((j + 1 : Nat) : Int))] (by omega) ⟨rfl, rfl, rfl, rfl, trivial⟩ ⟨(j + 1), (⟨wrap64 (o.cnt + ((l.getD j CL.unit).cnt)), (wh o.hi o.lo ((l.getD j CL.unit).hi) ((l.getD j CL.unit).lo)), (wl o.lo ((l.getD j CL.unit).lo)), o.mn, o.mx, o.t, o.src, o.seq, o.v, (sumF o.h (l.getD j CL.unit).h q)⟩ : CL), true, by omega, hB_L183, (by have hb2_ : b = true := (by rw [hbb_, ← show k = j by omega]; have h_ := hf37; rw [cF] at h_; simpa using h_); rw [joinS_succ l j (by omega), hf18]; unfold joinStep; rw [if_neg (by rw [cU]; decide), hb2_, show q = 65 by omega]; exact congrArg (fun z => (z, true)) (two_leaf o (l.getD j CL.unit) o.mn o.mx o.t o.src o.seq o.v (by rw [if_neg (of_decide_eq_false cMn)]) (by rw [if_neg (of_decide_eq_false cMx)]) (by rw [if_neg (by rw [cL]; decide)]))), hf185, hf186, (wrap_rng _), rfl⟩
  · have l196 : ¬ (((j : Nat) : Int) < ((l.length : Nat) : Int)) := of_decide_eq_false cJ
    refine w_exit rfl ?_
    refine w_seq ?_
    refine w_region ?_
    refine rw_val (v := .agg (carr o)) (w' := w_L16) rfl rfl rfl rfl (run_as (load_cell (c := o) hf19)) ?_
    refine rw_seg (g := g1) (off := 0) (ty := 31) (p := .tmp 2) (x := .tmp 91) (v := .agg (carr o)) (cs' := carr o) rfl rfl rfl rfl rfl rfl hf20 (by show (sizeOf 31).run _ _ = .ok (carr _).size _; rw [carr_size]; kernel_rfl) (Nat.le_of_eq (by rw [Nat.zero_add]; exact (carr_size _).trans (carr_size _).symm)) (encC_one _) (seg_all CL.unit o) ?_
    intro w197 hk198 hb199
    have hs_w197 := hk198.size
    refine rw_end ?_
    refine w_ret (post_retc (v := .agg (carr o)) rfl rfl (load_cell (c := o) hb199) ?_)
    have e1_ : joinC l = o := by unfold joinC; have h_ := hf18; rw [show j = l.length by omega, List.take_length] at h_; rw [h_]
    rw [e1_]
    exact ⟨rfl, (hk198.below (by omega) hB_L16)⟩
set_option maxHeartbeats 4000000 in
theorem walkJoins (w : World) (A1 : Option Addr) (c1 : Nat) (l : List CL) (hl : kCell.C w A1 l.length l) (hc : l.length ≤ c1) (hln : l.length ≤ 140737488355328) (hlo : ∀ c ∈ l, LoOk c) (hhi : ∀ c ∈ l, HiOk c) :
    Calls Try.prog 5 #[.slice A1 l.length c1] w fun e w' => e = .returned (.bool true) ∧ Below w.heap.size w w' := by
  refine calls_flow Try.func5 rfl 33 rfl (Nat.le_of_ble_eq_true rfl) [(0, .slice A1 l.length c1)] ?_ ?_
  · intro t v h; exact args_look rfl t v h
  refine w_seq ?_
  refine w_region ?_
  refine rw_val (v := .bool false) (w' := w) rfl rfl rfl rfl rfl ?_
  refine rw_end ?_
  refine w_seq ?_
  refine w_seq ?_
  refine w_region ?_
  refine rw_call rfl rfl rfl rfl (f := 10) (args := #[]) (by simp [go_sem, sEv, sLook, nbeq, i64_w, -List.getD_eq_getElem?_getD]) (alive_calls w) ?_
  rintro e_ w1 ⟨rfl, hb2⟩
  refine ⟨_, rfl, ?_⟩
  have hs_w1 := hb2.size
  refine rw_val (v := .bool false) (w' := w1) rfl rfl rfl rfl (by simp [go_sem, sEv, sLook, nbeq, i64_w, -List.getD_eq_getElem?_getD]) ?_
  refine rw_end ?_
  refine w_cond_f rfl rfl rfl ?_
  refine w_skip ?_
  refine w_seq ?_
  refine w_seq ?_
  refine w_region ?_
  refine rw_val (v := .slice A1 l.length c1) (w' := w1) rfl rfl rfl rfl rfl ?_
  refine rw_val (v := .int .i64 ((l.length : Nat) : Int)) (w' := w1) rfl rfl rfl rfl (by simp [go_sem, sEv, sLook, nbeq, i64_w, -List.getD_eq_getElem?_getD]) ?_
  refine rw_val (v := .bool (decide (300 < ((l.length : Nat) : Int)))) (w' := w1) rfl rfl rfl rfl (by simp [go_sem, sEv, sLook, nbeq, i64_w, -List.getD_eq_getElem?_getD]) ?_
  refine rw_end ?_
  refine w_cond rfl rfl (fun cN => ?_) (fun cN => ?_)
  · have l3 : (300 < ((l.length : Nat) : Int)) := of_decide_eq_true cN
    refine w_seq ?_
    refine w_region ?_
    refine rw_val (v := .bool true) (w' := w1) rfl rfl rfl rfl rfl ?_
    refine rw_end ?_
    refine w_ret (post_ret1 rfl rfl ?_)
    exact ⟨rfl, hb2⟩
  · have l4 : ¬ (300 < ((l.length : Nat) : Int)) := of_decide_eq_false cN
    refine w_skip ?_
    refine w_seq ?_
    refine w_region ?_
    refine rw_new (cs := #[]) (t := 31) (fun g => .slice (some ⟨g, 0, none⟩) 0 0) rfl rfl rfl rfl (by kernel_rfl) ?_
    intro g5 w6 hg10 hz9 hb7 hk8
    have hs_w6 := hb7.size
    have hk8r : OwnK kCell 31 w6 w.heap.size g5 (some ⟨g5, 0, none⟩) 0 0 ([] : List CL) := lit_nilK kCell w.heap.size hk8 (by omega)
    refine rw_val (v := .slice A1 l.length c1) (w' := w6) rfl rfl rfl rfl rfl ?_
    have oA17 : OwnK kCell 31 w6 w.heap.size g5 (some ⟨g5, 0, none⟩) 0 0 ([] : List CL) := hk8r
    refine rw_append_kd (d := kCell) w.heap.size rfl rfl rfl (.tmp 10) (.tmp 11) rfl rfl 33 31 (.agg (carr CL.unit)) 592 rfl (by kernel_rfl) (by kernel_rfl) rfl (show 0 < 74 by decide) (by decide) (fun _ _ h => h) (b := g5) rfl rfl (by omega) oA17 (Kd.C_below hl (chain hb2 hb7)) (chain hb2 hb7) (by omega) (by first | omega | (simp only [List.length_append, List.length_nil, List.length_cons]; omega)) ?_
    intro A11 c12 w13 hO14 hB15 hG16
    rw [List.nil_append] at hO14
    try rw [List.nil_append]
    have hs_w13 := hB15.size
    have hgs_w13 := hG16.size
    refine rw_val (v := .slice A11 l.length c12) (w' := w13) rfl rfl rfl rfl rfl ?_
    refine rw_end ?_
    refine w_weaken (G' := [(0, .slice A1 l.length c1), (2, .bool false), (3, .slice A11 l.length c12)]) ⟨rfl, rfl, rfl, trivial⟩ ?_
    refine w_seq ?_
    refine w_seq ?_
    refine w_region ?_
    refine rw_val (v := .slice A11 l.length c12) (w' := w13) rfl rfl rfl rfl rfl ?_
    refine rw_call rfl rfl rfl rfl (f := 11) (args := #[.slice A11 l.length c12]) (by simp [go_sem, sEv, sLook, nbeq, i64_w, -List.getD_eq_getElem?_getD]) (join_calls w13 A11 c12 l (Kd.C_below (OwnK.C (d := kCell) hO14) (Below.refl _ _)) (OwnK.cap (d := kCell) hO14) (by omega) hlo) ?_
    rintro e_ w18 ⟨rfl, hb19⟩
    refine ⟨_, rfl, ?_⟩
    have hs_w18 := hb19.size
    refine rw_val (v := .slice A1 l.length c1) (w' := w18) rfl rfl rfl rfl rfl ?_
    refine rw_call rfl rfl rfl rfl (f := 15) (args := #[.slice A1 l.length c1]) (by simp [go_sem, sEv, sLook, nbeq, i64_w, -List.getD_eq_getElem?_getD]) (rjoin_calls w18 A1 c1 l (Kd.C_below hl (chain hB15 hb19)) hc (by omega) hlo hhi) ?_
    rintro e_ w20 ⟨rfl, hb21⟩
    refine ⟨_, rfl, ?_⟩
    have hs_w20 := hb21.size
    refine rw_val (v := .bool (!(eqC (joinC l) (joinC l)))) (w' := w20) rfl rfl rfl rfl (run_as (guard_ne_cell _ _ _ _ _)) ?_
    refine rw_end ?_
    refine w_weaken (G' := [(0, .slice A1 l.length c1), (2, .bool false), (3, .slice A11 l.length c12), (17, .bool (!(eqC (joinC l) (joinC l))))]) ⟨rfl, rfl, rfl, rfl, trivial⟩ ?_
    have hq22 : (!(eqC (joinC l) (joinC l))) = false := by rw [(eqC_iff _ _).2 rfl]; rfl
    refine w_cond_f rfl rfl hq22 ?_
    refine w_skip ?_
    refine w_seq ?_
    refine w_seq ?_
    refine w_region ?_
    refine rw_val (v := .slice A1 l.length c1) (w' := w20) rfl rfl rfl rfl rfl ?_
    refine rw_val (v := .int .i64 ((l.length : Nat) : Int)) (w' := w20) rfl rfl rfl rfl (by simp [go_sem, sEv, sLook, nbeq, i64_w, -List.getD_eq_getElem?_getD]) ?_
    refine rw_val (v := .int .i64 0) (w' := w20) rfl rfl rfl rfl rfl ?_
    refine rw_end ?_
    refine w_block ?_
    refine w_loop (fun m_ G W_ => ∃ (j : Nat) (A3_ : Option Addr) (c3_ : Nat), j + m_ = l.length ∧ Below w.heap.size w W_ ∧ OwnK kCell 31 W_ w.heap.size w.heap.size A3_ l.length c3_ l ∧ G = [(0, .slice A1 l.length c1), (3, .slice A3_ l.length c3_), (18, .slice A1 l.length c1), (19, .int .i64 ((l.length : Nat) : Int)), (20, .int .i64 ((j : Nat) : Int))]) l.length [(0, .slice A1 l.length c1), (3, .slice A11 l.length c12), (18, .slice A1 l.length c1), (19, .int .i64 ((l.length : Nat) : Int)), (20, .int .i64 0)] ⟨0, A11, c12, by omega, (chain (chain hB15 hb19) hb21), (OwnK.mono (d := kCell) (OwnK.on (d := kCell) hO14 (chain hb19 hb21)) (by omega)), rfl⟩ ⟨rfl, rfl, rfl, rfl, rfl, trivial⟩ ?_
    rintro m_ G w_L23 ⟨j, A3_, c3_, hp24, hB_L23, hO3_, rfl⟩
    have hs_w_L23 := hB_L23.size
    refine w_seq ?_
    refine w_region ?_
    refine rw_val (v := .bool (decide (((j : Nat) : Int) < ((l.length : Nat) : Int)))) (w' := w_L23) rfl rfl rfl rfl (by simp [go_sem, sEv, sLook, nbeq, i64_w, -List.getD_eq_getElem?_getD]) ?_
    refine rw_end ?_
    refine w_seq ?_
    refine w_cond rfl rfl (fun cJ => ?_) (fun cJ => ?_)
    · have l25 : (((j : Nat) : Int) < ((l.length : Nat) : Int)) := of_decide_eq_true cJ
      refine w_skip ?_
      refine w_seq ?_
      refine w_block ?_
      refine w_seq ?_
      refine w_region ?_
      refine rw_val (v := .int .i64 ((j : Nat) : Int)) (w' := w_L23) rfl rfl rfl rfl rfl ?_
      refine rw_val (v := .int .i64 ((j : Nat) : Int)) (w' := w_L23) rfl rfl rfl rfl rfl ?_
      refine rw_end ?_
      refine w_seq ?_
      obtain ⟨ad26, hA27, hc28⟩ := flat_at (Kd.C_below (OwnK.C (d := kCell) hO3_) (Below.refl _ _)) CL.unit j (by first | omega | decide)
      subst hA27
      obtain ⟨ad29, hA30, hc31⟩ := flat_at (Kd.C_below hl hB_L23) CL.unit j (by first | omega | decide)
      subst hA30
      refine w_drawk (M := [0, 0, 3, 7, 0, 0, 48, 112, 255]) (ss := [Is (.slice (some ad26) l.length c3_), Is (.int .i64 ((j : Nat) : Int)), Is (.pointer (some (ad26.add (j * 74)))), Is (.agg (carr (l.getD j CL.unit))), Is (.slice (some ad29) l.length c1), Is (.int .i64 ((j : Nat) : Int)), Is (.pointer (some (ad29.add (j * 74)))), Is (.agg (carr (l.getD j CL.unit)))]) 8 rfl (by decide +kernel) ?_
      refine t_is (.slice (some ad26) l.length c3_) rfl rfl rfl rfl (fun W_ hW_ F_ => rfl) ?_
      refine t_is (.int .i64 ((j : Nat) : Int)) rfl rfl rfl rfl (fun W_ hW_ F_ => rfl) ?_
      refine t_is (.pointer (some (ad26.add (j * 74)))) rfl rfl rfl rfl (fun W_ hW_ F_ => (run_as (run_at_k (P := Try.prog) (e := 31) (sz := 74) (by kernel_rfl) (by kernel_rfl) j (by first | omega | decide) _))) ?_
      refine t_is (.agg (carr (l.getD j CL.unit))) rfl rfl rfl rfl (fun W_ hW_ F_ => (run_as (load_el (c := (l.getD j CL.unit)) (fun j u hj => cellOn (hc28 j u hj) (chain (Below.refl _ _) (below_of_drew hW_)))))) ?_
      refine t_is (.slice (some ad29) l.length c1) rfl rfl rfl rfl (fun W_ hW_ F_ => rfl) ?_
      refine t_is (.int .i64 ((j : Nat) : Int)) rfl rfl rfl rfl (fun W_ hW_ F_ => rfl) ?_
      refine t_is (.pointer (some (ad29.add (j * 74)))) rfl rfl rfl rfl (fun W_ hW_ F_ => (run_as (run_at_k (P := Try.prog) (e := 31) (sz := 74) (by kernel_rfl) (by kernel_rfl) j (by first | omega | decide) _))) ?_
      refine t_is (.agg (carr (l.getD j CL.unit))) rfl rfl rfl rfl (fun W_ hW_ F_ => (run_as (load_el (c := (l.getD j CL.unit)) (fun j u hj => cellOn (hc31 j u hj) (chain (Below.refl _ _) (below_of_drew hW_)))))) ?_
      refine t_tail ?_
      intro w32 hb33_ F34
      have hb33 := below_of_drew hb33_
      have hs_w32 := hb33.size
      refine rw_val (v := .bool (!(eqC (l.getD j CL.unit) (l.getD j CL.unit)))) (w' := w32) rfl rfl rfl rfl (run_as (guard_ne_cell _ _ _ _ _)) ?_
      refine rw_end ?_
      refine w_weaken (G' := [(0, .slice (some ad29) l.length c1), (3, .slice (some ad26) l.length c3_), (18, .slice (some ad29) l.length c1), (19, .int .i64 ((l.length : Nat) : Int)), (20, .int .i64 ((j : Nat) : Int)), (31, .bool (!(eqC (l.getD j CL.unit) (l.getD j CL.unit))))]) ⟨rfl, rfl, rfl, rfl, rfl, rfl, trivial⟩ ?_
      have hq35 : (!(eqC (l.getD j CL.unit) (l.getD j CL.unit))) = false := by rw [(eqC_iff _ _).2 rfl]; rfl
      refine w_cond_f rfl rfl hq35 ?_
      refine w_skip ?_
      refine w_blk ?_
      refine w_region ?_
      refine rw_val (v := .int .i64 ((j + 1 : Nat) : Int)) (w' := w32) rfl rfl rfl rfl (by simp [go_sem, sEv, sLook, nbeq, i64_w, -List.getD_eq_getElem?_getD]; exact wrap_id (by omega) (by omega)) ?_
      refine rw_val (v := .int .i64 ((j + 1 : Nat) : Int)) (w' := w32) rfl rfl rfl rfl rfl ?_
      refine rw_end ?_
      exact w_back (m_ - 1) [(0, .slice (some ad29) l.length c1), (3, .slice (some ad26) l.length c3_), (18, .slice (some ad29) l.length c1), (19, .int .i64 ((l.length : Nat) : Int)), (20, .int .i64 ((j + 1 : Nat) : Int))] (by omega) ⟨rfl, rfl, rfl, rfl, rfl, trivial⟩ ⟨(j + 1), (some ad26), c3_, by omega, (chain hB_L23 hb33), (OwnK.mono (d := kCell) (OwnK.on (d := kCell) hO3_ hb33) (by omega)), rfl⟩
    · have l39 : ¬ (((j : Nat) : Int) < ((l.length : Nat) : Int)) := of_decide_eq_false cJ
      refine w_exit rfl ?_
      refine w_seq ?_
      refine w_region ?_
      refine rw_val (v := .bool true) (w' := w_L23) rfl rfl rfl rfl rfl ?_
      refine rw_end ?_
      refine w_ret (post_ret1 rfl rfl ?_)
      exact ⟨rfl, hB_L23⟩
end Go.Proofs.Ytheaipbnbnjlgaa.Ce
