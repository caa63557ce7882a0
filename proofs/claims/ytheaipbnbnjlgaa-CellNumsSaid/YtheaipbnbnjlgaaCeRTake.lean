/- The document's reading of a cell: the walk. -/
import Derived.Test.YtheaipbnbnjlgaaCeTake
namespace Go.Proofs.Ytheaipbnbnjlgaa.Ce
open Go.RowKit Go.Proofs.YtheaipbnbnjlgaaW.PrintWords Go.Proofs.YtheaipbnbnjlgaaW.PrintLast Go.Proofs.YtheaipbnbnjlgaaW.PrintMore
open Go.Proofs.Ytheaipbnbnjlgaa.Flow
set_option linter.unusedVariables false
set_option linter.unusedSimpArgs false


theorem take_okP {l : List Int} {c : CL} {r : List Int} (h : takeC l = some (c, r)) (j : Nat) (hj : j < nC l) : 0 ≤ l.getD (10 + 2 * j) 0 ∧ l.getD (10 + 2 * j) 0 ≤ 64 := by
  unfold takeC at h
  split at h
  · split at h
    · cases h
    · rename_i last hh hf
      exact (foldT_R _ last hh hf).1 (pairA l j) (List.mem_map.2 ⟨j, List.mem_range.2 hj, rfl⟩)
  · cases h
theorem take_again {l : List Int} {c : CL} {r : List Int} (h : takeC l = some (c, r)) (h2 : I64 (l.getD 2 0)) : numsC (baseC l (foldR (prsOf l (nC l)))) = l.take (10 + 2 * nC l) := by
  have h3 := (takeC_nums h h2).2.1
  unfold takeC at h
  split at h
  · split at h
    · cases h
    · rename_i last hh hf
      have h4 := (foldT_R _ last hh hf).2
      simp only [Option.some.injEq, Prod.mk.injEq] at h
      rw [← h4, h.1]
      exact h3
  · cases h
theorem take_no {l : List Int} (h : ∀ c r, takeC l = some (c, r) → False) : takeC l = none := by
  cases e : takeC l with
  | none => rfl
  | some x => exact (h x.1 x.2 e).elim
theorem take_of_again {l : List Int} (hs : shapeC l = true) (hp : ∀ p ∈ prsOf l (nC l), okP p) (h2 : I64 (l.getD 2 0)) (he : numsC (baseC l (foldR (prsOf l (nC l)))) = l.take (10 + 2 * nC l)) :
    takeC l = some (baseC l (foldR (prsOf l (nC l))), l.drop (10 + 2 * nC l)) := by
  cases e : takeC l with
  | none =>
    have h3 := (rtake_take (l := l) (fun _ => h2)).1 e
    unfold rtakeC at h3
    rw [if_pos hs, if_pos ⟨hp, he⟩] at h3
    cases h3
  | some x =>
    have h3 := (rtake_take (l := l) (fun _ => h2)).2 x.1 x.2 e
    have h4 := (takeC_nums (c := x.1) (r := x.2) e h2).2.2.1
    unfold rtakeC at h3
    rw [if_pos hs, if_pos ⟨hp, he⟩] at h3
    simp only [Option.some.injEq, Prod.mk.injEq, and_true] at h3
    rw [h3, ← h4]
theorem foldR_succ (l : List Int) (j : Nat) : foldR (prsOf l (j + 1)) = updF (foldR (prsOf l j)) (l.getD (10 + 2 * j) 0).toNat (l.getD (10 + 2 * j + 1) 0) := by rw [prsOf_succ, foldR_snoc]; rfl
theorem okP_succ {l : List Int} {j : Nat} (h : ∀ p ∈ prsOf l j, okP p) (h1 : 0 ≤ l.getD (10 + 2 * j) 0) (h2 : l.getD (10 + 2 * j) 0 ≤ 64) : ∀ p ∈ prsOf l (j + 1), okP p := by
  rw [prsOf_succ]
  intro p hp
  rcases List.mem_append.1 hp with hp | hp
  · exact h p hp
  · rw [List.mem_singleton.1 hp]
    exact ⟨h1, h2⟩
theorem eq_upto {a b : List Int} {n : Nat} (ha : a.length = n) (hb : n ≤ b.length) (h : ∀ i, i < n → a.getD i 0 = b.getD i 0) : a = b.take n := by
  apply List.ext_getElem
  · rw [ha, List.length_take]; omega
  · intro i h1 h2
    have h3 := h i (by omega)
    simp only [List.getD_eq_getElem?_getD] at h3
    rw [List.getElem?_eq_getElem h1, List.getElem?_eq_getElem (by omega)] at h3
    simpa using h3
theorem upto_getD {a b : List Int} {n i : Nat} (h : a = b.take n) (hi : i < n) : a.getD i 0 = b.getD i 0 := by
  rw [h]
  simp only [List.getD_eq_getElem?_getD]
  rw [List.getElem?_take, if_pos hi]
theorem upto_succ2 {a b : List Int} {j : Nat} (h : ∀ i, i < j → a.getD i 0 = b.getD i 0) (e : a.getD j 0 = b.getD j 0) : ∀ i, i < j + 1 → a.getD i 0 = b.getD i 0 := fun i hi => by
  rcases Nat.lt_or_ge i j with h1 | h1
  · exact h i h1
  · rw [show i = j by omega]; exact e
set_option maxHeartbeats 4000000 in
theorem rtake_calls (w : World) (A1 : Option Addr) (c1 : Nat) (l : List Int) (hl : (Kd.int .i64).C w A1 l.length l) (hc : l.length ≤ c1) (hln : l.length ≤ 100000) (hv : 10 ≤ l.length → I64 (l.getD 2 0)) :
    Calls Try.prog 22 #[.slice A1 l.length c1] w fun e w' => (takeC l = none ∧ e = .returned (.tuple #[.agg (carr CL.unit), .int .i64 0]) ∨ ∃ c r, takeC l = some (c, r) ∧ e = .returned (.tuple #[.agg (carr c), .int .i64 ((10 + 2 * nC l : Nat) : Int)])) ∧ Below w.heap.size w w' := by
  refine calls_flow Try.func22 rfl 124 rfl (Nat.le_of_ble_eq_true rfl) [(0, .slice A1 l.length c1)] ?_ ?_
  · intro t v h; exact args_look rfl t v h
  refine w_seq ?_
  refine w_region ?_
  refine rw_new (cs := carr CL.unit) (t := 31) (fun g => .pointer (some ⟨g, 0, none⟩)) rfl rfl rfl rfl (by kernel_rfl) ?_
  intro g1 w2 hg6 hz5 hb3 hk4
  have hs_w2 := hb3.size
  refine rw_val (v := .int .i64 0) (w' := w2) rfl rfl rfl rfl rfl ?_
  refine rw_end ?_
  refine w_seq ?_
  refine w_seq ?_
  refine w_region ?_
  refine rw_val (v := .slice A1 l.length c1) (w' := w2) rfl rfl rfl rfl rfl ?_
  refine rw_val (v := .int .i64 ((l.length : Nat) : Int)) (w' := w2) rfl rfl rfl rfl (by simp [go_sem, sEv, sLook, nbeq, i64_w, -List.getD_eq_getElem?_getD]) ?_
  refine rw_val (v := .bool (decide (((l.length : Nat) : Int) < 10))) (w' := w2) rfl rfl rfl rfl (by simp [go_sem, sEv, sLook, nbeq, i64_w, -List.getD_eq_getElem?_getD]) ?_
  refine rw_val (v := .bool (decide (((l.length : Nat) : Int) < 10))) (w' := w2) rfl rfl rfl rfl rfl ?_
  rcases bcase (decide (((l.length : Nat) : Int) < 10)) with c7 | c7
  · have l8 : ¬ (((l.length : Nat) : Int) < 10) := of_decide_eq_false c7
    refine rw_on (c := decide (((l.length : Nat) : Int) < 10)) rfl rfl rfl (by first | (rw [c7]; rfl) | simp [c7]) ?_
    refine rw_val (v := .slice A1 l.length c1) (w' := w2) rfl rfl rfl rfl rfl ?_
    refine rw_on (c := decide (((l.length : Nat) : Int) < 10)) rfl rfl rfl (by first | (rw [c7]; rfl) | simp [c7]) ?_
    obtain ⟨ad9, hA10, hc11⟩ := int_at (Kd.C_below hl hb3) 0 9 (by first | omega | decide)
    subst hA10
    have he12 : w2.cell? ⟨ad9.block, ad9.off + 9, none⟩ = some (.int .i64 (l.getD 9 0)) := cell_lit (cell_0 (hc11 0 _ rfl)) (by omega)
    refine rw_val (v := .pointer (some (ad9.add (9)))) (w' := w2) rfl rfl rfl rfl (run_as (run_at_1 (P := Try.prog) (e := 3) (by kernel_rfl) (by kernel_rfl) 9 (by first | omega | decide) _)) ?_
    refine rw_on (c := decide (((l.length : Nat) : Int) < 10)) rfl rfl rfl (by first | (rw [c7]; rfl) | simp [c7]) ?_
    refine rw_val (v := .int .i64 (l.getD 9 0)) (w' := w2) rfl rfl rfl rfl (by have e0_ := cellOn he12 (Below.refl _ _); simp [go_sem, sEv, sLook, nbeq, i64_w, -List.getD_eq_getElem?_getD, e0_]) ?_
    refine rw_on (c := decide (((l.length : Nat) : Int) < 10)) rfl rfl rfl (by first | (rw [c7]; rfl) | simp [c7]) ?_
    refine rw_val (v := .bool (decide ((l.getD 9 0) < 0))) (w' := w2) rfl rfl rfl rfl (by simp [go_sem, sEv, sLook, nbeq, i64_w, -List.getD_eq_getElem?_getD]) ?_
    refine rw_val (v := .bool (decide ((l.getD 9 0) < 0))) (w' := w2) rfl rfl rfl rfl (by first | (simp [go_sem, sEv, sLook, nbeq, i64_w, -List.getD_eq_getElem?_getD, c7]; done) | (rw [c7]; simp [go_sem, sEv, sLook, nbeq, i64_w, -List.getD_eq_getElem?_getD]; done) | (simp [go_sem, sEv, sLook, nbeq, i64_w, -List.getD_eq_getElem?_getD] <;> omega) | (simp [go_sem, sEv, sLook, nbeq, i64_w, -List.getD_eq_getElem?_getD]; intro h_; exact absurd (by omega) h_)) ?_
    refine rw_val (v := .bool (decide ((l.getD 9 0) < 0))) (w' := w2) rfl rfl rfl rfl rfl ?_
    rcases bcase (decide ((l.getD 9 0) < 0)) with c13 | c13
    · have l14 : ¬ ((l.getD 9 0) < 0) := of_decide_eq_false c13
      refine rw_on (c := decide ((l.getD 9 0) < 0)) rfl rfl rfl (by first | (rw [c13]; rfl) | simp [c13]) ?_
      refine rw_val (v := .slice (some ad9) l.length c1) (w' := w2) rfl rfl rfl rfl rfl ?_
      refine rw_on (c := decide ((l.getD 9 0) < 0)) rfl rfl rfl (by first | (rw [c13]; rfl) | simp [c13]) ?_
      refine rw_val (v := .pointer (some (ad9.add (9)))) (w' := w2) rfl rfl rfl rfl (run_as (run_at_1 (P := Try.prog) (e := 3) (by kernel_rfl) (by kernel_rfl) 9 (by first | omega | decide) _)) ?_
      refine rw_on (c := decide ((l.getD 9 0) < 0)) rfl rfl rfl (by first | (rw [c13]; rfl) | simp [c13]) ?_
      refine rw_val (v := .int .i64 (l.getD 9 0)) (w' := w2) rfl rfl rfl rfl (by have e0_ := cellOn he12 (Below.refl _ _); simp [go_sem, sEv, sLook, nbeq, i64_w, -List.getD_eq_getElem?_getD, e0_]) ?_
      refine rw_on (c := decide ((l.getD 9 0) < 0)) rfl rfl rfl (by first | (rw [c13]; rfl) | simp [c13]) ?_
      refine rw_val (v := .bool (decide (65 < (l.getD 9 0)))) (w' := w2) rfl rfl rfl rfl (by simp [go_sem, sEv, sLook, nbeq, i64_w, -List.getD_eq_getElem?_getD]) ?_
      refine rw_val (v := .bool (decide (65 < (l.getD 9 0)))) (w' := w2) rfl rfl rfl rfl (by first | (simp [go_sem, sEv, sLook, nbeq, i64_w, -List.getD_eq_getElem?_getD, c13]; done) | (rw [c13]; simp [go_sem, sEv, sLook, nbeq, i64_w, -List.getD_eq_getElem?_getD]; done) | (simp [go_sem, sEv, sLook, nbeq, i64_w, -List.getD_eq_getElem?_getD] <;> omega) | (simp [go_sem, sEv, sLook, nbeq, i64_w, -List.getD_eq_getElem?_getD]; intro h_; exact absurd (by omega) h_)) ?_
      refine rw_val (v := .bool (decide (65 < (l.getD 9 0)))) (w' := w2) rfl rfl rfl rfl rfl ?_
      rcases bcase (decide (65 < (l.getD 9 0))) with c15 | c15
      · have l16 : ¬ (65 < (l.getD 9 0)) := of_decide_eq_false c15
        refine rw_on (c := decide (65 < (l.getD 9 0))) rfl rfl rfl (by first | (rw [c15]; rfl) | simp [c15]) ?_
        refine rw_val (v := .slice (some ad9) l.length c1) (w' := w2) rfl rfl rfl rfl rfl ?_
        refine rw_on (c := decide (65 < (l.getD 9 0))) rfl rfl rfl (by first | (rw [c15]; rfl) | simp [c15]) ?_
        refine rw_val (v := .int .i64 ((l.length : Nat) : Int)) (w' := w2) rfl rfl rfl rfl (by simp [go_sem, sEv, sLook, nbeq, i64_w, -List.getD_eq_getElem?_getD]) ?_
        refine rw_on (c := decide (65 < (l.getD 9 0))) rfl rfl rfl (by first | (rw [c15]; rfl) | simp [c15]) ?_
        refine rw_val (v := .slice (some ad9) l.length c1) (w' := w2) rfl rfl rfl rfl rfl ?_
        refine rw_on (c := decide (65 < (l.getD 9 0))) rfl rfl rfl (by first | (rw [c15]; rfl) | simp [c15]) ?_
        refine rw_val (v := .pointer (some (ad9.add (9)))) (w' := w2) rfl rfl rfl rfl (run_as (run_at_1 (P := Try.prog) (e := 3) (by kernel_rfl) (by kernel_rfl) 9 (by first | omega | decide) _)) ?_
        refine rw_on (c := decide (65 < (l.getD 9 0))) rfl rfl rfl (by first | (rw [c15]; rfl) | simp [c15]) ?_
        refine rw_val (v := .int .i64 (l.getD 9 0)) (w' := w2) rfl rfl rfl rfl (by have e0_ := cellOn he12 (Below.refl _ _); simp [go_sem, sEv, sLook, nbeq, i64_w, -List.getD_eq_getElem?_getD, e0_]) ?_
        refine rw_on (c := decide (65 < (l.getD 9 0))) rfl rfl rfl (by first | (rw [c15]; rfl) | simp [c15]) ?_
        refine rw_val (v := .int .i64 (2 * (l.getD 9 0))) (w' := w2) rfl rfl rfl rfl (by simp [go_sem, sEv, sLook, nbeq, i64_w, -List.getD_eq_getElem?_getD]; exact wrap_id (by omega) (by omega)) ?_
        refine rw_on (c := decide (65 < (l.getD 9 0))) rfl rfl rfl (by first | (rw [c15]; rfl) | simp [c15]) ?_
        refine rw_val (v := .int .i64 (10 + (2 * (l.getD 9 0)))) (w' := w2) rfl rfl rfl rfl (by simp [go_sem, sEv, sLook, nbeq, i64_w, -List.getD_eq_getElem?_getD]; exact wrap_id (by omega) (by omega)) ?_
        refine rw_on (c := decide (65 < (l.getD 9 0))) rfl rfl rfl (by first | (rw [c15]; rfl) | simp [c15]) ?_
        refine rw_val (v := .bool (decide (((l.length : Nat) : Int) < (10 + (2 * (l.getD 9 0)))))) (w' := w2) rfl rfl rfl rfl (by simp [go_sem, sEv, sLook, nbeq, i64_w, -List.getD_eq_getElem?_getD]) ?_
        refine rw_val (v := .bool (decide (((l.length : Nat) : Int) < (10 + (2 * (l.getD 9 0)))))) (w' := w2) rfl rfl rfl rfl (by first | (simp [go_sem, sEv, sLook, nbeq, i64_w, -List.getD_eq_getElem?_getD, c15]; done) | (rw [c15]; simp [go_sem, sEv, sLook, nbeq, i64_w, -List.getD_eq_getElem?_getD]; done) | (simp [go_sem, sEv, sLook, nbeq, i64_w, -List.getD_eq_getElem?_getD] <;> omega) | (simp [go_sem, sEv, sLook, nbeq, i64_w, -List.getD_eq_getElem?_getD]; intro h_; exact absurd (by omega) h_)) ?_
        refine rw_end ?_
        refine w_weaken (G' := [(0, .slice (some ad9) l.length c1), (2, .pointer (some ⟨g1, 0, none⟩)), (3, .int .i64 0), (33, .bool (decide (((l.length : Nat) : Int) < (10 + (2 * (l.getD 9 0))))))]) ⟨rfl, rfl, rfl, rfl, trivial⟩ ?_
        refine w_cond rfl rfl (fun c17 => ?_) (fun c17 => ?_)
        · have l18 : (((l.length : Nat) : Int) < (10 + (2 * (l.getD 9 0)))) := of_decide_eq_true c17
          refine w_seq ?_
          have hns_ : ¬ shapeC l = true := by unfold shapeC; simp only [Bool.and_eq_true, decide_eq_true_eq]; omega
          refine w_region ?_
          refine rw_val (v := .agg (carr CL.unit)) (w' := w2) rfl rfl rfl rfl (by kernel_rfl) ?_
          refine rw_seg (g := g1) (off := 0) (ty := 31) (p := .tmp 2) (x := .tmp 34) (v := .agg (carr CL.unit)) (cs' := carr CL.unit) rfl rfl rfl rfl rfl rfl hk4 (by show (sizeOf 31).run _ _ = .ok (carr _).size _; rw [carr_size]; kernel_rfl) (Nat.le_of_eq (by rw [Nat.zero_add]; exact (carr_size _).trans (carr_size _).symm)) (encC_one _) (seg_all CL.unit CL.unit) ?_
          intro w19 hk20 hb21
          have hs_w19 := hk20.size
          refine rw_val (v := .int .i64 0) (w' := w19) rfl rfl rfl rfl rfl ?_
          refine rw_end ?_
          refine w_ret (post_retct (v := .agg (carr CL.unit)) rfl rfl rfl (load_cell (c := CL.unit) hb21) ?_)
          exact ⟨.inl ⟨takeC_short hns_, rfl⟩, (hk20.below (by omega) hb3)⟩
        · have l22 : ¬ (((l.length : Nat) : Int) < (10 + (2 * (l.getD 9 0)))) := of_decide_eq_false c17
          refine w_skip ?_
          refine w_seq ?_
          have hsh_ : shapeC l = true := by unfold shapeC; simp only [Bool.and_eq_true, decide_eq_true_eq]; omega
          obtain ⟨s1_, s2_, s3_, s4_⟩ := shape_spec hsh_
          obtain ⟨ad23, hA24, hc25⟩ := int_at (Kd.C_below hl hb3) 0 0 (by first | omega | decide)
          obtain rfl := Option.some.inj hA24
          have he26 : w2.cell? (ad9) = some (.int .i64 (l.getD 0 0)) := cell_00 (hc25 0 _ rfl)
          obtain ⟨ad27, hA28, hc29⟩ := int_at (Kd.C_below hl hb3) 0 1 (by first | omega | decide)
          obtain rfl := Option.some.inj hA28
          have he30 : w2.cell? ⟨ad9.block, ad9.off + 1, none⟩ = some (.int .i64 (l.getD 1 0)) := cell_lit (cell_0 (hc29 0 _ rfl)) (by omega)
          obtain ⟨ad31, hA32, hc33⟩ := int_at (Kd.C_below hl hb3) 0 2 (by first | omega | decide)
          obtain rfl := Option.some.inj hA32
          have he34 : w2.cell? ⟨ad9.block, ad9.off + 2, none⟩ = some (.int .i64 (l.getD 2 0)) := cell_lit (cell_0 (hc33 0 _ rfl)) (by omega)
          obtain ⟨ad35, hA36, hc37⟩ := int_at (Kd.C_below hl hb3) 0 3 (by first | omega | decide)
          obtain rfl := Option.some.inj hA36
          have he38 : w2.cell? ⟨ad9.block, ad9.off + 3, none⟩ = some (.int .i64 (l.getD 3 0)) := cell_lit (cell_0 (hc37 0 _ rfl)) (by omega)
          obtain ⟨ad39, hA40, hc41⟩ := int_at (Kd.C_below hl hb3) 0 4 (by first | omega | decide)
          obtain rfl := Option.some.inj hA40
          have he42 : w2.cell? ⟨ad9.block, ad9.off + 4, none⟩ = some (.int .i64 (l.getD 4 0)) := cell_lit (cell_0 (hc41 0 _ rfl)) (by omega)
          obtain ⟨ad43, hA44, hc45⟩ := int_at (Kd.C_below hl hb3) 0 5 (by first | omega | decide)
          obtain rfl := Option.some.inj hA44
          have he46 : w2.cell? ⟨ad9.block, ad9.off + 5, none⟩ = some (.int .i64 (l.getD 5 0)) := cell_lit (cell_0 (hc45 0 _ rfl)) (by omega)
          obtain ⟨ad47, hA48, hc49⟩ := int_at (Kd.C_below hl hb3) 0 6 (by first | omega | decide)
          obtain rfl := Option.some.inj hA48
          have he50 : w2.cell? ⟨ad9.block, ad9.off + 6, none⟩ = some (.int .i64 (l.getD 6 0)) := cell_lit (cell_0 (hc49 0 _ rfl)) (by omega)
          obtain ⟨ad51, hA52, hc53⟩ := int_at (Kd.C_below hl hb3) 0 7 (by first | omega | decide)
          obtain rfl := Option.some.inj hA52
          have he54 : w2.cell? ⟨ad9.block, ad9.off + 7, none⟩ = some (.int .i64 (l.getD 7 0)) := cell_lit (cell_0 (hc53 0 _ rfl)) (by omega)
          obtain ⟨ad55, hA56, hc57⟩ := int_at (Kd.C_below hl hb3) 0 8 (by first | omega | decide)
          obtain rfl := Option.some.inj hA56
          have he58 : w2.cell? ⟨ad9.block, ad9.off + 8, none⟩ = some (.int .i64 (l.getD 8 0)) := cell_lit (cell_0 (hc57 0 _ rfl)) (by omega)
          refine w_drawk (M := [0, 1, 3, 0, 8, 24, 0, 64, 192, 448, 1016, 0, 2048, 6144, 0, 16384, 49152, 0, 131072, 393216, 0, 1048576, 3145728, 0, 8388608, 25165824, 0, 67108864, 201326592, 536739840, 1073741823, 0, 4294967295]) (ss := [Is (.slice (some ad9) l.length c1), Is (.pointer (some (ad9))), Is (.int .i64 (l.getD 0 0)), Is (.slice (some ad9) l.length c1), Is (.pointer (some (ad9.add (1)))), Is (.int .i64 (l.getD 1 0)), Is (.slice (some ad9) l.length c1), Is (.pointer (some (ad9.add (2)))), Is (.int .i64 (l.getD 2 0)), Is (.int .u64 (l.getD 2 0 % 18446744073709551616)), Is (.agg #[.int .i64 (l.getD 1 0), .int .u64 (l.getD 2 0 % 18446744073709551616)]), Is (.slice (some ad9) l.length c1), Is (.pointer (some (ad9.add (3)))), Is (.int .i64 (l.getD 3 0)), Is (.slice (some ad9) l.length c1), Is (.pointer (some (ad9.add (4)))), Is (.int .i64 (l.getD 4 0)), Is (.slice (some ad9) l.length c1), Is (.pointer (some (ad9.add (5)))), Is (.int .i64 (l.getD 5 0)), Is (.slice (some ad9) l.length c1), Is (.pointer (some (ad9.add (6)))), Is (.int .i64 (l.getD 6 0)), Is (.slice (some ad9) l.length c1), Is (.pointer (some (ad9.add (7)))), Is (.int .i64 (l.getD 7 0)), Is (.slice (some ad9) l.length c1), Is (.pointer (some (ad9.add (8)))), Is (.int .i64 (l.getD 8 0)), Is (.agg #[.int .i64 (l.getD 5 0), .int .i64 (l.getD 6 0), .int .i64 (l.getD 7 0), .int .i64 (l.getD 8 0)]), Is (.agg (carr (⟨(l.getD 0 0), (l.getD 1 0), (l.getD 2 0 % 18446744073709551616), (l.getD 3 0), (l.getD 4 0), (l.getD 5 0), (l.getD 6 0), (l.getD 7 0), (l.getD 8 0), (fun _ => 0)⟩ : CL))), BlkSpec w2.heap.size 31 (carr CL.unit)]) 32 rfl (by decide +kernel) ?_
          refine t_is (.slice (some ad9) l.length c1) rfl rfl rfl rfl (fun W_ hW_ F_ => rfl) ?_
          refine t_is (.pointer (some (ad9))) rfl rfl rfl rfl (fun W_ hW_ F_ => (run_as (run_at_z (P := Try.prog) (e := 3) (sz := 1) (by kernel_rfl) (by kernel_rfl)  (by first | omega | decide) _))) ?_
          refine t_is (.int .i64 (l.getD 0 0)) rfl rfl rfl rfl (fun W_ hW_ F_ => by have e0_ := cellOn he26 (below_of_drew hW_); simp [go_sem, sEv, sLook, nbeq, i64_w, -List.getD_eq_getElem?_getD, e0_]) ?_
          refine t_is (.slice (some ad9) l.length c1) rfl rfl rfl rfl (fun W_ hW_ F_ => rfl) ?_
          refine t_is (.pointer (some (ad9.add (1)))) rfl rfl rfl rfl (fun W_ hW_ F_ => (run_as (run_at_1 (P := Try.prog) (e := 3) (by kernel_rfl) (by kernel_rfl) 1 (by first | omega | decide) _))) ?_
          refine t_is (.int .i64 (l.getD 1 0)) rfl rfl rfl rfl (fun W_ hW_ F_ => by have e0_ := cellOn he30 (below_of_drew hW_); simp [go_sem, sEv, sLook, nbeq, i64_w, -List.getD_eq_getElem?_getD, e0_]) ?_
          refine t_is (.slice (some ad9) l.length c1) rfl rfl rfl rfl (fun W_ hW_ F_ => rfl) ?_
          refine t_is (.pointer (some (ad9.add (2)))) rfl rfl rfl rfl (fun W_ hW_ F_ => (run_as (run_at_1 (P := Try.prog) (e := 3) (by kernel_rfl) (by kernel_rfl) 2 (by first | omega | decide) _))) ?_
          refine t_is (.int .i64 (l.getD 2 0)) rfl rfl rfl rfl (fun W_ hW_ F_ => by have e0_ := cellOn he34 (below_of_drew hW_); simp [go_sem, sEv, sLook, nbeq, i64_w, -List.getD_eq_getElem?_getD, e0_]) ?_
          refine t_is (.int .u64 (l.getD 2 0 % 18446744073709551616)) rfl rfl rfl rfl (fun W_ hW_ F_ => by simp [go_sem, sEv, sLook, nbeq, i64_w, -List.getD_eq_getElem?_getD, u64_wrap, Try.underlying3, Try.underlying12]) ?_
          refine t_is (.agg #[.int .i64 (l.getD 1 0), .int .u64 (l.getD 2 0 % 18446744073709551616)]) rfl rfl rfl rfl (fun W_ hW_ F_ => by kernel_rfl) ?_
          refine t_is (.slice (some ad9) l.length c1) rfl rfl rfl rfl (fun W_ hW_ F_ => rfl) ?_
          refine t_is (.pointer (some (ad9.add (3)))) rfl rfl rfl rfl (fun W_ hW_ F_ => (run_as (run_at_1 (P := Try.prog) (e := 3) (by kernel_rfl) (by kernel_rfl) 3 (by first | omega | decide) _))) ?_
          refine t_is (.int .i64 (l.getD 3 0)) rfl rfl rfl rfl (fun W_ hW_ F_ => by have e0_ := cellOn he38 (below_of_drew hW_); simp [go_sem, sEv, sLook, nbeq, i64_w, -List.getD_eq_getElem?_getD, e0_]) ?_
          refine t_is (.slice (some ad9) l.length c1) rfl rfl rfl rfl (fun W_ hW_ F_ => rfl) ?_
          refine t_is (.pointer (some (ad9.add (4)))) rfl rfl rfl rfl (fun W_ hW_ F_ => (run_as (run_at_1 (P := Try.prog) (e := 3) (by kernel_rfl) (by kernel_rfl) 4 (by first | omega | decide) _))) ?_
          refine t_is (.int .i64 (l.getD 4 0)) rfl rfl rfl rfl (fun W_ hW_ F_ => by have e0_ := cellOn he42 (below_of_drew hW_); simp [go_sem, sEv, sLook, nbeq, i64_w, -List.getD_eq_getElem?_getD, e0_]) ?_
          refine t_is (.slice (some ad9) l.length c1) rfl rfl rfl rfl (fun W_ hW_ F_ => rfl) ?_
          refine t_is (.pointer (some (ad9.add (5)))) rfl rfl rfl rfl (fun W_ hW_ F_ => (run_as (run_at_1 (P := Try.prog) (e := 3) (by kernel_rfl) (by kernel_rfl) 5 (by first | omega | decide) _))) ?_
          refine t_is (.int .i64 (l.getD 5 0)) rfl rfl rfl rfl (fun W_ hW_ F_ => by have e0_ := cellOn he46 (below_of_drew hW_); simp [go_sem, sEv, sLook, nbeq, i64_w, -List.getD_eq_getElem?_getD, e0_]) ?_
          refine t_is (.slice (some ad9) l.length c1) rfl rfl rfl rfl (fun W_ hW_ F_ => rfl) ?_
          refine t_is (.pointer (some (ad9.add (6)))) rfl rfl rfl rfl (fun W_ hW_ F_ => (run_as (run_at_1 (P := Try.prog) (e := 3) (by kernel_rfl) (by kernel_rfl) 6 (by first | omega | decide) _))) ?_
          refine t_is (.int .i64 (l.getD 6 0)) rfl rfl rfl rfl (fun W_ hW_ F_ => by have e0_ := cellOn he50 (below_of_drew hW_); simp [go_sem, sEv, sLook, nbeq, i64_w, -List.getD_eq_getElem?_getD, e0_]) ?_
          refine t_is (.slice (some ad9) l.length c1) rfl rfl rfl rfl (fun W_ hW_ F_ => rfl) ?_
          refine t_is (.pointer (some (ad9.add (7)))) rfl rfl rfl rfl (fun W_ hW_ F_ => (run_as (run_at_1 (P := Try.prog) (e := 3) (by kernel_rfl) (by kernel_rfl) 7 (by first | omega | decide) _))) ?_
          refine t_is (.int .i64 (l.getD 7 0)) rfl rfl rfl rfl (fun W_ hW_ F_ => by have e0_ := cellOn he54 (below_of_drew hW_); simp [go_sem, sEv, sLook, nbeq, i64_w, -List.getD_eq_getElem?_getD, e0_]) ?_
          refine t_is (.slice (some ad9) l.length c1) rfl rfl rfl rfl (fun W_ hW_ F_ => rfl) ?_
          refine t_is (.pointer (some (ad9.add (8)))) rfl rfl rfl rfl (fun W_ hW_ F_ => (run_as (run_at_1 (P := Try.prog) (e := 3) (by kernel_rfl) (by kernel_rfl) 8 (by first | omega | decide) _))) ?_
          refine t_is (.int .i64 (l.getD 8 0)) rfl rfl rfl rfl (fun W_ hW_ F_ => by have e0_ := cellOn he58 (below_of_drew hW_); simp [go_sem, sEv, sLook, nbeq, i64_w, -List.getD_eq_getElem?_getD, e0_]) ?_
          refine t_is (.agg #[.int .i64 (l.getD 5 0), .int .i64 (l.getD 6 0), .int .i64 (l.getD 7 0), .int .i64 (l.getD 8 0)]) rfl rfl rfl rfl (fun W_ hW_ F_ => by kernel_rfl) ?_
          refine t_is (.agg (carr (⟨(l.getD 0 0), (l.getD 1 0), (l.getD 2 0 % 18446744073709551616), (l.getD 3 0), (l.getD 4 0), (l.getD 5 0), (l.getD 6 0), (l.getD 7 0), (l.getD 8 0), (fun _ => 0)⟩ : CL))) rfl rfl rfl rfl (fun W_ hW_ F_ => (by kernel_rfl)) ?_
          refine t_val (BlkSpec w2.heap.size 31 (carr CL.unit)) rfl rfl rfl rfl (fun W_ hW_ F_ => blk_gives _ _ _ (below_of_drew hW_).size (by kernel_rfl)) ?_
          rintro _ ⟨g59, rfl⟩
          refine t_tail ?_
          intro w62 hb63_ F64
          have hb63 := below_of_drew hb63_
          have hs_w62 := hb63.size
          obtain ⟨hge61, hk60⟩ := blk_fact (F64 31 (BlkSpec w2.heap.size 31 (carr CL.unit)) (.pointer (some ⟨g59, 0, none⟩)) (by kernel_rfl))
          have hlt_g59 := hk60.lt
          clear F64
          refine rw_seg (g := g59) (off := 0) (ty := 31) (p := .tmp 4) (x := .tmp 65) (v := .agg (carr (⟨(l.getD 0 0), (l.getD 1 0), (l.getD 2 0 % 18446744073709551616), (l.getD 3 0), (l.getD 4 0), (l.getD 5 0), (l.getD 6 0), (l.getD 7 0), (l.getD 8 0), (fun _ => 0)⟩ : CL))) (cs' := carr (⟨(l.getD 0 0), (l.getD 1 0), (l.getD 2 0 % 18446744073709551616), (l.getD 3 0), (l.getD 4 0), (l.getD 5 0), (l.getD 6 0), (l.getD 7 0), (l.getD 8 0), (fun _ => 0)⟩ : CL)) rfl rfl rfl rfl rfl rfl hk60 (by show (sizeOf 31).run _ _ = .ok (carr _).size _; rw [carr_size]; kernel_rfl) (Nat.le_of_eq (by rw [Nat.zero_add]; exact (carr_size _).trans (carr_size _).symm)) (encC_one _) (seg_all CL.unit (⟨(l.getD 0 0), (l.getD 1 0), (l.getD 2 0 % 18446744073709551616), (l.getD 3 0), (l.getD 4 0), (l.getD 5 0), (l.getD 6 0), (l.getD 7 0), (l.getD 8 0), (fun _ => 0)⟩ : CL)) ?_
          intro w65 hk66 hb67
          have hs_w65 := hk66.size
          refine rw_end ?_
          refine w_weaken (G' := [(0, .slice (some ad9) l.length c1), (2, .pointer (some ⟨g1, 0, none⟩)), (3, .int .i64 0), (4, .pointer (some ⟨g59, 0, none⟩))]) ⟨rfl, rfl, rfl, rfl, trivial⟩ ?_
          refine w_seq ?_
          refine w_region ?_
          refine rw_val (v := .slice (some ad9) l.length c1) (w' := w65) rfl rfl rfl rfl rfl ?_
          obtain ⟨ad68, hA69, hc70⟩ := int_at (Kd.C_below hl (hk66.below (by omega) (chain hb3 hb63))) 0 9 (by first | omega | decide)
          obtain rfl := Option.some.inj hA69
          have he71 : w65.cell? ⟨ad9.block, ad9.off + 9, none⟩ = some (.int .i64 (l.getD 9 0)) := cell_lit (cell_0 (hc70 0 _ rfl)) (by omega)
          refine rw_val (v := .pointer (some (ad9.add (9)))) (w' := w65) rfl rfl rfl rfl (run_as (run_at_1 (P := Try.prog) (e := 3) (by kernel_rfl) (by kernel_rfl) 9 (by first | omega | decide) _)) ?_
          refine rw_val (v := .int .i64 ((nC l : Nat) : Int)) (w' := w65) rfl rfl rfl rfl (by rw [s3_]; have e0_ := cellOn he71 (Below.refl _ _); simp [go_sem, sEv, sLook, nbeq, i64_w, -List.getD_eq_getElem?_getD, e0_]) ?_
          refine rw_val (v := .int .i64 ((2 * (nC l) : Nat) : Int)) (w' := w65) rfl rfl rfl rfl (by simp [go_sem, sEv, sLook, nbeq, i64_w, -List.getD_eq_getElem?_getD]; exact wrap_id (by omega) (by omega)) ?_
          refine rw_val (v := .int .i64 ((10 + (2 * (nC l)) : Nat) : Int)) (w' := w65) rfl rfl rfl rfl (by simp [go_sem, sEv, sLook, nbeq, i64_w, -List.getD_eq_getElem?_getD]; exact wrap_id (by omega) (by omega)) ?_
          refine rw_val (v := .int .i64 ((10 + (2 * (nC l)) : Nat) : Int)) (w' := w65) rfl rfl rfl rfl rfl ?_
          refine rw_end ?_
          refine w_weaken (G' := [(0, .slice (some ad9) l.length c1), (2, .pointer (some ⟨g1, 0, none⟩)), (3, .int .i64 0), (4, .pointer (some ⟨g59, 0, none⟩)), (5, .int .i64 ((10 + (2 * (nC l)) : Nat) : Int))]) ⟨rfl, rfl, rfl, rfl, rfl, trivial⟩ ?_
          refine w_seq ?_
          refine w_seq ?_
          refine w_region ?_
          refine rw_val (v := .int .i64 10) (w' := w65) rfl rfl rfl rfl rfl ?_
          refine rw_end ?_
          refine w_block ?_
          refine w_loop (fun m_ G W_ => ∃ (j : Nat), j + m_ = nC l ∧ Below w.heap.size w W_ ∧ (∀ p ∈ prsOf l j, okP p) ∧ (Blk W_ g59 31 (carr (baseC l (foldR (prsOf l j))))) ∧ (Blk W_ g1 31 (carr CL.unit)) ∧ G = [(0, .slice (some ad9) l.length c1), (2, .pointer (some ⟨g1, 0, none⟩)), (4, .pointer (some ⟨g59, 0, none⟩)), (5, .int .i64 ((10 + (2 * (nC l)) : Nat) : Int)), (6, .int .i64 ((10 + 2 * j : Nat) : Int))]) (nC l) [(0, .slice (some ad9) l.length c1), (2, .pointer (some ⟨g1, 0, none⟩)), (4, .pointer (some ⟨g59, 0, none⟩)), (5, .int .i64 ((10 + (2 * (nC l)) : Nat) : Int)), (6, .int .i64 ((10 + 2 * 0 : Nat) : Int))] ⟨0, by omega, (hk66.below (by omega) (chain hb3 hb63)), (by intro p hp; cases hp), hb67, ((hk4.on hb63).keep hk66 (by omega)), rfl⟩ ⟨rfl, rfl, rfl, rfl, rfl, trivial⟩ ?_
          rintro m_ G w_L72 ⟨j, hp73, hB_L72, hf74, hf75, hf76, rfl⟩
          have hs_w_L72 := hB_L72.size
          have hlt4_ := hf75.lt
          have hlt2_ := hf76.lt
          have hok0_ := hf74
          refine w_seq ?_
          refine w_seq ?_
          refine w_region ?_
          refine rw_val (v := .int .i64 ((10 + 2 * j : Nat) : Int)) (w' := w_L72) rfl rfl rfl rfl rfl ?_
          refine rw_val (v := .int .i64 ((10 + (2 * (nC l)) : Nat) : Int)) (w' := w_L72) rfl rfl rfl rfl rfl ?_
          refine rw_val (v := .bool (decide (((10 + 2 * j : Nat) : Int) < ((10 + (2 * (nC l)) : Nat) : Int)))) (w' := w_L72) rfl rfl rfl rfl (by simp [go_sem, sEv, sLook, nbeq, i64_w, -List.getD_eq_getElem?_getD]) ?_
          refine rw_end ?_
          refine w_cond rfl rfl (fun c77 => ?_) (fun c77 => ?_)
          · have l78 : (((10 + 2 * j : Nat) : Int) < ((10 + (2 * (nC l)) : Nat) : Int)) := of_decide_eq_true c77
            refine w_skip ?_
            refine w_seq ?_
            refine w_block ?_
            refine w_seq ?_
            refine w_seq ?_
            refine w_region ?_
            refine rw_val (v := .slice (some ad9) l.length c1) (w' := w_L72) rfl rfl rfl rfl rfl ?_
            refine rw_val (v := .int .i64 ((10 + 2 * j : Nat) : Int)) (w' := w_L72) rfl rfl rfl rfl rfl ?_
            obtain ⟨ad79, hA80, hc81⟩ := int_at (Kd.C_below hl hB_L72) 0 (10 + 2 * j) (by first | omega | decide)
            obtain rfl := Option.some.inj hA80
            have he82 : w_L72.cell? (ad9.add (10 + 2 * j)) = some (.int .i64 (l.getD (10 + 2 * j) 0)) := cell_0 (hc81 0 _ rfl)
            refine rw_val (v := .pointer (some (ad9.add (10 + 2 * j)))) (w' := w_L72) rfl rfl rfl rfl (run_as (run_at_1 (P := Try.prog) (e := 3) (by kernel_rfl) (by kernel_rfl) (10 + 2 * j) (by first | omega | decide) _)) ?_
            refine rw_val (v := .int .i64 (l.getD (10 + 2 * j) 0)) (w' := w_L72) rfl rfl rfl rfl (by have e0_ := cellOn he82 (Below.refl _ _); simp [go_sem, sEv, sLook, nbeq, i64_w, -List.getD_eq_getElem?_getD, e0_]) ?_
            refine rw_val (v := .bool (decide ((l.getD (10 + 2 * j) 0) < 0))) (w' := w_L72) rfl rfl rfl rfl (by simp [go_sem, sEv, sLook, nbeq, i64_w, -List.getD_eq_getElem?_getD]) ?_
            refine rw_val (v := .bool (decide ((l.getD (10 + 2 * j) 0) < 0))) (w' := w_L72) rfl rfl rfl rfl rfl ?_
            rcases bcase (decide ((l.getD (10 + 2 * j) 0) < 0)) with c83 | c83
            · have l84 : ¬ ((l.getD (10 + 2 * j) 0) < 0) := of_decide_eq_false c83
              refine rw_on (c := decide ((l.getD (10 + 2 * j) 0) < 0)) rfl rfl rfl (by first | (rw [c83]; rfl) | simp [c83]) ?_
              refine rw_val (v := .slice (some ad9) l.length c1) (w' := w_L72) rfl rfl rfl rfl rfl ?_
              refine rw_on (c := decide ((l.getD (10 + 2 * j) 0) < 0)) rfl rfl rfl (by first | (rw [c83]; rfl) | simp [c83]) ?_
              refine rw_val (v := .int .i64 ((10 + 2 * j : Nat) : Int)) (w' := w_L72) rfl rfl rfl rfl rfl ?_
              refine rw_on (c := decide ((l.getD (10 + 2 * j) 0) < 0)) rfl rfl rfl (by first | (rw [c83]; rfl) | simp [c83]) ?_
              refine rw_val (v := .pointer (some (ad9.add (10 + 2 * j)))) (w' := w_L72) rfl rfl rfl rfl (run_as (run_at_1 (P := Try.prog) (e := 3) (by kernel_rfl) (by kernel_rfl) (10 + 2 * j) (by first | omega | decide) _)) ?_
              refine rw_on (c := decide ((l.getD (10 + 2 * j) 0) < 0)) rfl rfl rfl (by first | (rw [c83]; rfl) | simp [c83]) ?_
              refine rw_val (v := .int .i64 (l.getD (10 + 2 * j) 0)) (w' := w_L72) rfl rfl rfl rfl (by have e0_ := cellOn he82 (Below.refl _ _); simp [go_sem, sEv, sLook, nbeq, i64_w, -List.getD_eq_getElem?_getD, e0_]) ?_
              refine rw_on (c := decide ((l.getD (10 + 2 * j) 0) < 0)) rfl rfl rfl (by first | (rw [c83]; rfl) | simp [c83]) ?_
              refine rw_val (v := .bool (decide (64 < (l.getD (10 + 2 * j) 0)))) (w' := w_L72) rfl rfl rfl rfl (by simp [go_sem, sEv, sLook, nbeq, i64_w, -List.getD_eq_getElem?_getD]) ?_
              refine rw_val (v := .bool (decide (64 < (l.getD (10 + 2 * j) 0)))) (w' := w_L72) rfl rfl rfl rfl (by first | (simp [go_sem, sEv, sLook, nbeq, i64_w, -List.getD_eq_getElem?_getD, c83]; done) | (rw [c83]; simp [go_sem, sEv, sLook, nbeq, i64_w, -List.getD_eq_getElem?_getD]; done) | (simp [go_sem, sEv, sLook, nbeq, i64_w, -List.getD_eq_getElem?_getD] <;> omega) | (simp [go_sem, sEv, sLook, nbeq, i64_w, -List.getD_eq_getElem?_getD]; intro h_; exact absurd (by omega) h_)) ?_
              refine rw_end ?_
              refine w_weaken (G' := [(0, .slice (some ad9) l.length c1), (2, .pointer (some ⟨g1, 0, none⟩)), (4, .pointer (some ⟨g59, 0, none⟩)), (5, .int .i64 ((10 + (2 * (nC l)) : Nat) : Int)), (6, .int .i64 ((10 + 2 * j : Nat) : Int)), (87, .bool (decide (64 < (l.getD (10 + 2 * j) 0))))]) ⟨rfl, rfl, rfl, rfl, rfl, rfl, trivial⟩ ?_
              refine w_cond rfl rfl (fun c85 => ?_) (fun c85 => ?_)
              · have l86 : (64 < (l.getD (10 + 2 * j) 0)) := of_decide_eq_true c85
                refine w_seq ?_
                refine w_region ?_
                refine rw_val (v := .agg (carr CL.unit)) (w' := w_L72) rfl rfl rfl rfl (by kernel_rfl) ?_
                refine rw_seg (g := g1) (off := 0) (ty := 31) (p := .tmp 2) (x := .tmp 88) (v := .agg (carr CL.unit)) (cs' := carr CL.unit) rfl rfl rfl rfl rfl rfl hf76 (by show (sizeOf 31).run _ _ = .ok (carr _).size _; rw [carr_size]; kernel_rfl) (Nat.le_of_eq (by rw [Nat.zero_add]; exact (carr_size _).trans (carr_size _).symm)) (encC_one _) (seg_all CL.unit CL.unit) ?_
                intro w87 hk88 hb89
                have hs_w87 := hk88.size
                refine rw_val (v := .int .i64 0) (w' := w87) rfl rfl rfl rfl rfl ?_
                refine rw_end ?_
                refine w_ret (post_retct (v := .agg (carr CL.unit)) rfl rfl rfl (load_cell (c := CL.unit) hb89) ?_)
                exact ⟨.inl ⟨take_no (fun c_ r_ e_ => by have h_ := take_okP e_ j (by omega); omega), rfl⟩, (hk88.below (by omega) hB_L72)⟩
              · have l90 : ¬ (64 < (l.getD (10 + 2 * j) 0)) := of_decide_eq_false c85
                refine w_skip ?_
                obtain ⟨ad91, hA92, hc93⟩ := int_at (Kd.C_below hl hB_L72) 0 (10 + 2 * j + 1) (by first | omega | decide)
                obtain rfl := Option.some.inj hA92
                have he94 : w_L72.cell? ⟨ad9.block, ad9.off + (10 + 2 * j + 1), none⟩ = some (.int .i64 (l.getD (10 + 2 * j + 1) 0)) := cell_lit (cell_0 (hc93 0 _ rfl)) (by omega)
                refine w_drawk (M := [0, 0, 3, 7, 0, 0, 32, 112, 240, 0, 1023, 2047]) (ss := [Is (.slice (some ad9) l.length c1), Is (.int .i64 ((10 + 2 * j : Nat) : Int)), Is (.pointer (some (ad9.add (10 + 2 * j)))), Is (.int .i64 (((l.getD (10 + 2 * j) 0).toNat : Nat) : Int)), Is (.slice (some ad9) l.length c1), Is (.int .i64 ((10 + 2 * j : Nat) : Int)), Is (.int .i64 ((10 + 2 * j + 1 : Nat) : Int)), Is (.pointer (some (ad9.add (10 + 2 * j + 1)))), Is (.int .i64 (l.getD (10 + 2 * j + 1) 0)), Is (.pointer (some ⟨g59, 9, none⟩))]) 10 rfl (by decide +kernel) ?_
                refine t_is (.slice (some ad9) l.length c1) rfl rfl rfl rfl (fun W_ hW_ F_ => rfl) ?_
                refine t_is (.int .i64 ((10 + 2 * j : Nat) : Int)) rfl rfl rfl rfl (fun W_ hW_ F_ => rfl) ?_
                refine t_is (.pointer (some (ad9.add (10 + 2 * j)))) rfl rfl rfl rfl (fun W_ hW_ F_ => (run_as (run_at_1 (P := Try.prog) (e := 3) (by kernel_rfl) (by kernel_rfl) (10 + 2 * j) (by first | omega | decide) _))) ?_
                refine t_is (.int .i64 (((l.getD (10 + 2 * j) 0).toNat : Nat) : Int)) rfl rfl rfl rfl (fun W_ hW_ F_ => by have e0_ := cellOn he82 (below_of_drew hW_); rw [cast_toNat (by omega)]; simp [go_sem, sEv, sLook, nbeq, i64_w, -List.getD_eq_getElem?_getD, e0_]) ?_
                refine t_is (.slice (some ad9) l.length c1) rfl rfl rfl rfl (fun W_ hW_ F_ => rfl) ?_
                refine t_is (.int .i64 ((10 + 2 * j : Nat) : Int)) rfl rfl rfl rfl (fun W_ hW_ F_ => rfl) ?_
                refine t_is (.int .i64 ((10 + 2 * j + 1 : Nat) : Int)) rfl rfl rfl rfl (fun W_ hW_ F_ => by simp [go_sem, sEv, sLook, nbeq, i64_w, -List.getD_eq_getElem?_getD]; exact wrap_id (by omega) (by omega)) ?_
                refine t_is (.pointer (some (ad9.add (10 + 2 * j + 1)))) rfl rfl rfl rfl (fun W_ hW_ F_ => (run_as (run_at_1 (P := Try.prog) (e := 3) (by kernel_rfl) (by kernel_rfl) (10 + 2 * j + 1) (by first | omega | decide) _))) ?_
                refine t_is (.int .i64 (l.getD (10 + 2 * j + 1) 0)) rfl rfl rfl rfl (fun W_ hW_ F_ => by have e0_ := cellOn he94 (below_of_drew hW_); simp [go_sem, sEv, sLook, nbeq, i64_w, -List.getD_eq_getElem?_getD, e0_]) ?_
                refine t_is (.pointer (some ⟨g59, 9, none⟩)) rfl rfl rfl rfl (fun W_ hW_ F_ => by simp [go_sem, sEv, sLook, nbeq, i64_w, -List.getD_eq_getElem?_getD, Try.underlying31]) ?_
                refine t_tail ?_
                intro w95 hb96_ F97
                have hb96 := below_of_drew hb96_
                have hs_w95 := hb96.size
                clear F97
                refine rw_val (v := .pointer (some ⟨g59, 9 + ((l.getD (10 + 2 * j) 0).toNat), none⟩)) (w' := w95) rfl rfl rfl rfl (run_as (addr_hist ((l.getD (10 + 2 * j) 0).toNat) (by omega) _)) ?_
                refine rw_seg (g := g59) (off := (9 + ((l.getD (10 + 2 * j) 0).toNat))) (ty := 3) (p := .tmp 99) (x := .tmp 97) (v := .int .i64 (l.getD (10 + 2 * j + 1) 0)) (cs' := carr (⟨(baseC l (foldR (prsOf l j))).cnt, (baseC l (foldR (prsOf l j))).hi, (baseC l (foldR (prsOf l j))).lo, (baseC l (foldR (prsOf l j))).mn, (baseC l (foldR (prsOf l j))).mx, (baseC l (foldR (prsOf l j))).t, (baseC l (foldR (prsOf l j))).src, (baseC l (foldR (prsOf l j))).seq, (baseC l (foldR (prsOf l j))).v, (updF ((baseC l (foldR (prsOf l j))).h) ((l.getD (10 + 2 * j) 0).toNat) (l.getD (10 + 2 * j + 1) 0))⟩ : CL)) rfl rfl rfl rfl rfl rfl (hf75.on hb96) (by kernel_rfl) (by rw [carr_size]; show 9 + ((l.getD (10 + 2 * j) 0).toNat) + 1 ≤ 74; omega) (by intro q hq; simp only [List.mem_cons, List.not_mem_nil, or_false, Value.cells] at hq; (first | (rcases hq with rfl | rfl | rfl | rfl <;> rfl) | (rcases hq with rfl | rfl <;> rfl) | (subst hq; rfl))) (seg_h (baseC l (foldR (prsOf l j))) ((l.getD (10 + 2 * j) 0).toNat) (by omega) (l.getD (10 + 2 * j + 1) 0)) ?_
                intro w98 hk99 hb100
                have hs_w98 := hk99.size
                refine rw_end ?_
                refine w_weaken (G' := [(0, .slice (some ad9) l.length c1), (2, .pointer (some ⟨g1, 0, none⟩)), (4, .pointer (some ⟨g59, 0, none⟩)), (5, .int .i64 ((10 + (2 * (nC l)) : Nat) : Int)), (6, .int .i64 ((10 + 2 * j : Nat) : Int))]) ⟨rfl, rfl, rfl, rfl, rfl, trivial⟩ ?_
                refine w_blk ?_
                refine w_region ?_
                refine rw_val (v := .int .i64 ((10 + 2 * j : Nat) : Int)) (w' := w98) rfl rfl rfl rfl rfl ?_
                refine rw_val (v := .int .i64 ((10 + 2 * j + 2 : Nat) : Int)) (w' := w98) rfl rfl rfl rfl (by simp [go_sem, sEv, sLook, nbeq, i64_w, -List.getD_eq_getElem?_getD]; exact wrap_id (by omega) (by omega)) ?_
                refine rw_val (v := .int .i64 ((10 + 2 * j + 2 : Nat) : Int)) (w' := w98) rfl rfl rfl rfl rfl ?_
                refine rw_end ?_
                exact w_back (m_ - 1) [(0, .slice (some ad9) l.length c1), (2, .pointer (some ⟨g1, 0, none⟩)), (4, .pointer (some ⟨g59, 0, none⟩)), (5, .int .i64 ((10 + (2 * (nC l)) : Nat) : Int)), (6, .int .i64 ((10 + 2 * (j + 1) : Nat) : Int))] (by omega) ⟨rfl, rfl, rfl, rfl, rfl, trivial⟩ ⟨(j + 1), by omega, (hk99.below (by omega) (chain hB_L72 hb96)), (okP_succ hok0_ (by omega) (by omega)), (by rw [foldR_succ]; exact hb100), ((hf76.on hb96).keep hk99 (by omega)), rfl⟩
            · have l101 : ((l.getD (10 + 2 * j) 0) < 0) := of_decide_eq_true c83
              refine rw_off (c := decide ((l.getD (10 + 2 * j) 0) < 0)) rfl rfl rfl (by first | (rw [c83]; rfl) | simp [c83]) rfl rfl ?_
              refine rw_off (c := decide ((l.getD (10 + 2 * j) 0) < 0)) rfl rfl rfl (by first | (rw [c83]; rfl) | simp [c83]) rfl rfl ?_
              refine rw_off (c := decide ((l.getD (10 + 2 * j) 0) < 0)) rfl rfl rfl (by first | (rw [c83]; rfl) | simp [c83]) rfl rfl ?_
              refine rw_off (c := decide ((l.getD (10 + 2 * j) 0) < 0)) rfl rfl rfl (by first | (rw [c83]; rfl) | simp [c83]) rfl rfl ?_
              refine rw_off (c := decide ((l.getD (10 + 2 * j) 0) < 0)) rfl rfl rfl (by first | (rw [c83]; rfl) | simp [c83]) rfl rfl ?_
              refine rw_val (v := .bool true) (w' := w_L72) rfl rfl rfl rfl (by first | (simp [go_sem, sEv, sLook, nbeq, i64_w, -List.getD_eq_getElem?_getD, c83]; done) | (rw [c83]; simp [go_sem, sEv, sLook, nbeq, i64_w, -List.getD_eq_getElem?_getD]; done) | (simp [go_sem, sEv, sLook, nbeq, i64_w, -List.getD_eq_getElem?_getD] <;> omega) | (simp [go_sem, sEv, sLook, nbeq, i64_w, -List.getD_eq_getElem?_getD]; intro h_; exact absurd (by omega) h_)) ?_
              refine rw_end ?_
              refine w_weaken (G' := [(0, .slice (some ad9) l.length c1), (2, .pointer (some ⟨g1, 0, none⟩)), (4, .pointer (some ⟨g59, 0, none⟩)), (5, .int .i64 ((10 + (2 * (nC l)) : Nat) : Int)), (6, .int .i64 ((10 + 2 * j : Nat) : Int)), (87, .bool true)]) ⟨rfl, rfl, rfl, rfl, rfl, rfl, trivial⟩ ?_
              refine w_cond_t rfl rfl rfl ?_
              refine w_seq ?_
              refine w_region ?_
              refine rw_val (v := .agg (carr CL.unit)) (w' := w_L72) rfl rfl rfl rfl (by kernel_rfl) ?_
              refine rw_seg (g := g1) (off := 0) (ty := 31) (p := .tmp 2) (x := .tmp 88) (v := .agg (carr CL.unit)) (cs' := carr CL.unit) rfl rfl rfl rfl rfl rfl hf76 (by show (sizeOf 31).run _ _ = .ok (carr _).size _; rw [carr_size]; kernel_rfl) (Nat.le_of_eq (by rw [Nat.zero_add]; exact (carr_size _).trans (carr_size _).symm)) (encC_one _) (seg_all CL.unit CL.unit) ?_
              intro w102 hk103 hb104
              have hs_w102 := hk103.size
              refine rw_val (v := .int .i64 0) (w' := w102) rfl rfl rfl rfl rfl ?_
              refine rw_end ?_
              refine w_ret (post_retct (v := .agg (carr CL.unit)) rfl rfl rfl (load_cell (c := CL.unit) hb104) ?_)
              exact ⟨.inl ⟨take_no (fun c_ r_ e_ => by have h_ := take_okP e_ j (by omega); omega), rfl⟩, (hk103.below (by omega) hB_L72)⟩
          · have l105 : ¬ (((10 + 2 * j : Nat) : Int) < ((10 + (2 * (nC l)) : Nat) : Int)) := of_decide_eq_false c77
            refine w_exit rfl ?_
            refine w_seq ?_
            refine w_region ?_
            have ej_ : j = nC l := by omega
            have hok_ : ∀ p ∈ prsOf l (nC l), okP p := by rw [← ej_]; exact hok0_
            have hb4106 : Blk w_L72 g59 31 (carr (baseC l (foldR (prsOf l (nC l))))) := by have h_ := hf75; rw [ej_] at h_; exact h_
            refine rw_val (v := .agg (carr (baseC l (foldR (prsOf l (nC l)))))) (w' := w_L72) rfl rfl rfl rfl (run_as (load_cell (c := (baseC l (foldR (prsOf l (nC l))))) hb4106)) ?_
            refine rw_call rfl rfl rfl rfl (f := 20) (args := #[.agg (carr (baseC l (foldR (prsOf l (nC l)))))]) (by simp [go_sem, sEv, sLook, nbeq, i64_w, -List.getD_eq_getElem?_getD]) ((rnums_calls w_L72 (baseC l (foldR (prsOf l (nC l)))))) ?_
            rintro e_ w109 ⟨A107, c108, rfl, hO110, hB111⟩
            refine ⟨_, rfl, ?_⟩
            have hs_w109 := hB111.size
            have hL112 : OwnK (Kd.int .i64) 3 w109 w.heap.size w_L72.heap.size A107 (numsC (baseC l (foldR (prsOf l (nC l))))).length c108 (numsC (baseC l (foldR (prsOf l (nC l))))) := OwnK.lower hO110 (by omega)
            refine rw_val (v := .slice A107 ((numsC (baseC l (foldR (prsOf l (nC l))))).length) c108) (w' := w109) rfl rfl rfl rfl rfl ?_
            refine rw_end ?_
            refine w_seq ?_
            refine w_seq ?_
            refine w_region ?_
            refine rw_val (v := .slice A107 ((numsC (baseC l (foldR (prsOf l (nC l))))).length) c108) (w' := w109) rfl rfl rfl rfl rfl ?_
            refine rw_val (v := .int .i64 (((numsC (baseC l (foldR (prsOf l (nC l))))).length : Nat) : Int)) (w' := w109) rfl rfl rfl rfl (by simp [go_sem, sEv, sLook, nbeq, i64_w, -List.getD_eq_getElem?_getD]) ?_
            refine rw_val (v := .int .i64 ((10 + (2 * (nC l)) : Nat) : Int)) (w' := w109) rfl rfl rfl rfl rfl ?_
            refine rw_val (v := .bool ((((numsC (baseC l (foldR (prsOf l (nC l))))).length : Nat) : Int) != ((10 + (2 * (nC l)) : Nat) : Int))) (w' := w109) rfl rfl rfl rfl (by simp [go_sem, sEv, sLook, nbeq, i64_w, -List.getD_eq_getElem?_getD]) ?_
            refine rw_end ?_
            refine w_weaken (G' := [(0, .slice (some ad9) l.length c1), (2, .pointer (some ⟨g1, 0, none⟩)), (4, .pointer (some ⟨g59, 0, none⟩)), (5, .int .i64 ((10 + (2 * (nC l)) : Nat) : Int)), (7, .slice A107 ((numsC (baseC l (foldR (prsOf l (nC l))))).length) c108), (105, .bool ((((numsC (baseC l (foldR (prsOf l (nC l))))).length : Nat) : Int) != ((10 + (2 * (nC l)) : Nat) : Int)))]) ⟨rfl, rfl, rfl, rfl, rfl, rfl, trivial⟩ ?_
            refine w_cond rfl rfl (fun c113 => ?_) (fun c113 => ?_)
            · have l114 : ¬ (((numsC (baseC l (foldR (prsOf l (nC l))))).length : Nat) : Int) = ((10 + (2 * (nC l)) : Nat) : Int) := by simpa using c113
              refine w_seq ?_
              have hal_ : ¬ (numsC (baseC l (foldR (prsOf l (nC l))))).length = 10 + 2 * nC l := by intro z_; omega
              refine w_region ?_
              refine rw_val (v := .agg (carr CL.unit)) (w' := w109) rfl rfl rfl rfl (by kernel_rfl) ?_
              refine rw_seg (g := g1) (off := 0) (ty := 31) (p := .tmp 2) (x := .tmp 106) (v := .agg (carr CL.unit)) (cs' := carr CL.unit) rfl rfl rfl rfl rfl rfl (hf76.on hB111) (by show (sizeOf 31).run _ _ = .ok (carr _).size _; rw [carr_size]; kernel_rfl) (Nat.le_of_eq (by rw [Nat.zero_add]; exact (carr_size _).trans (carr_size _).symm)) (encC_one _) (seg_all CL.unit CL.unit) ?_
              intro w115 hk116 hb117
              have hs_w115 := hk116.size
              refine rw_val (v := .int .i64 0) (w' := w115) rfl rfl rfl rfl rfl ?_
              refine rw_end ?_
              refine w_ret (post_retct (v := .agg (carr CL.unit)) rfl rfl rfl (load_cell (c := CL.unit) hb117) ?_)
              exact ⟨.inl ⟨take_no (fun c_ r_ e_ => hal_ (by rw [take_again e_ (hv s1_), List.length_take]; omega)), rfl⟩, (hk116.below (by omega) (chain hB_L72 hB111))⟩
            · have l118 : (((numsC (baseC l (foldR (prsOf l (nC l))))).length : Nat) : Int) = ((10 + (2 * (nC l)) : Nat) : Int) := by simpa using c113
              refine w_skip ?_
              refine w_seq ?_
              refine w_seq ?_
              have hlen_ : (numsC (baseC l (foldR (prsOf l (nC l))))).length = 10 + 2 * nC l := by omega
              refine w_region ?_
              refine rw_val (v := .int .i64 0) (w' := w109) rfl rfl rfl rfl rfl ?_
              refine rw_end ?_
              refine w_block ?_
              refine w_loop (fun m_ G W_ => ∃ (i : Nat) (A7_ : Option Addr) (c7_ : Nat), i + m_ = 10 + 2 * nC l ∧ Below w.heap.size w W_ ∧ OwnK (Kd.int .i64) 3 W_ w.heap.size w.heap.size A7_ (numsC (baseC l (foldR (prsOf l (nC l))))).length c7_ (numsC (baseC l (foldR (prsOf l (nC l))))) ∧ (∀ i_, i_ < i → (numsC (baseC l (foldR (prsOf l (nC l))))).getD i_ 0 = l.getD i_ 0) ∧ (Blk W_ g59 31 (carr (baseC l (foldR (prsOf l (nC l)))))) ∧ (Blk W_ g1 31 (carr CL.unit)) ∧ G = [(0, .slice (some ad9) l.length c1), (2, .pointer (some ⟨g1, 0, none⟩)), (4, .pointer (some ⟨g59, 0, none⟩)), (5, .int .i64 ((10 + (2 * (nC l)) : Nat) : Int)), (7, .slice A7_ ((numsC (baseC l (foldR (prsOf l (nC l))))).length) c7_), (8, .int .i64 ((i : Nat) : Int))]) (10 + 2 * nC l) [(0, .slice (some ad9) l.length c1), (2, .pointer (some ⟨g1, 0, none⟩)), (4, .pointer (some ⟨g59, 0, none⟩)), (5, .int .i64 ((10 + (2 * (nC l)) : Nat) : Int)), (7, .slice A107 ((numsC (baseC l (foldR (prsOf l (nC l))))).length) c108), (8, .int .i64 0)] ⟨0, A107, c108, by omega, (chain hB_L72 hB111), (OwnK.mono (d := (Kd.int .i64)) hL112 (by omega)), (by intro i_ h_; omega), (hb4106.on hB111), (hf76.on hB111), rfl⟩ ⟨rfl, rfl, rfl, rfl, rfl, rfl, trivial⟩ ?_
              rintro m1_ G w_L119 ⟨i, A7_, c7_, hp120, hB_L119, hO7_, hf121, hf122, hf123, rfl⟩
              have hs_w_L119 := hB_L119.size
              have hlt4b_ := hf122.lt
              have hlt2b_ := hf123.lt
              have heq_ := hf121
              refine w_seq ?_
              refine w_seq ?_
              refine w_region ?_
              refine rw_val (v := .int .i64 ((i : Nat) : Int)) (w' := w_L119) rfl rfl rfl rfl rfl ?_
              refine rw_val (v := .int .i64 ((10 + (2 * (nC l)) : Nat) : Int)) (w' := w_L119) rfl rfl rfl rfl rfl ?_
              refine rw_val (v := .bool (decide (((i : Nat) : Int) < ((10 + (2 * (nC l)) : Nat) : Int)))) (w' := w_L119) rfl rfl rfl rfl (by simp [go_sem, sEv, sLook, nbeq, i64_w, -List.getD_eq_getElem?_getD]) ?_
              refine rw_end ?_
              refine w_cond rfl rfl (fun c124 => ?_) (fun c124 => ?_)
              · have l125 : (((i : Nat) : Int) < ((10 + (2 * (nC l)) : Nat) : Int)) := of_decide_eq_true c124
                refine w_skip ?_
                refine w_seq ?_
                refine w_block ?_
                refine w_seq ?_
                obtain ⟨g129, rfl⟩ := OwnK.adr (d := (Kd.int .i64)) hO7_ (by first | omega | decide)
                obtain ⟨ad126, hA127, hc128⟩ := int_at (Kd.C_below (OwnK.C (d := (Kd.int .i64)) hO7_) (Below.refl _ _)) 0 i (by first | omega | decide)
                obtain rfl := Option.some.inj hA127
                have he130 : w_L119.cell? ⟨g129, i, none⟩ = some (.int .i64 ((numsC (baseC l (foldR (prsOf l (nC l))))).getD i 0)) := cell_g (hc128 0 _ rfl) rfl
                obtain ⟨ad131, hA132, hc133⟩ := int_at (Kd.C_below hl hB_L119) 0 i (by first | omega | decide)
                obtain rfl := Option.some.inj hA132
                have he134 : w_L119.cell? (ad9.add (i)) = some (.int .i64 (l.getD i 0)) := cell_0 (hc133 0 _ rfl)
                refine w_drawk (M := [0, 0, 3, 7, 0, 0, 48, 112, 255]) (ss := [Is (.slice (some ⟨g129, 0, none⟩) ((numsC (baseC l (foldR (prsOf l (nC l))))).length) c7_), Is (.int .i64 ((i : Nat) : Int)), Is (.pointer (some ⟨g129, i, none⟩)), Is (.int .i64 ((numsC (baseC l (foldR (prsOf l (nC l))))).getD i 0)), Is (.slice (some ad9) l.length c1), Is (.int .i64 ((i : Nat) : Int)), Is (.pointer (some (ad9.add (i)))), Is (.int .i64 (l.getD i 0))]) 8 rfl (by decide +kernel) ?_
                refine t_is (.slice (some ⟨g129, 0, none⟩) ((numsC (baseC l (foldR (prsOf l (nC l))))).length) c7_) rfl rfl rfl rfl (fun W_ hW_ F_ => rfl) ?_
                refine t_is (.int .i64 ((i : Nat) : Int)) rfl rfl rfl rfl (fun W_ hW_ F_ => rfl) ?_
                refine t_is (.pointer (some ⟨g129, i, none⟩)) rfl rfl rfl rfl (fun W_ hW_ F_ => (by rw [← add_plain g129 (i)]; exact (run_as (run_at_1 (P := Try.prog) (e := 3) (by kernel_rfl) (by kernel_rfl) i (by first | omega | decide) _)))) ?_
                refine t_is (.int .i64 ((numsC (baseC l (foldR (prsOf l (nC l))))).getD i 0)) rfl rfl rfl rfl (fun W_ hW_ F_ => by have e0_ := cellOn he130 (below_of_drew hW_); simp [go_sem, sEv, sLook, nbeq, i64_w, -List.getD_eq_getElem?_getD, e0_]) ?_
                refine t_is (.slice (some ad9) l.length c1) rfl rfl rfl rfl (fun W_ hW_ F_ => rfl) ?_
                refine t_is (.int .i64 ((i : Nat) : Int)) rfl rfl rfl rfl (fun W_ hW_ F_ => rfl) ?_
                refine t_is (.pointer (some (ad9.add (i)))) rfl rfl rfl rfl (fun W_ hW_ F_ => (run_as (run_at_1 (P := Try.prog) (e := 3) (by kernel_rfl) (by kernel_rfl) i (by first | omega | decide) _))) ?_
                refine t_is (.int .i64 (l.getD i 0)) rfl rfl rfl rfl (fun W_ hW_ F_ => by have e0_ := cellOn he134 (below_of_drew hW_); simp [go_sem, sEv, sLook, nbeq, i64_w, -List.getD_eq_getElem?_getD, e0_]) ?_
                refine t_tail ?_
                intro w135 hb136_ F137
                have hb136 := below_of_drew hb136_
                have hs_w135 := hb136.size
                clear F137
                refine rw_val (v := .bool (((numsC (baseC l (foldR (prsOf l (nC l))))).getD i 0) != (l.getD i 0))) (w' := w135) rfl rfl rfl rfl (by simp [go_sem, sEv, sLook, nbeq, i64_w, -List.getD_eq_getElem?_getD]) ?_
                refine rw_end ?_
                refine w_weaken (G' := [(0, .slice (some ad9) l.length c1), (2, .pointer (some ⟨g1, 0, none⟩)), (4, .pointer (some ⟨g59, 0, none⟩)), (5, .int .i64 ((10 + (2 * (nC l)) : Nat) : Int)), (7, .slice (some ⟨g129, 0, none⟩) ((numsC (baseC l (foldR (prsOf l (nC l))))).length) c7_), (8, .int .i64 ((i : Nat) : Int)), (120, .bool (((numsC (baseC l (foldR (prsOf l (nC l))))).getD i 0) != (l.getD i 0)))]) ⟨rfl, rfl, rfl, rfl, rfl, rfl, rfl, trivial⟩ ?_
                refine w_cond rfl rfl (fun c138 => ?_) (fun c138 => ?_)
                · have l139 : ¬ ((numsC (baseC l (foldR (prsOf l (nC l))))).getD i 0) = (l.getD i 0) := by simpa using c138
                  refine w_seq ?_
                  have hne_ : ¬ (numsC (baseC l (foldR (prsOf l (nC l))))).getD i 0 = l.getD i 0 := by assumption
                  refine w_region ?_
                  refine rw_val (v := .agg (carr CL.unit)) (w' := w135) rfl rfl rfl rfl (by kernel_rfl) ?_
                  refine rw_seg (g := g1) (off := 0) (ty := 31) (p := .tmp 2) (x := .tmp 121) (v := .agg (carr CL.unit)) (cs' := carr CL.unit) rfl rfl rfl rfl rfl rfl (hf123.on hb136) (by show (sizeOf 31).run _ _ = .ok (carr _).size _; rw [carr_size]; kernel_rfl) (Nat.le_of_eq (by rw [Nat.zero_add]; exact (carr_size _).trans (carr_size _).symm)) (encC_one _) (seg_all CL.unit CL.unit) ?_
                  intro w140 hk141 hb142
                  have hs_w140 := hk141.size
                  refine rw_val (v := .int .i64 0) (w' := w140) rfl rfl rfl rfl rfl ?_
                  refine rw_end ?_
                  refine w_ret (post_retct (v := .agg (carr CL.unit)) rfl rfl rfl (load_cell (c := CL.unit) hb142) ?_)
                  exact ⟨.inl ⟨take_no (fun c_ r_ e_ => hne_ (upto_getD (take_again e_ (hv s1_)) (by omega))), rfl⟩, (hk141.below (by omega) (chain hB_L119 hb136))⟩
                · have l143 : ((numsC (baseC l (foldR (prsOf l (nC l))))).getD i 0) = (l.getD i 0) := by simpa using c138
                  refine w_skip ?_
                  refine w_blk ?_
                  refine w_region ?_
                  refine rw_val (v := .int .i64 ((i : Nat) : Int)) (w' := w135) rfl rfl rfl rfl rfl ?_
                  refine rw_val (v := .int .i64 ((i + 1 : Nat) : Int)) (w' := w135) rfl rfl rfl rfl (by simp [go_sem, sEv, sLook, nbeq, i64_w, -List.getD_eq_getElem?_getD]; exact wrap_id (by omega) (by omega)) ?_
                  refine rw_val (v := .int .i64 ((i + 1 : Nat) : Int)) (w' := w135) rfl rfl rfl rfl rfl ?_
                  refine rw_end ?_
                  exact w_back (m1_ - 1) [(0, .slice (some ad9) l.length c1), (2, .pointer (some ⟨g1, 0, none⟩)), (4, .pointer (some ⟨g59, 0, none⟩)), (5, .int .i64 ((10 + (2 * (nC l)) : Nat) : Int)), (7, .slice (some ⟨g129, 0, none⟩) ((numsC (baseC l (foldR (prsOf l (nC l))))).length) c7_), (8, .int .i64 ((i + 1 : Nat) : Int))] (by omega) ⟨rfl, rfl, rfl, rfl, rfl, rfl, trivial⟩ ⟨(i + 1), (some ⟨g129, 0, none⟩), c7_, by omega, (chain hB_L119 hb136), (OwnK.mono (d := (Kd.int .i64)) (OwnK.on (d := (Kd.int .i64)) hO7_ hb136) (by omega)), (upto_succ2 heq_ (by assumption)), (hf122.on hb136), (hf123.on hb136), rfl⟩
              · have l147 : ¬ (((i : Nat) : Int) < ((10 + (2 * (nC l)) : Nat) : Int)) := of_decide_eq_false c124
                refine w_exit rfl ?_
                refine w_seq ?_
                refine w_region ?_
                refine rw_val (v := .agg (carr (baseC l (foldR (prsOf l (nC l)))))) (w' := w_L119) rfl rfl rfl rfl (run_as (load_cell (c := (baseC l (foldR (prsOf l (nC l))))) hf122)) ?_
                refine rw_val (v := .int .i64 ((10 + (2 * (nC l)) : Nat) : Int)) (w' := w_L119) rfl rfl rfl rfl rfl ?_
                refine rw_seg (g := g1) (off := 0) (ty := 31) (p := .tmp 2) (x := .tmp 122) (v := .agg (carr (baseC l (foldR (prsOf l (nC l)))))) (cs' := carr (baseC l (foldR (prsOf l (nC l))))) rfl rfl rfl rfl rfl rfl hf123 (by show (sizeOf 31).run _ _ = .ok (carr _).size _; rw [carr_size]; kernel_rfl) (Nat.le_of_eq (by rw [Nat.zero_add]; exact (carr_size _).trans (carr_size _).symm)) (encC_one _) (seg_all CL.unit (baseC l (foldR (prsOf l (nC l))))) ?_
                intro w148 hk149 hb150
                have hs_w148 := hk149.size
                refine rw_val (v := .int .i64 ((10 + (2 * (nC l)) : Nat) : Int)) (w' := w148) rfl rfl rfl rfl rfl ?_
                refine rw_end ?_
                refine w_weaken (G' := [(2, .pointer (some ⟨g1, 0, none⟩)), (3, .int .i64 ((10 + (2 * (nC l)) : Nat) : Int))]) ⟨rfl, rfl, trivial⟩ ?_
                refine w_ret (post_retct (v := .agg (carr (baseC l (foldR (prsOf l (nC l)))))) rfl rfl rfl (load_cell (c := (baseC l (foldR (prsOf l (nC l))))) hb150) ?_)
                exact ⟨.inr ⟨_, _, take_of_again hsh_ hok_ (hv s1_) (eq_upto hlen_ s4_ (fun i_ hi_ => heq_ i_ (by omega))), rfl⟩, (hk149.below (by omega) hB_L119)⟩
      · have l151 : (65 < (l.getD 9 0)) := of_decide_eq_true c15
        refine rw_off (c := decide (65 < (l.getD 9 0))) rfl rfl rfl (by first | (rw [c15]; rfl) | simp [c15]) rfl rfl ?_
        refine rw_off (c := decide (65 < (l.getD 9 0))) rfl rfl rfl (by first | (rw [c15]; rfl) | simp [c15]) rfl rfl ?_
        refine rw_off (c := decide (65 < (l.getD 9 0))) rfl rfl rfl (by first | (rw [c15]; rfl) | simp [c15]) rfl rfl ?_
        refine rw_off (c := decide (65 < (l.getD 9 0))) rfl rfl rfl (by first | (rw [c15]; rfl) | simp [c15]) rfl rfl ?_
        refine rw_off (c := decide (65 < (l.getD 9 0))) rfl rfl rfl (by first | (rw [c15]; rfl) | simp [c15]) rfl rfl ?_
        refine rw_off (c := decide (65 < (l.getD 9 0))) rfl rfl rfl (by first | (rw [c15]; rfl) | simp [c15]) rfl rfl ?_
        refine rw_off (c := decide (65 < (l.getD 9 0))) rfl rfl rfl (by first | (rw [c15]; rfl) | simp [c15]) rfl rfl ?_
        refine rw_off (c := decide (65 < (l.getD 9 0))) rfl rfl rfl (by first | (rw [c15]; rfl) | simp [c15]) rfl rfl ?_
        refine rw_val (v := .bool true) (w' := w2) rfl rfl rfl rfl (by first | (simp [go_sem, sEv, sLook, nbeq, i64_w, -List.getD_eq_getElem?_getD, c15]; done) | (rw [c15]; simp [go_sem, sEv, sLook, nbeq, i64_w, -List.getD_eq_getElem?_getD]; done) | (simp [go_sem, sEv, sLook, nbeq, i64_w, -List.getD_eq_getElem?_getD] <;> omega) | (simp [go_sem, sEv, sLook, nbeq, i64_w, -List.getD_eq_getElem?_getD]; intro h_; exact absurd (by omega) h_)) ?_
        refine rw_end ?_
        refine w_weaken (G' := [(0, .slice (some ad9) l.length c1), (2, .pointer (some ⟨g1, 0, none⟩)), (3, .int .i64 0), (33, .bool true)]) ⟨rfl, rfl, rfl, rfl, trivial⟩ ?_
        refine w_cond_t rfl rfl rfl ?_
        refine w_seq ?_
        have hns_ : ¬ shapeC l = true := by unfold shapeC; simp only [Bool.and_eq_true, decide_eq_true_eq]; omega
        refine w_region ?_
        refine rw_val (v := .agg (carr CL.unit)) (w' := w2) rfl rfl rfl rfl (by kernel_rfl) ?_
        refine rw_seg (g := g1) (off := 0) (ty := 31) (p := .tmp 2) (x := .tmp 34) (v := .agg (carr CL.unit)) (cs' := carr CL.unit) rfl rfl rfl rfl rfl rfl hk4 (by show (sizeOf 31).run _ _ = .ok (carr _).size _; rw [carr_size]; kernel_rfl) (Nat.le_of_eq (by rw [Nat.zero_add]; exact (carr_size _).trans (carr_size _).symm)) (encC_one _) (seg_all CL.unit CL.unit) ?_
        intro w152 hk153 hb154
        have hs_w152 := hk153.size
        refine rw_val (v := .int .i64 0) (w' := w152) rfl rfl rfl rfl rfl ?_
        refine rw_end ?_
        refine w_ret (post_retct (v := .agg (carr CL.unit)) rfl rfl rfl (load_cell (c := CL.unit) hb154) ?_)
        exact ⟨.inl ⟨takeC_short hns_, rfl⟩, (hk153.below (by omega) hb3)⟩
    · have l155 : ((l.getD 9 0) < 0) := of_decide_eq_true c13
      refine rw_off (c := decide ((l.getD 9 0) < 0)) rfl rfl rfl (by first | (rw [c13]; rfl) | simp [c13]) rfl rfl ?_
      refine rw_off (c := decide ((l.getD 9 0) < 0)) rfl rfl rfl (by first | (rw [c13]; rfl) | simp [c13]) rfl rfl ?_
      refine rw_off (c := decide ((l.getD 9 0) < 0)) rfl rfl rfl (by first | (rw [c13]; rfl) | simp [c13]) rfl rfl ?_
      refine rw_off (c := decide ((l.getD 9 0) < 0)) rfl rfl rfl (by first | (rw [c13]; rfl) | simp [c13]) rfl rfl ?_
      refine rw_val (v := .bool true) (w' := w2) rfl rfl rfl rfl (by first | (simp [go_sem, sEv, sLook, nbeq, i64_w, -List.getD_eq_getElem?_getD, c13]; done) | (rw [c13]; simp [go_sem, sEv, sLook, nbeq, i64_w, -List.getD_eq_getElem?_getD]; done) | (simp [go_sem, sEv, sLook, nbeq, i64_w, -List.getD_eq_getElem?_getD] <;> omega) | (simp [go_sem, sEv, sLook, nbeq, i64_w, -List.getD_eq_getElem?_getD]; intro h_; exact absurd (by omega) h_)) ?_
      refine rw_val (v := .bool true) (w' := w2) rfl rfl rfl rfl rfl ?_
      refine rw_off (c := true) rfl rfl rfl rfl rfl rfl ?_
      refine rw_off (c := true) rfl rfl rfl rfl rfl rfl ?_
      refine rw_off (c := true) rfl rfl rfl rfl rfl rfl ?_
      refine rw_off (c := true) rfl rfl rfl rfl rfl rfl ?_
      refine rw_off (c := true) rfl rfl rfl rfl rfl rfl ?_
      refine rw_off (c := true) rfl rfl rfl rfl rfl rfl ?_
      refine rw_off (c := true) rfl rfl rfl rfl rfl rfl ?_
      refine rw_off (c := true) rfl rfl rfl rfl rfl rfl ?_
      refine rw_val (v := .bool true) (w' := w2) rfl rfl rfl rfl (by simp [go_sem, sEv, sLook, nbeq, i64_w, -List.getD_eq_getElem?_getD]) ?_
      refine rw_end ?_
      refine w_weaken (G' := [(0, .slice (some ad9) l.length c1), (2, .pointer (some ⟨g1, 0, none⟩)), (3, .int .i64 0), (33, .bool true)]) ⟨rfl, rfl, rfl, rfl, trivial⟩ ?_
      refine w_cond_t rfl rfl rfl ?_
      refine w_seq ?_
      have hns_ : ¬ shapeC l = true := by unfold shapeC; simp only [Bool.and_eq_true, decide_eq_true_eq]; omega
      refine w_region ?_
      refine rw_val (v := .agg (carr CL.unit)) (w' := w2) rfl rfl rfl rfl (by kernel_rfl) ?_
      refine rw_seg (g := g1) (off := 0) (ty := 31) (p := .tmp 2) (x := .tmp 34) (v := .agg (carr CL.unit)) (cs' := carr CL.unit) rfl rfl rfl rfl rfl rfl hk4 (by show (sizeOf 31).run _ _ = .ok (carr _).size _; rw [carr_size]; kernel_rfl) (Nat.le_of_eq (by rw [Nat.zero_add]; exact (carr_size _).trans (carr_size _).symm)) (encC_one _) (seg_all CL.unit CL.unit) ?_
      intro w156 hk157 hb158
      have hs_w156 := hk157.size
      refine rw_val (v := .int .i64 0) (w' := w156) rfl rfl rfl rfl rfl ?_
      refine rw_end ?_
      refine w_ret (post_retct (v := .agg (carr CL.unit)) rfl rfl rfl (load_cell (c := CL.unit) hb158) ?_)
      exact ⟨.inl ⟨takeC_short hns_, rfl⟩, (hk157.below (by omega) hb3)⟩
  · have l159 : (((l.length : Nat) : Int) < 10) := of_decide_eq_true c7
    refine rw_off (c := decide (((l.length : Nat) : Int) < 10)) rfl rfl rfl (by first | (rw [c7]; rfl) | simp [c7]) rfl rfl ?_
    refine rw_off (c := decide (((l.length : Nat) : Int) < 10)) rfl rfl rfl (by first | (rw [c7]; rfl) | simp [c7]) rfl rfl ?_
    refine rw_off (c := decide (((l.length : Nat) : Int) < 10)) rfl rfl rfl (by first | (rw [c7]; rfl) | simp [c7]) rfl rfl ?_
    refine rw_off (c := decide (((l.length : Nat) : Int) < 10)) rfl rfl rfl (by first | (rw [c7]; rfl) | simp [c7]) rfl rfl ?_
    refine rw_val (v := .bool true) (w' := w2) rfl rfl rfl rfl (by first | (simp [go_sem, sEv, sLook, nbeq, i64_w, -List.getD_eq_getElem?_getD, c7]; done) | (rw [c7]; simp [go_sem, sEv, sLook, nbeq, i64_w, -List.getD_eq_getElem?_getD]; done) | (simp [go_sem, sEv, sLook, nbeq, i64_w, -List.getD_eq_getElem?_getD] <;> omega) | (simp [go_sem, sEv, sLook, nbeq, i64_w, -List.getD_eq_getElem?_getD]; intro h_; exact absurd (by omega) h_)) ?_
    refine rw_val (v := .bool true) (w' := w2) rfl rfl rfl rfl rfl ?_
    refine rw_off (c := true) rfl rfl rfl rfl rfl rfl ?_
    refine rw_off (c := true) rfl rfl rfl rfl rfl rfl ?_
    refine rw_off (c := true) rfl rfl rfl rfl rfl rfl ?_
    refine rw_off (c := true) rfl rfl rfl rfl rfl rfl ?_
    refine rw_val (v := .bool true) (w' := w2) rfl rfl rfl rfl (by simp [go_sem, sEv, sLook, nbeq, i64_w, -List.getD_eq_getElem?_getD]) ?_
    refine rw_val (v := .bool true) (w' := w2) rfl rfl rfl rfl rfl ?_
    refine rw_off (c := true) rfl rfl rfl rfl rfl rfl ?_
    refine rw_off (c := true) rfl rfl rfl rfl rfl rfl ?_
    refine rw_off (c := true) rfl rfl rfl rfl rfl rfl ?_
    refine rw_off (c := true) rfl rfl rfl rfl rfl rfl ?_
    refine rw_off (c := true) rfl rfl rfl rfl rfl rfl ?_
    refine rw_off (c := true) rfl rfl rfl rfl rfl rfl ?_
    refine rw_off (c := true) rfl rfl rfl rfl rfl rfl ?_
    refine rw_off (c := true) rfl rfl rfl rfl rfl rfl ?_
    refine rw_val (v := .bool true) (w' := w2) rfl rfl rfl rfl (by simp [go_sem, sEv, sLook, nbeq, i64_w, -List.getD_eq_getElem?_getD]) ?_
    refine rw_end ?_
    refine w_weaken (G' := [(0, .slice A1 l.length c1), (2, .pointer (some ⟨g1, 0, none⟩)), (3, .int .i64 0), (33, .bool true)]) ⟨rfl, rfl, rfl, rfl, trivial⟩ ?_
    refine w_cond_t rfl rfl rfl ?_
    refine w_seq ?_
    have hns_ : ¬ shapeC l = true := by unfold shapeC; simp only [Bool.and_eq_true, decide_eq_true_eq]; omega
    refine w_region ?_
    refine rw_val (v := .agg (carr CL.unit)) (w' := w2) rfl rfl rfl rfl (by kernel_rfl) ?_
    refine rw_seg (g := g1) (off := 0) (ty := 31) (p := .tmp 2) (x := .tmp 34) (v := .agg (carr CL.unit)) (cs' := carr CL.unit) rfl rfl rfl rfl rfl rfl hk4 (by show (sizeOf 31).run _ _ = .ok (carr _).size _; rw [carr_size]; kernel_rfl) (Nat.le_of_eq (by rw [Nat.zero_add]; exact (carr_size _).trans (carr_size _).symm)) (encC_one _) (seg_all CL.unit CL.unit) ?_
    intro w160 hk161 hb162
    have hs_w160 := hk161.size
    refine rw_val (v := .int .i64 0) (w' := w160) rfl rfl rfl rfl rfl ?_
    refine rw_end ?_
    refine w_ret (post_retct (v := .agg (carr CL.unit)) rfl rfl rfl (load_cell (c := CL.unit) hb162) ?_)
    exact ⟨.inl ⟨takeC_short hns_, rfl⟩, (hk161.below (by omega) hb3)⟩
end Go.Proofs.Ytheaipbnbnjlgaa.Ce
