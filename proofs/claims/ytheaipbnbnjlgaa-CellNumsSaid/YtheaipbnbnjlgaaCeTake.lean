/- Which numbers begin with a cell: cell.Take, the walk. -/
import Derived.Test.YtheaipbnbnjlgaaCeTake0
import Derived.Shelf.Abstract
namespace Go.Proofs.Ytheaipbnbnjlgaa.Ce
open Go.RowKit Go.Proofs.YtheaipbnbnjlgaaW.PrintWords Go.Proofs.YtheaipbnbnjlgaaW.PrintLast Go.Proofs.YtheaipbnbnjlgaaW.PrintMore
open Go.Proofs.Ytheaipbnbnjlgaa.Flow
set_option linter.unusedVariables false
set_option linter.unusedSimpArgs false
open Go.Shelf

abbrev pairA (l : List Int) (i : Nat) : Int × Int := (l.getD (10 + 2 * i) 0, l.getD (10 + 2 * i + 1) 0)
theorem prs_fin (l : List Int) (n : Nat) : (List.finRange n).map (fun x => pairA l x.val) = prsOf l n := by
  unfold prsOf
  apply List.ext_getElem
  · simp
  · intro i h1 h2
    simp
theorem chunk_row {w : World} {A : Option Addr} {c n : Nat} {l : List Int} (hX : (Kd.int .i64).C w A ((l.take (10 + 2 * n)).drop 10).length ((l.take (10 + 2 * n)).drop 10)) (hl : 10 + 2 * n ≤ l.length) (hc : 2 * n ≤ c) (i : Nat) (hi : i < n) :
    (Kd.int .i64).C w (A.map (·.add (2 * i * 1))) 2 [l.getD (10 + 2 * i) 0, l.getD (10 + 2 * i + 1) 0] := by
  have hle : ((l.take (10 + 2 * n)).drop 10).length = 2 * n := by rw [List.length_drop, List.length_take]; omega
  have h := Kd.C_mid (lo := 2 * i) (hi := 2 * i + 2) (c := c) hX (by omega) (by rw [hle]; omega) (by rw [hle]; omega)
  have e1 : ((((l.take (10 + 2 * n)).drop 10).take (2 * i + 2)).drop (2 * i)) = [l.getD (10 + 2 * i) 0, l.getD (10 + 2 * i + 1) 0] := by
    apply List.ext_getElem?
    intro j
    rw [List.getElem?_drop, List.getElem?_take, List.getElem?_drop, List.getElem?_take]
    match j with
    | 0 => rw [if_pos (by omega), if_pos (by omega)]; simp only [List.getElem?_cons_zero, List.getD_eq_getElem?_getD, Nat.add_zero]; rw [List.getElem?_eq_getElem (by omega)]; rfl
    | 1 => rw [if_pos (by omega), if_pos (by omega)]; simp only [List.getElem?_cons_succ, List.getElem?_cons_zero, List.getD_eq_getElem?_getD]; rw [show 10 + (2 * i + 1) = 10 + 2 * i + 1 by omega, List.getElem?_eq_getElem (by omega)]; rfl
    | j + 2 => rw [if_neg (by omega)]; rfl
  rw [e1] at h
  rw [if_neg (by omega)] at h
  exact h
/-- Between two rounds: what has been read. -/
def TI (l : List Int) (w : World) (B g2 g3 g4 gc gl : Nat) {k : Nat} (pre : List (Fin k)) (V : World) : Prop :=
  ∃ last h, foldT (pre.map (fun x => pairA l x.val)) = some (last, h) ∧ Blk V gc 31 (carr (baseC l h)) ∧ Blk V gl 3 #[.int .i64 last] ∧ Blk V g2 31 (carr CL.unit) ∧ Blk V g3 38 #[.slice none 0 0] ∧ Blk V g4 4 #[.bool false] ∧ Below w.heap.size w V ∧ B ≤ V.heap.size
def TX (l : List Int) (w : World) (B g2 g3 g4 : Nat) {k : Nat} (pre : List (Fin k)) (V : World) : Prop :=
  foldT (pre.map (fun x => pairA l x.val)) = none ∧ Blk V g2 31 (carr CL.unit) ∧ Blk V g3 38 #[.slice none 0 0] ∧ Blk V g4 4 #[.bool false] ∧ Below w.heap.size w V ∧ B ≤ V.heap.size
theorem ti_own {l : List Int} {w : World} {B g2 g3 g4 gc gl k : Nat} (hB : w.heap.size ≤ B) : OwnFrom B (fun (pre : List (Fin k)) V => TI l w B g2 g3 g4 gc gl pre V) := by
  rintro pre V V' row ⟨last, h, h1, h2, h3, h4, h5, h6, h7, h8⟩ hg hr
  exact ⟨last, h, h1, blk_turned h2 hg hr, blk_turned h3 hg hr, blk_turned h4 hg hr, blk_turned h5 hg hr, blk_turned h6 hg hr, h7.grown hg (Nat.le_trans (Nat.le_refl _) h7.size) (fun q e => Nat.le_trans hB (hr q e).1), Nat.le_trans h8 hg.size⟩
theorem tx_own {l : List Int} {w : World} {B g2 g3 g4 k : Nat} (hB : w.heap.size ≤ B) : OwnFrom B (fun (pre : List (Fin k)) V => TX l w B g2 g3 g4 pre V) := by
  rintro pre V V' row ⟨h1, h4, h5, h6, h7, h8⟩ hg hr
  exact ⟨h1, blk_turned h4 hg hr, blk_turned h5 hg hr, blk_turned h6 hg hr, h7.grown hg (Nat.le_trans (Nat.le_refl _) h7.size) (fun q e => Nat.le_trans hB (hr q e).1), Nat.le_trans h8 hg.size⟩
theorem fold_part {l : List Int} {n i : Nat} (h : foldT (((List.finRange n).take i).map (fun x => pairA l x.val)) = none) : foldT (prsOf l n) = none := by
  rw [← prs_fin]
  have e : (List.finRange n).map (fun x => pairA l x.val) = ((List.finRange n).take i).map (fun x => pairA l x.val) ++ ((List.finRange n).drop i).map (fun x => pairA l x.val) := by rw [← List.map_append, List.take_append_drop]
  rw [e]
  exact foldT_pre _ _ h
theorem takeC_none {l : List Int} (hs : shapeC l = true) (h : foldT (prsOf l (nC l)) = none) : takeC l = none := by unfold takeC; rw [if_pos hs, h]
theorem takeC_short {l : List Int} (hs : ¬ shapeC l = true) : takeC l = none := by unfold takeC; rw [if_neg hs]
theorem takeC_some {l : List Int} (hs : shapeC l = true) {last : Int} {h : Fin 65 → Int} (e : foldT (prsOf l (nC l)) = some (last, h)) : takeC l = some (baseC l h, l.drop (10 + 2 * nC l)) := by unfold takeC; rw [if_pos hs, e]
theorem cast_toNat {x : Int} (h : 0 ≤ x) : ((x.toNat : Nat) : Int) = x := Int.toNat_of_nonneg h
set_option maxHeartbeats 4000000 in
theorem take_calls (w : World) (A1 : Option Addr) (c1 : Nat) (l : List Int) (hl : (Kd.int .i64).C w A1 l.length l) (hc : l.length ≤ c1) (hln : l.length ≤ 100000) :
    Calls Try.prog 21 #[.slice A1 l.length c1] w fun e w' => (takeC l = none ∧ e = .returned (.tuple #[.agg (carr CL.unit), .slice none 0 0, .bool false]) ∨ ∃ c r A' c', takeC l = some (c, r) ∧ e = .returned (.tuple #[.agg (carr c), .slice A' r.length c', .bool true]) ∧ OwnK (Kd.int .i64) 3 w' w.heap.size w.heap.size A' r.length c' r) ∧ Below w.heap.size w w' := by
  refine calls_flowM Try.func21 rfl 101 rfl (Nat.le_of_ble_eq_true rfl) [(0, .slice A1 l.length c1)] ?_ ?_
  · intro t v h; exact args_look rfl t v h
  refine w_seq ?_
  refine w_region ?_
  refine rw_new (cs := carr CL.unit) (t := 31) (fun g => .pointer (some ⟨g, 0, none⟩)) rfl rfl rfl rfl (by kernel_rfl) ?_
  intro g1 w2 hg6 hz5 hb3 hk4
  have hs_w2 := hb3.size
  refine rw_new (cs := #[.slice none 0 0]) (t := 38) (fun g => .pointer (some ⟨g, 0, none⟩)) rfl rfl rfl rfl (by kernel_rfl) ?_
  intro g7 w8 hg12 hz11 hb9 hk10
  have hs_w8 := hb9.size
  refine rw_new (cs := #[.bool false]) (t := 4) (fun g => .pointer (some ⟨g, 0, none⟩)) rfl rfl rfl rfl (by kernel_rfl) ?_
  intro g13 w14 hg18 hz17 hb15 hk16
  have hs_w14 := hb15.size
  refine rw_end ?_
  refine w_seq ?_
  refine w_seq ?_
  refine w_region ?_
  refine rw_val (v := .slice A1 l.length c1) (w' := w14) rfl rfl rfl rfl rfl ?_
  refine rw_val (v := .int .i64 ((l.length : Nat) : Int)) (w' := w14) rfl rfl rfl rfl (by simp [go_sem, sEv, sLook, nbeq, i64_w, -List.getD_eq_getElem?_getD]) ?_
  refine rw_val (v := .bool (decide (((l.length : Nat) : Int) < 10))) (w' := w14) rfl rfl rfl rfl (by simp [go_sem, sEv, sLook, nbeq, i64_w, -List.getD_eq_getElem?_getD]) ?_
  refine rw_end ?_
  refine w_cond rfl rfl (fun c19 => ?_) (fun c19 => ?_)
  · have l20 : (((l.length : Nat) : Int) < 10) := of_decide_eq_true c19
    refine w_seq ?_
    have hns_ : ¬ shapeC l = true := by unfold shapeC; simp only [Bool.and_eq_true, decide_eq_true_eq]; omega
    refine w_region ?_
    refine rw_call rfl rfl rfl rfl (f := 14) (args := #[]) (by simp [go_sem, sEv, sLook, nbeq, i64_w, -List.getD_eq_getElem?_getD]) (unit_calls w14) ?_
    rintro e_ w21 ⟨rfl, hb22⟩
    refine ⟨_, rfl, ?_⟩
    have hs_w21 := hb22.size
    refine rw_seg (g := g1) (off := 0) (ty := 31) (p := .tmp 2) (x := .tmp 14) (v := .agg (carr CL.unit)) (cs' := carr CL.unit) rfl rfl rfl rfl rfl rfl (((hk4.on hb9).on hb15).on hb22) (by show (sizeOf 31).run _ _ = .ok (carr _).size _; rw [carr_size]; kernel_rfl) (Nat.le_of_eq (by rw [Nat.zero_add]; exact (carr_size _).trans (carr_size _).symm)) (encC_one _) (seg_all CL.unit CL.unit) ?_
    intro w23 hk24 hb25
    have hs_w23 := hk24.size
    have hb29 := (((hk10.on hb15).on hb22).keep hk24 (by omega))
    refine rw_store (g := g7) (i := 0) (l := [.slice none 0 0]) (cs' := #[.slice none 0 0]) rfl rfl rfl hb29 rfl (by have e0_ := hb29.cellv (i := 0) (v := (.slice none 0 0 : Value)) rfl; have f0_ := hb29.frozen 0; simp [go_sem, sEv, sLook, nbeq, i64_w, -List.getD_eq_getElem?_getD, putCells, e0_, f0_, Try.underlying38]) ?_
    intro w26 hk27 hk28
    have hs_w26 := hk27.size
    have hb33 := (((hk16.on hb22).keep hk24 (by omega)).keep hk27 (by omega))
    refine rw_store (g := g13) (i := 0) (l := [.bool false]) (cs' := #[.bool false]) rfl rfl rfl hb33 rfl (by have e0_ := hb33.cellv (i := 0) (v := (.bool false : Value)) rfl; have f0_ := hb33.frozen 0; simp [go_sem, sEv, sLook, nbeq, i64_w, -List.getD_eq_getElem?_getD, putCells, e0_, f0_]) ?_
    intro w30 hk31 hk32
    have hs_w30 := hk31.size
    refine rw_end ?_
    refine w_weaken (G' := [(0, .slice A1 l.length c1), (2, .pointer (some ⟨g1, 0, none⟩)), (3, .pointer (some ⟨g7, 0, none⟩)), (4, .pointer (some ⟨g13, 0, none⟩))]) ⟨rfl, rfl, rfl, rfl, trivial⟩ ?_
    refine w_ret (postM (Gs := []) (post_ret3c (v1 := .agg (carr CL.unit)) (v2 := (.slice none 0 0 : Value)) (v3 := (.bool false : Value)) rfl rfl rfl rfl (load_cell (c := CL.unit) ((hb25.keep hk27 (by omega)).keep hk31 (by omega))) (load_one (by kernel_rfl) (hk28.keep hk31 (by omega))) (load_one (by kernel_rfl) hk32) ?_))
    exact ⟨.inl ⟨takeC_short hns_, rfl⟩, (hk31.below (by omega) (hk27.below (by omega) (hk24.below (by omega) (chain (chain (chain hb3 hb9) hb15) hb22))))⟩
  · have l34 : ¬ (((l.length : Nat) : Int) < 10) := of_decide_eq_false c19
    refine w_skip ?_
    refine w_seq ?_
    refine w_region ?_
    refine rw_val (v := .slice A1 l.length c1) (w' := w14) rfl rfl rfl rfl rfl ?_
    obtain ⟨ad35, hA36, hc37⟩ := int_at (Kd.C_below hl (chain (chain hb3 hb9) hb15)) 0 9 (by first | omega | decide)
    subst hA36
    have he38 : w14.cell? ⟨ad35.block, ad35.off + 9, none⟩ = some (.int .i64 (l.getD 9 0)) := cell_lit (cell_0 (hc37 0 _ rfl)) (by decide)
    refine rw_val (v := .pointer (some (ad35.add (9)))) (w' := w14) rfl rfl rfl rfl (run_as (run_at_1 (P := Try.prog) (e := 3) (by kernel_rfl) (by kernel_rfl) 9 (by first | omega | decide) _)) ?_
    refine rw_val (v := .int .i64 (l.getD 9 0)) (w' := w14) rfl rfl rfl rfl (by have e0_ := cellOn he38 (Below.refl _ _); simp [go_sem, sEv, sLook, nbeq, i64_w, -List.getD_eq_getElem?_getD, e0_]) ?_
    refine rw_val (v := .int .i64 (l.getD 9 0)) (w' := w14) rfl rfl rfl rfl rfl ?_
    refine rw_end ?_
    refine w_weaken (G' := [(0, .slice (some ad35) l.length c1), (2, .pointer (some ⟨g1, 0, none⟩)), (3, .pointer (some ⟨g7, 0, none⟩)), (4, .pointer (some ⟨g13, 0, none⟩)), (5, .int .i64 (l.getD 9 0))]) ⟨rfl, rfl, rfl, rfl, rfl, trivial⟩ ?_
    refine w_seq ?_
    refine w_seq ?_
    refine w_region ?_
    refine rw_val (v := .int .i64 (l.getD 9 0)) (w' := w14) rfl rfl rfl rfl rfl ?_
    refine rw_val (v := .bool (decide ((l.getD 9 0) < 0))) (w' := w14) rfl rfl rfl rfl (by simp [go_sem, sEv, sLook, nbeq, i64_w, -List.getD_eq_getElem?_getD]) ?_
    refine rw_val (v := .bool (decide ((l.getD 9 0) < 0))) (w' := w14) rfl rfl rfl rfl rfl ?_
    rcases bcase (decide ((l.getD 9 0) < 0)) with c39 | c39
    · have l40 : ¬ ((l.getD 9 0) < 0) := of_decide_eq_false c39
      refine rw_on (c := decide ((l.getD 9 0) < 0)) rfl rfl rfl (by first | (rw [c39]; rfl) | simp [c39]) ?_
      refine rw_val (v := .int .i64 (l.getD 9 0)) (w' := w14) rfl rfl rfl rfl rfl ?_
      refine rw_on (c := decide ((l.getD 9 0) < 0)) rfl rfl rfl (by first | (rw [c39]; rfl) | simp [c39]) ?_
      refine rw_val (v := .bool (decide (65 < (l.getD 9 0)))) (w' := w14) rfl rfl rfl rfl (by simp [go_sem, sEv, sLook, nbeq, i64_w, -List.getD_eq_getElem?_getD]) ?_
      refine rw_val (v := .bool (decide (65 < (l.getD 9 0)))) (w' := w14) rfl rfl rfl rfl (by first | (simp [go_sem, sEv, sLook, nbeq, i64_w, -List.getD_eq_getElem?_getD, c39]; done) | (rw [c39]; simp [go_sem, sEv, sLook, nbeq, i64_w, -List.getD_eq_getElem?_getD]; done) | (simp [go_sem, sEv, sLook, nbeq, i64_w, -List.getD_eq_getElem?_getD] <;> omega) | (simp [go_sem, sEv, sLook, nbeq, i64_w, -List.getD_eq_getElem?_getD]; intro h_; exact absurd (by omega) h_)) ?_
      refine rw_val (v := .bool (decide (65 < (l.getD 9 0)))) (w' := w14) rfl rfl rfl rfl rfl ?_
      rcases bcase (decide (65 < (l.getD 9 0))) with c41 | c41
      · have l42 : ¬ (65 < (l.getD 9 0)) := of_decide_eq_false c41
        refine rw_on (c := decide (65 < (l.getD 9 0))) rfl rfl rfl (by first | (rw [c41]; rfl) | simp [c41]) ?_
        refine rw_val (v := .int .i64 (l.getD 9 0)) (w' := w14) rfl rfl rfl rfl rfl ?_
        refine rw_on (c := decide (65 < (l.getD 9 0))) rfl rfl rfl (by first | (rw [c41]; rfl) | simp [c41]) ?_
        refine rw_val (v := .int .i64 (2 * (l.getD 9 0))) (w' := w14) rfl rfl rfl rfl (by simp [go_sem, sEv, sLook, nbeq, i64_w, -List.getD_eq_getElem?_getD]; exact wrap_id (by omega) (by omega)) ?_
        refine rw_on (c := decide (65 < (l.getD 9 0))) rfl rfl rfl (by first | (rw [c41]; rfl) | simp [c41]) ?_
        refine rw_val (v := .slice (some ad35) l.length c1) (w' := w14) rfl rfl rfl rfl rfl ?_
        refine rw_on (c := decide (65 < (l.getD 9 0))) rfl rfl rfl (by first | (rw [c41]; rfl) | simp [c41]) ?_
        refine rw_val (v := .int .i64 ((l.length : Nat) : Int)) (w' := w14) rfl rfl rfl rfl (by simp [go_sem, sEv, sLook, nbeq, i64_w, -List.getD_eq_getElem?_getD]) ?_
        refine rw_on (c := decide (65 < (l.getD 9 0))) rfl rfl rfl (by first | (rw [c41]; rfl) | simp [c41]) ?_
        refine rw_val (v := .int .i64 (((l.length : Nat) : Int) - 10)) (w' := w14) rfl rfl rfl rfl (by simp [go_sem, sEv, sLook, nbeq, i64_w, -List.getD_eq_getElem?_getD]; exact wrap_id (by omega) (by omega)) ?_
        refine rw_on (c := decide (65 < (l.getD 9 0))) rfl rfl rfl (by first | (rw [c41]; rfl) | simp [c41]) ?_
        refine rw_val (v := .bool (decide ((((l.length : Nat) : Int) - 10) < (2 * (l.getD 9 0))))) (w' := w14) rfl rfl rfl rfl (by simp [go_sem, sEv, sLook, nbeq, i64_w, -List.getD_eq_getElem?_getD]) ?_
        refine rw_val (v := .bool (decide ((((l.length : Nat) : Int) - 10) < (2 * (l.getD 9 0))))) (w' := w14) rfl rfl rfl rfl (by first | (simp [go_sem, sEv, sLook, nbeq, i64_w, -List.getD_eq_getElem?_getD, c41]; done) | (rw [c41]; simp [go_sem, sEv, sLook, nbeq, i64_w, -List.getD_eq_getElem?_getD]; done) | (simp [go_sem, sEv, sLook, nbeq, i64_w, -List.getD_eq_getElem?_getD] <;> omega) | (simp [go_sem, sEv, sLook, nbeq, i64_w, -List.getD_eq_getElem?_getD]; intro h_; exact absurd (by omega) h_)) ?_
        refine rw_end ?_
        refine w_weaken (G' := [(0, .slice (some ad35) l.length c1), (2, .pointer (some ⟨g1, 0, none⟩)), (3, .pointer (some ⟨g7, 0, none⟩)), (4, .pointer (some ⟨g13, 0, none⟩)), (5, .int .i64 (l.getD 9 0)), (31, .bool (decide ((((l.length : Nat) : Int) - 10) < (2 * (l.getD 9 0)))))]) ⟨rfl, rfl, rfl, rfl, rfl, rfl, trivial⟩ ?_
        refine w_cond rfl rfl (fun c43 => ?_) (fun c43 => ?_)
        · have l44 : ((((l.length : Nat) : Int) - 10) < (2 * (l.getD 9 0))) := of_decide_eq_true c43
          refine w_seq ?_
          have hns_ : ¬ shapeC l = true := by unfold shapeC; simp only [Bool.and_eq_true, decide_eq_true_eq]; omega
          refine w_region ?_
          refine rw_call rfl rfl rfl rfl (f := 14) (args := #[]) (by simp [go_sem, sEv, sLook, nbeq, i64_w, -List.getD_eq_getElem?_getD]) (unit_calls w14) ?_
          rintro e_ w45 ⟨rfl, hb46⟩
          refine ⟨_, rfl, ?_⟩
          have hs_w45 := hb46.size
          refine rw_seg (g := g1) (off := 0) (ty := 31) (p := .tmp 2) (x := .tmp 32) (v := .agg (carr CL.unit)) (cs' := carr CL.unit) rfl rfl rfl rfl rfl rfl (((hk4.on hb9).on hb15).on hb46) (by show (sizeOf 31).run _ _ = .ok (carr _).size _; rw [carr_size]; kernel_rfl) (Nat.le_of_eq (by rw [Nat.zero_add]; exact (carr_size _).trans (carr_size _).symm)) (encC_one _) (seg_all CL.unit CL.unit) ?_
          intro w47 hk48 hb49
          have hs_w47 := hk48.size
          have hb53 := (((hk10.on hb15).on hb46).keep hk48 (by omega))
          refine rw_store (g := g7) (i := 0) (l := [.slice none 0 0]) (cs' := #[.slice none 0 0]) rfl rfl rfl hb53 rfl (by have e0_ := hb53.cellv (i := 0) (v := (.slice none 0 0 : Value)) rfl; have f0_ := hb53.frozen 0; simp [go_sem, sEv, sLook, nbeq, i64_w, -List.getD_eq_getElem?_getD, putCells, e0_, f0_, Try.underlying38]) ?_
          intro w50 hk51 hk52
          have hs_w50 := hk51.size
          have hb57 := (((hk16.on hb46).keep hk48 (by omega)).keep hk51 (by omega))
          refine rw_store (g := g13) (i := 0) (l := [.bool false]) (cs' := #[.bool false]) rfl rfl rfl hb57 rfl (by have e0_ := hb57.cellv (i := 0) (v := (.bool false : Value)) rfl; have f0_ := hb57.frozen 0; simp [go_sem, sEv, sLook, nbeq, i64_w, -List.getD_eq_getElem?_getD, putCells, e0_, f0_]) ?_
          intro w54 hk55 hk56
          have hs_w54 := hk55.size
          refine rw_end ?_
          refine w_weaken (G' := [(0, .slice (some ad35) l.length c1), (2, .pointer (some ⟨g1, 0, none⟩)), (3, .pointer (some ⟨g7, 0, none⟩)), (4, .pointer (some ⟨g13, 0, none⟩)), (5, .int .i64 (l.getD 9 0))]) ⟨rfl, rfl, rfl, rfl, rfl, trivial⟩ ?_
          refine w_ret (postM (Gs := []) (post_ret3c (v1 := .agg (carr CL.unit)) (v2 := (.slice none 0 0 : Value)) (v3 := (.bool false : Value)) rfl rfl rfl rfl (load_cell (c := CL.unit) ((hb49.keep hk51 (by omega)).keep hk55 (by omega))) (load_one (by kernel_rfl) (hk52.keep hk55 (by omega))) (load_one (by kernel_rfl) hk56) ?_))
          exact ⟨.inl ⟨takeC_short hns_, rfl⟩, (hk55.below (by omega) (hk51.below (by omega) (hk48.below (by omega) (chain (chain (chain hb3 hb9) hb15) hb46))))⟩
        · have l58 : ¬ ((((l.length : Nat) : Int) - 10) < (2 * (l.getD 9 0))) := of_decide_eq_false c43
          refine w_skip ?_
          refine w_seq ?_
          have hsh_ : shapeC l = true := by unfold shapeC; simp only [Bool.and_eq_true, decide_eq_true_eq]; omega
          obtain ⟨s1_, s2_, s3_, s4_⟩ := shape_spec hsh_
          have s5_ : ((l.take (10 + 2 * nC l)).drop 10).length = 2 * nC l := by rw [List.length_drop, List.length_take]; omega
          obtain ⟨ad59, hA60, hc61⟩ := int_at (Kd.C_below hl (chain (chain hb3 hb9) hb15)) 0 0 (by first | omega | decide)
          obtain rfl := Option.some.inj hA60
          have he62 : w14.cell? (ad35) = some (.int .i64 (l.getD 0 0)) := cell_00 (hc61 0 _ rfl)
          obtain ⟨ad63, hA64, hc65⟩ := int_at (Kd.C_below hl (chain (chain hb3 hb9) hb15)) 0 1 (by first | omega | decide)
          obtain rfl := Option.some.inj hA64
          have he66 : w14.cell? ⟨ad35.block, ad35.off + 1, none⟩ = some (.int .i64 (l.getD 1 0)) := cell_lit (cell_0 (hc65 0 _ rfl)) (by decide)
          obtain ⟨ad67, hA68, hc69⟩ := int_at (Kd.C_below hl (chain (chain hb3 hb9) hb15)) 0 2 (by first | omega | decide)
          obtain rfl := Option.some.inj hA68
          have he70 : w14.cell? ⟨ad35.block, ad35.off + 2, none⟩ = some (.int .i64 (l.getD 2 0)) := cell_lit (cell_0 (hc69 0 _ rfl)) (by decide)
          obtain ⟨ad71, hA72, hc73⟩ := int_at (Kd.C_below hl (chain (chain hb3 hb9) hb15)) 0 3 (by first | omega | decide)
          obtain rfl := Option.some.inj hA72
          have he74 : w14.cell? ⟨ad35.block, ad35.off + 3, none⟩ = some (.int .i64 (l.getD 3 0)) := cell_lit (cell_0 (hc73 0 _ rfl)) (by decide)
          obtain ⟨ad75, hA76, hc77⟩ := int_at (Kd.C_below hl (chain (chain hb3 hb9) hb15)) 0 4 (by first | omega | decide)
          obtain rfl := Option.some.inj hA76
          have he78 : w14.cell? ⟨ad35.block, ad35.off + 4, none⟩ = some (.int .i64 (l.getD 4 0)) := cell_lit (cell_0 (hc77 0 _ rfl)) (by decide)
          obtain ⟨ad79, hA80, hc81⟩ := int_at (Kd.C_below hl (chain (chain hb3 hb9) hb15)) 0 5 (by first | omega | decide)
          obtain rfl := Option.some.inj hA80
          have he82 : w14.cell? ⟨ad35.block, ad35.off + 5, none⟩ = some (.int .i64 (l.getD 5 0)) := cell_lit (cell_0 (hc81 0 _ rfl)) (by decide)
          obtain ⟨ad83, hA84, hc85⟩ := int_at (Kd.C_below hl (chain (chain hb3 hb9) hb15)) 0 6 (by first | omega | decide)
          obtain rfl := Option.some.inj hA84
          have he86 : w14.cell? ⟨ad35.block, ad35.off + 6, none⟩ = some (.int .i64 (l.getD 6 0)) := cell_lit (cell_0 (hc85 0 _ rfl)) (by decide)
          obtain ⟨ad87, hA88, hc89⟩ := int_at (Kd.C_below hl (chain (chain hb3 hb9) hb15)) 0 7 (by first | omega | decide)
          obtain rfl := Option.some.inj hA88
          have he90 : w14.cell? ⟨ad35.block, ad35.off + 7, none⟩ = some (.int .i64 (l.getD 7 0)) := cell_lit (cell_0 (hc89 0 _ rfl)) (by decide)
          obtain ⟨ad91, hA92, hc93⟩ := int_at (Kd.C_below hl (chain (chain hb3 hb9) hb15)) 0 8 (by first | omega | decide)
          obtain rfl := Option.some.inj hA92
          have he94 : w14.cell? ⟨ad35.block, ad35.off + 8, none⟩ = some (.int .i64 (l.getD 8 0)) := cell_lit (cell_0 (hc93 0 _ rfl)) (by decide)
          refine w_drawk (M := [0, 1, 3, 0, 8, 24, 0, 64, 192, 448, 1016, 0, 2048, 6144, 0, 16384, 49152, 0, 131072, 393216, 0, 1048576, 3145728, 0, 8388608, 25165824, 0, 67108864, 201326592, 536739840, 1073741823, 0, 4294967295]) (ss := [Is (.slice (some ad35) l.length c1), Is (.pointer (some (ad35))), Is (.int .i64 (l.getD 0 0)), Is (.slice (some ad35) l.length c1), Is (.pointer (some (ad35.add (1)))), Is (.int .i64 (l.getD 1 0)), Is (.slice (some ad35) l.length c1), Is (.pointer (some (ad35.add (2)))), Is (.int .i64 (l.getD 2 0)), Is (.int .u64 (l.getD 2 0 % 18446744073709551616)), Is (.agg #[.int .i64 (l.getD 1 0), .int .u64 (l.getD 2 0 % 18446744073709551616)]), Is (.slice (some ad35) l.length c1), Is (.pointer (some (ad35.add (3)))), Is (.int .i64 (l.getD 3 0)), Is (.slice (some ad35) l.length c1), Is (.pointer (some (ad35.add (4)))), Is (.int .i64 (l.getD 4 0)), Is (.slice (some ad35) l.length c1), Is (.pointer (some (ad35.add (5)))), Is (.int .i64 (l.getD 5 0)), Is (.slice (some ad35) l.length c1), Is (.pointer (some (ad35.add (6)))), Is (.int .i64 (l.getD 6 0)), Is (.slice (some ad35) l.length c1), Is (.pointer (some (ad35.add (7)))), Is (.int .i64 (l.getD 7 0)), Is (.slice (some ad35) l.length c1), Is (.pointer (some (ad35.add (8)))), Is (.int .i64 (l.getD 8 0)), Is (.agg #[.int .i64 (l.getD 5 0), .int .i64 (l.getD 6 0), .int .i64 (l.getD 7 0), .int .i64 (l.getD 8 0)]), Is (.agg (carr (⟨(l.getD 0 0), (l.getD 1 0), (l.getD 2 0 % 18446744073709551616), (l.getD 3 0), (l.getD 4 0), (l.getD 5 0), (l.getD 6 0), (l.getD 7 0), (l.getD 8 0), (fun _ => 0)⟩ : CL))), BlkSpec w14.heap.size 31 (carr CL.unit)]) 32 rfl (by decide +kernel) ?_
          refine t_is (.slice (some ad35) l.length c1) rfl rfl rfl rfl (fun W_ hW_ F_ => rfl) ?_
          refine t_is (.pointer (some (ad35))) rfl rfl rfl rfl (fun W_ hW_ F_ => (run_as (run_at_z (P := Try.prog) (e := 3) (sz := 1) (by kernel_rfl) (by kernel_rfl)  (by first | omega | decide) _))) ?_
          refine t_is (.int .i64 (l.getD 0 0)) rfl rfl rfl rfl (fun W_ hW_ F_ => by have e0_ := cellOn he62 (below_of_drew hW_); simp [go_sem, sEv, sLook, nbeq, i64_w, -List.getD_eq_getElem?_getD, e0_]) ?_
          refine t_is (.slice (some ad35) l.length c1) rfl rfl rfl rfl (fun W_ hW_ F_ => rfl) ?_
          refine t_is (.pointer (some (ad35.add (1)))) rfl rfl rfl rfl (fun W_ hW_ F_ => (run_as (run_at_1 (P := Try.prog) (e := 3) (by kernel_rfl) (by kernel_rfl) 1 (by first | omega | decide) _))) ?_
          refine t_is (.int .i64 (l.getD 1 0)) rfl rfl rfl rfl (fun W_ hW_ F_ => by have e0_ := cellOn he66 (below_of_drew hW_); simp [go_sem, sEv, sLook, nbeq, i64_w, -List.getD_eq_getElem?_getD, e0_]) ?_
          refine t_is (.slice (some ad35) l.length c1) rfl rfl rfl rfl (fun W_ hW_ F_ => rfl) ?_
          refine t_is (.pointer (some (ad35.add (2)))) rfl rfl rfl rfl (fun W_ hW_ F_ => (run_as (run_at_1 (P := Try.prog) (e := 3) (by kernel_rfl) (by kernel_rfl) 2 (by first | omega | decide) _))) ?_
          refine t_is (.int .i64 (l.getD 2 0)) rfl rfl rfl rfl (fun W_ hW_ F_ => by have e0_ := cellOn he70 (below_of_drew hW_); simp [go_sem, sEv, sLook, nbeq, i64_w, -List.getD_eq_getElem?_getD, e0_]) ?_
          refine t_is (.int .u64 (l.getD 2 0 % 18446744073709551616)) rfl rfl rfl rfl (fun W_ hW_ F_ => by simp [go_sem, sEv, sLook, nbeq, i64_w, -List.getD_eq_getElem?_getD, u64_wrap, Try.underlying3, Try.underlying12]) ?_
          refine t_is (.agg #[.int .i64 (l.getD 1 0), .int .u64 (l.getD 2 0 % 18446744073709551616)]) rfl rfl rfl rfl (fun W_ hW_ F_ => by kernel_rfl) ?_
          refine t_is (.slice (some ad35) l.length c1) rfl rfl rfl rfl (fun W_ hW_ F_ => rfl) ?_
          refine t_is (.pointer (some (ad35.add (3)))) rfl rfl rfl rfl (fun W_ hW_ F_ => (run_as (run_at_1 (P := Try.prog) (e := 3) (by kernel_rfl) (by kernel_rfl) 3 (by first | omega | decide) _))) ?_
          refine t_is (.int .i64 (l.getD 3 0)) rfl rfl rfl rfl (fun W_ hW_ F_ => by have e0_ := cellOn he74 (below_of_drew hW_); simp [go_sem, sEv, sLook, nbeq, i64_w, -List.getD_eq_getElem?_getD, e0_]) ?_
          refine t_is (.slice (some ad35) l.length c1) rfl rfl rfl rfl (fun W_ hW_ F_ => rfl) ?_
          refine t_is (.pointer (some (ad35.add (4)))) rfl rfl rfl rfl (fun W_ hW_ F_ => (run_as (run_at_1 (P := Try.prog) (e := 3) (by kernel_rfl) (by kernel_rfl) 4 (by first | omega | decide) _))) ?_
          refine t_is (.int .i64 (l.getD 4 0)) rfl rfl rfl rfl (fun W_ hW_ F_ => by have e0_ := cellOn he78 (below_of_drew hW_); simp [go_sem, sEv, sLook, nbeq, i64_w, -List.getD_eq_getElem?_getD, e0_]) ?_
          refine t_is (.slice (some ad35) l.length c1) rfl rfl rfl rfl (fun W_ hW_ F_ => rfl) ?_
          refine t_is (.pointer (some (ad35.add (5)))) rfl rfl rfl rfl (fun W_ hW_ F_ => (run_as (run_at_1 (P := Try.prog) (e := 3) (by kernel_rfl) (by kernel_rfl) 5 (by first | omega | decide) _))) ?_
          refine t_is (.int .i64 (l.getD 5 0)) rfl rfl rfl rfl (fun W_ hW_ F_ => by have e0_ := cellOn he82 (below_of_drew hW_); simp [go_sem, sEv, sLook, nbeq, i64_w, -List.getD_eq_getElem?_getD, e0_]) ?_
          refine t_is (.slice (some ad35) l.length c1) rfl rfl rfl rfl (fun W_ hW_ F_ => rfl) ?_
          refine t_is (.pointer (some (ad35.add (6)))) rfl rfl rfl rfl (fun W_ hW_ F_ => (run_as (run_at_1 (P := Try.prog) (e := 3) (by kernel_rfl) (by kernel_rfl) 6 (by first | omega | decide) _))) ?_
          refine t_is (.int .i64 (l.getD 6 0)) rfl rfl rfl rfl (fun W_ hW_ F_ => by have e0_ := cellOn he86 (below_of_drew hW_); simp [go_sem, sEv, sLook, nbeq, i64_w, -List.getD_eq_getElem?_getD, e0_]) ?_
          refine t_is (.slice (some ad35) l.length c1) rfl rfl rfl rfl (fun W_ hW_ F_ => rfl) ?_
          refine t_is (.pointer (some (ad35.add (7)))) rfl rfl rfl rfl (fun W_ hW_ F_ => (run_as (run_at_1 (P := Try.prog) (e := 3) (by kernel_rfl) (by kernel_rfl) 7 (by first | omega | decide) _))) ?_
          refine t_is (.int .i64 (l.getD 7 0)) rfl rfl rfl rfl (fun W_ hW_ F_ => by have e0_ := cellOn he90 (below_of_drew hW_); simp [go_sem, sEv, sLook, nbeq, i64_w, -List.getD_eq_getElem?_getD, e0_]) ?_
          refine t_is (.slice (some ad35) l.length c1) rfl rfl rfl rfl (fun W_ hW_ F_ => rfl) ?_
          refine t_is (.pointer (some (ad35.add (8)))) rfl rfl rfl rfl (fun W_ hW_ F_ => (run_as (run_at_1 (P := Try.prog) (e := 3) (by kernel_rfl) (by kernel_rfl) 8 (by first | omega | decide) _))) ?_
          refine t_is (.int .i64 (l.getD 8 0)) rfl rfl rfl rfl (fun W_ hW_ F_ => by have e0_ := cellOn he94 (below_of_drew hW_); simp [go_sem, sEv, sLook, nbeq, i64_w, -List.getD_eq_getElem?_getD, e0_]) ?_
          refine t_is (.agg #[.int .i64 (l.getD 5 0), .int .i64 (l.getD 6 0), .int .i64 (l.getD 7 0), .int .i64 (l.getD 8 0)]) rfl rfl rfl rfl (fun W_ hW_ F_ => by kernel_rfl) ?_
          refine t_is (.agg (carr (⟨(l.getD 0 0), (l.getD 1 0), (l.getD 2 0 % 18446744073709551616), (l.getD 3 0), (l.getD 4 0), (l.getD 5 0), (l.getD 6 0), (l.getD 7 0), (l.getD 8 0), (fun _ => 0)⟩ : CL))) rfl rfl rfl rfl (fun W_ hW_ F_ => (by kernel_rfl)) ?_
          refine t_val (BlkSpec w14.heap.size 31 (carr CL.unit)) rfl rfl rfl rfl (fun W_ hW_ F_ => blk_gives _ _ _ (below_of_drew hW_).size (by kernel_rfl)) ?_
          rintro _ ⟨g95, rfl⟩
          refine t_tail ?_
          intro w98 hb99_ F100
          have hb99 := below_of_drew hb99_
          have hs_w98 := hb99.size
          obtain ⟨hge97, hk96⟩ := blk_fact (F100 31 (BlkSpec w14.heap.size 31 (carr CL.unit)) (.pointer (some ⟨g95, 0, none⟩)) (by kernel_rfl))
          have hlt_g95 := hk96.lt
          clear F100
          refine rw_seg (g := g95) (off := 0) (ty := 31) (p := .tmp 6) (x := .tmp 63) (v := .agg (carr (⟨(l.getD 0 0), (l.getD 1 0), (l.getD 2 0 % 18446744073709551616), (l.getD 3 0), (l.getD 4 0), (l.getD 5 0), (l.getD 6 0), (l.getD 7 0), (l.getD 8 0), (fun _ => 0)⟩ : CL))) (cs' := carr (⟨(l.getD 0 0), (l.getD 1 0), (l.getD 2 0 % 18446744073709551616), (l.getD 3 0), (l.getD 4 0), (l.getD 5 0), (l.getD 6 0), (l.getD 7 0), (l.getD 8 0), (fun _ => 0)⟩ : CL)) rfl rfl rfl rfl rfl rfl hk96 (by show (sizeOf 31).run _ _ = .ok (carr _).size _; rw [carr_size]; kernel_rfl) (Nat.le_of_eq (by rw [Nat.zero_add]; exact (carr_size _).trans (carr_size _).symm)) (encC_one _) (seg_all CL.unit (⟨(l.getD 0 0), (l.getD 1 0), (l.getD 2 0 % 18446744073709551616), (l.getD 3 0), (l.getD 4 0), (l.getD 5 0), (l.getD 6 0), (l.getD 7 0), (l.getD 8 0), (fun _ => 0)⟩ : CL)) ?_
          intro w101 hk102 hb103
          have hs_w101 := hk102.size
          refine rw_end ?_
          refine w_weaken (G' := [(0, .slice (some ad35) l.length c1), (2, .pointer (some ⟨g1, 0, none⟩)), (3, .pointer (some ⟨g7, 0, none⟩)), (4, .pointer (some ⟨g13, 0, none⟩)), (5, .int .i64 (l.getD 9 0)), (6, .pointer (some ⟨g95, 0, none⟩))]) ⟨rfl, rfl, rfl, rfl, rfl, rfl, trivial⟩ ?_
          refine w_seq ?_
          refine w_region ?_
          refine rw_new (cs := #[.int .i64 0]) (t := 3) (fun g => .pointer (some ⟨g, 0, none⟩)) rfl rfl rfl rfl (by kernel_rfl) ?_
          intro g104 w105 hg109 hz108 hb106 hk107
          have hs_w105 := hb106.size
          have hb113 := hk107
          refine rw_store (g := g104) (i := 0) (l := [.int .i64 (-1)]) (cs' := #[.int .i64 (-1)]) rfl rfl rfl hb113 rfl (by have e0_ := hb113.cellv (i := 0) (v := (.int .i64 0 : Value)) rfl; have f0_ := hb113.frozen 0; simp [go_sem, sEv, sLook, nbeq, i64_w, -List.getD_eq_getElem?_getD, putCells, e0_, f0_]) ?_
          intro w110 hk111 hk112
          have hs_w110 := hk111.size
          refine rw_end ?_
          refine w_seq ?_
          refine w_seq ?_
          refine w_region ?_
          refine rw_val (v := .slice (some ad35) l.length c1) (w' := w110) rfl rfl rfl rfl rfl ?_
          refine rw_val (v := .int .i64 ((nC l : Nat) : Int)) (w' := w110) rfl rfl rfl rfl (by rw [s3_]; rfl) ?_
          refine rw_val (v := .int .i64 ((2 * (nC l) : Nat) : Int)) (w' := w110) rfl rfl rfl rfl (by simp [go_sem, sEv, sLook, nbeq, i64_w, -List.getD_eq_getElem?_getD]; exact wrap_id (by omega) (by omega)) ?_
          refine rw_val (v := .int .i64 ((10 + (2 * (nC l)) : Nat) : Int)) (w' := w110) rfl rfl rfl rfl (by simp [go_sem, sEv, sLook, nbeq, i64_w, -List.getD_eq_getElem?_getD]; exact wrap_id (by omega) (by omega)) ?_
          have hP114 : (Kd.int .i64).C w110 (adrS 1 (some ad35) c1 10) ((l.take (10 + (2 * (nC l)))).drop 10).length ((l.take (10 + (2 * (nC l)))).drop 10) := Kd.C_mid (Kd.C_below hl (hk111.below (by omega) (chain (hk102.below (by omega) (chain (chain (chain hb3 hb9) hb15) hb99)) hb106))) (by omega) (by omega) (by have q_ := hc; omega)
          have hP114_ : ((l.take (10 + (2 * (nC l)))).drop 10).length = 10 + (2 * (nC l)) - 10 := by rw [List.length_drop, List.length_take]; omega
          refine rw_val (v := .slice (adrS 1 (some ad35) c1 10) (((l.take (10 + (2 * (nC l)))).drop 10).length) (c1 - 10)) (w' := w110) rfl rfl rfl rfl (by rw [hP114_]; exact run_as (sl_mid (sz := 1) (e := 3) (by kernel_rfl) (fun _ => by kernel_rfl) 10 (10 + (2 * (nC l))) _ _ (by first | rfl | (simp; done) | omega) (by first | rfl | (simp; done) | omega) (by omega) (by have q_ := hc; omega) _)) ?_
          refine rw_call rfl rfl rfl rfl (f := 30) (args := #[.slice (adrS 1 (some ad35) c1 10) (((l.take (10 + (2 * (nC l)))).drop 10).length) (c1 - 10), .int .i64 2]) (by simp [go_sem, sEv, sLook, nbeq, i64_w, -List.getD_eq_getElem?_getD]) (chunk_calls w110 (adrS 1 (some ad35) c1 10) (((l.take (10 + (2 * (nC l)))).drop 10).length) (c1 - 10)) ?_
          rintro e_ w115 ⟨gs117, gn118, rfl, hgs119, hgn120, hge121, hgl122, hb116⟩
          refine ⟨_, rfl, ?_⟩
          have hs_w115 := hb116.size
          refine rw_end ?_
          refine w_weaken (G' := [(0, .slice (some ad35) l.length c1), (2, .pointer (some ⟨g1, 0, none⟩)), (3, .pointer (some ⟨g7, 0, none⟩)), (4, .pointer (some ⟨g13, 0, none⟩)), (5, .int .i64 (l.getD 9 0)), (6, .pointer (some ⟨g95, 0, none⟩)), (7, .pointer (some ⟨g104, 0, none⟩)), (69, .func (.func 38) #[] #[.pointer (some ⟨gs117, 0, none⟩), .pointer (some ⟨gn118, 0, none⟩)])]) ⟨rfl, rfl, rfl, rfl, rfl, rfl, rfl, rfl, trivial⟩ ?_
          refine w_block ?_
          have hX_ : (Kd.int .i64).C w (adrS 1 (some ad35) c1 10) ((l.take (10 + 2 * nC l)).drop 10).length ((l.take (10 + 2 * nC l)).drop 10) := Kd.C_mid hl (by omega) (by omega) (by omega)
          have hgs_ : Blk w115 gs117 38 #[.slice (adrS 1 (some ad35) c1 10) (2 * nC l) (c1 - 10)] := by have h_ := hgs119; rw [s5_] at h_; exact h_
          have hgsl_ := hgs_.lt
          have hgnl_ := (hgn120).lt
          have hlg2_ := ((((((((hk4.on hb9).on hb15).on hb99).keep hk102 (by omega)).on hb106).keep hk111 (by omega)).on hb116)).lt
          have hlg3_ := (((((((hk10.on hb15).on hb99).keep hk102 (by omega)).on hb106).keep hk111 (by omega)).on hb116)).lt
          have hlg4_ := ((((((hk16.on hb99).keep hk102 (by omega)).on hb106).keep hk111 (by omega)).on hb116)).lt
          have hlgc_ := ((((hb103.on hb106).keep hk111 (by omega)).on hb116)).lt
          have hlgl_ := ((hk112.on hb116)).lt
          refine w_rangeFunc (α := Fin (nC l)) (gf := 38) (lb := #[.pointer (some ⟨gs117, 0, none⟩), .pointer (some ⟨gn118, 0, none⟩)]) (enc := (fun x : Fin (nC l) => Value.slice ((adrS 1 (some ad35) c1 10).map (·.add (2 * x.val * 1))) 2 2)) (Kp := Two gs117 gn118) (S := fun xs => xs = List.finRange (nC l)) (Sp := fun pre => ∃ i, pre = (List.finRange (nC l)).take i) (N := nC l) rfl rfl (enters_of Try.func38 (by kernel_rfl) rfl) (chunk1_stops w115 gs117 gn118 (adrS 1 (some ad35) c1 10) (c1 - 10) (nC l) (by omega) (by omega) hgs_ hgn120) two_t two_r (two_b hgsl_ hgnl_) rfl (fun pre V => TI l w w115.heap.size g1 g7 g13 g95 g104 pre V) (fun pre V => TX l w w115.heap.size g1 g7 g13 pre V) (ti_own (chain (hk111.below (by omega) (chain (hk102.below (by omega) (chain (chain (chain hb3 hb9) hb15) hb99)) hb106)) hb116).size) (tx_own (chain (hk111.below (by omega) (chain (hk102.below (by omega) (chain (chain (chain hb3 hb9) hb15) hb99)) hb106)) hb116).size) ⟨-1, fun _ => 0, rfl, (((hb103.on hb106).keep hk111 (by omega)).on hb116), (hk112.on hb116), (((((((hk4.on hb9).on hb15).on hb99).keep hk102 (by omega)).on hb106).keep hk111 (by omega)).on hb116), ((((((hk10.on hb15).on hb99).keep hk102 (by omega)).on hb106).keep hk111 (by omega)).on hb116), (((((hk16.on hb99).keep hk102 (by omega)).on hb106).keep hk111 (by omega)).on hb116), (chain (hk111.below (by omega) (chain (hk102.below (by omega) (chain (chain (chain hb3 hb9) hb15) hb99)) hb106)) hb116), Nat.le_refl _⟩ (fun x => (8, (fun x : Fin (nC l) => Value.slice ((adrS 1 (some ad35) c1 10).map (·.add (2 * x.val * 1))) 2 2) x) :: [(0, .slice (some ad35) l.length c1), (2, .pointer (some ⟨g1, 0, none⟩)), (3, .pointer (some ⟨g7, 0, none⟩)), (4, .pointer (some ⟨g13, 0, none⟩)), (5, .int .i64 (l.getD 9 0)), (6, .pointer (some ⟨g95, 0, none⟩)), (7, .pointer (some ⟨g104, 0, none⟩))]) ?_ ?_ ?_ ?_
          · intro lr_ x V Q_ h_
            refine w_region ?_
            refine rw_val (v := (fun x : Fin (nC l) => Value.slice ((adrS 1 (some ad35) c1 10).map (·.add (2 * x.val * 1))) 2 2) x) (w' := V) rfl rfl rfl rfl rfl ?_
            refine rw_end ?_
            exact w_weaken (G' := (8, (fun x : Fin (nC l) => Value.slice ((adrS 1 (some ad35) c1 10).map (·.add (2 * x.val * 1))) 2 2) x) :: [(0, .slice (some ad35) l.length c1), (2, .pointer (some ⟨g1, 0, none⟩)), (3, .pointer (some ⟨g7, 0, none⟩)), (4, .pointer (some ⟨g13, 0, none⟩)), (5, .int .i64 (l.getD 9 0)), (6, .pointer (some ⟨g95, 0, none⟩)), (7, .pointer (some ⟨g104, 0, none⟩))]) ⟨rfl, rfl, rfl, rfl, rfl, rfl, rfl, rfl, trivial⟩ h_
          · rintro lr_ pre x V ⟨last, h, hf_, hbc, hbl, hb2, hb3, hb4, hBV, hBl_⟩ hN_
            have hsV_ := hBV.size
            have hbclt_ := hbc.lt
            have hbllt_ := hbl.lt
            have hb2lt_ := hb2.lt
            have hb3lt_ := hb3.lt
            have hb4lt_ := hb4.lt
            obtain ⟨i1_, i2_, _, _⟩ := foldT_pr _ last h hf_
            obtain ⟨p, hp_⟩ : ∃ p, p = l.getD (10 + 2 * x.val) 0 := ⟨_, rfl⟩
            obtain ⟨q, hq_⟩ : ∃ q, q = l.getD (10 + 2 * x.val + 1) 0 := ⟨_, rfl⟩
            have hpq_ : pairA l x.val = (p, q) := by rw [hp_, hq_]
            have hx_ := chunk_row (c := (c1 - 10)) hX_ (by omega) (by omega) x.val x.isLt
            rw [← hp_, ← hq_] at hx_
            refine w_weaken (G' := [(0, .slice (some ad35) l.length c1), (2, .pointer (some ⟨g1, 0, none⟩)), (3, .pointer (some ⟨g7, 0, none⟩)), (4, .pointer (some ⟨g13, 0, none⟩)), (5, .int .i64 (l.getD 9 0)), (6, .pointer (some ⟨g95, 0, none⟩)), (7, .pointer (some ⟨g104, 0, none⟩)), (8, .slice ((adrS 1 (some ad35) c1 10).map (·.add (2 * x.val * 1))) 2 2)]) ⟨rfl, rfl, rfl, rfl, rfl, rfl, rfl, rfl, trivial⟩ ?_
            generalize hAx_ : (adrS 1 (some ad35) c1 10).map (·.add (2 * x.val * 1)) = Ax at hx_ ⊢
            refine w_block ?_
            refine w_seq ?_
            obtain ⟨ad123, hA124, hc125⟩ := int_at (Kd.C_below hx_ hBV) 0 0 (by first | omega | decide)
            subst hA124
            have he126 : V.cell? (ad123) = some (.int .i64 (([p, q] : List Int).getD 0 0)) := cell_00 (hc125 0 _ rfl)
            obtain ⟨ad127, hA128, hc129⟩ := int_at (Kd.C_below hx_ hBV) 0 1 (by first | omega | decide)
            obtain rfl := Option.some.inj hA128
            have he130 : V.cell? ⟨ad123.block, ad123.off + 1, none⟩ = some (.int .i64 (([p, q] : List Int).getD 1 0)) := cell_lit (cell_0 (hc129 0 _ rfl)) (by decide)
            refine w_drawk (M := [0, 1, 3, 0, 8, 24, 7, 127]) (ss := [Is (.slice (some ad123) 2 2), Is (.pointer (some (ad123))), Is (.int .i64 p), Is (.slice (some ad123) 2 2), Is (.pointer (some (ad123.add (1)))), Is (.int .i64 q), Is (.int .i64 p)]) 7 rfl (by decide +kernel) ?_
            refine t_is (.slice (some ad123) 2 2) rfl rfl rfl rfl (fun W_ hW_ F_ => rfl) ?_
            refine t_is (.pointer (some (ad123))) rfl rfl rfl rfl (fun W_ hW_ F_ => (run_as (run_at_z (P := Try.prog) (e := 3) (sz := 1) (by kernel_rfl) (by kernel_rfl)  (by first | omega | decide) _))) ?_
            refine t_is (.int .i64 p) rfl rfl rfl rfl (fun W_ hW_ F_ => by have e0_ := cellOn he126 (below_of_drew hW_); simp [go_sem, sEv, sLook, nbeq, i64_w, -List.getD_eq_getElem?_getD, e0_] <;> rfl) ?_
            refine t_is (.slice (some ad123) 2 2) rfl rfl rfl rfl (fun W_ hW_ F_ => rfl) ?_
            refine t_is (.pointer (some (ad123.add (1)))) rfl rfl rfl rfl (fun W_ hW_ F_ => (run_as (run_at_1 (P := Try.prog) (e := 3) (by kernel_rfl) (by kernel_rfl) 1 (by first | omega | decide) _))) ?_
            refine t_is (.int .i64 q) rfl rfl rfl rfl (fun W_ hW_ F_ => by have e0_ := cellOn he130 (below_of_drew hW_); simp [go_sem, sEv, sLook, nbeq, i64_w, -List.getD_eq_getElem?_getD, e0_] <;> rfl) ?_
            refine t_is (.int .i64 p) rfl rfl rfl rfl (fun W_ hW_ F_ => rfl) ?_
            refine t_tail ?_
            intro w131 hb132_ F133
            have hb132 := below_of_drew hb132_
            have hs_w131 := hb132.size
            clear F133
            refine rw_val (v := .int .i64 q) (w' := w131) rfl rfl rfl rfl rfl ?_
            refine rw_end ?_
            refine w_weaken (G' := [(2, .pointer (some ⟨g1, 0, none⟩)), (3, .pointer (some ⟨g7, 0, none⟩)), (4, .pointer (some ⟨g13, 0, none⟩)), (6, .pointer (some ⟨g95, 0, none⟩)), (7, .pointer (some ⟨g104, 0, none⟩)), (9, .int .i64 p), (10, .int .i64 q)]) ⟨rfl, rfl, rfl, rfl, rfl, rfl, rfl, trivial⟩ ?_
            refine w_seq ?_
            refine w_seq ?_
            refine w_region ?_
            refine rw_val (v := .int .i64 p) (w' := w131) rfl rfl rfl rfl rfl ?_
            refine rw_val (v := .int .i64 last) (w' := w131) rfl rfl rfl rfl (by have eb_ := (hbl.on hb132); have e0_ := eb_.cellv (i := 0) (v := (.int .i64 last : Value)) rfl; simp [go_sem, sEv, sLook, nbeq, i64_w, -List.getD_eq_getElem?_getD, e0_]) ?_
            refine rw_val (v := .bool (decide (p ≤ last))) (w' := w131) rfl rfl rfl rfl (by simp [go_sem, sEv, sLook, nbeq, i64_w, -List.getD_eq_getElem?_getD]) ?_
            refine rw_val (v := .bool (decide (p ≤ last))) (w' := w131) rfl rfl rfl rfl rfl ?_
            rcases bcase (decide (p ≤ last)) with c134 | c134
            · have l135 : ¬ (p ≤ last) := of_decide_eq_false c134
              refine rw_on (c := decide (p ≤ last)) rfl rfl rfl (by first | (rw [c134]; rfl) | simp [c134]) ?_
              refine rw_val (v := .int .i64 p) (w' := w131) rfl rfl rfl rfl rfl ?_
              refine rw_on (c := decide (p ≤ last)) rfl rfl rfl (by first | (rw [c134]; rfl) | simp [c134]) ?_
              refine rw_val (v := .bool (decide (64 < p))) (w' := w131) rfl rfl rfl rfl (by simp [go_sem, sEv, sLook, nbeq, i64_w, -List.getD_eq_getElem?_getD]) ?_
              refine rw_val (v := .bool (decide (64 < p))) (w' := w131) rfl rfl rfl rfl (by first | (simp [go_sem, sEv, sLook, nbeq, i64_w, -List.getD_eq_getElem?_getD, c134]; done) | (rw [c134]; simp [go_sem, sEv, sLook, nbeq, i64_w, -List.getD_eq_getElem?_getD]; done) | (simp [go_sem, sEv, sLook, nbeq, i64_w, -List.getD_eq_getElem?_getD] <;> omega) | (simp [go_sem, sEv, sLook, nbeq, i64_w, -List.getD_eq_getElem?_getD]; intro h_; exact absurd (by omega) h_)) ?_
              refine rw_val (v := .bool (decide (64 < p))) (w' := w131) rfl rfl rfl rfl rfl ?_
              rcases bcase (decide (64 < p)) with c136 | c136
              · have l137 : ¬ (64 < p) := of_decide_eq_false c136
                refine rw_on (c := decide (64 < p)) rfl rfl rfl (by first | (rw [c136]; rfl) | simp [c136]) ?_
                refine rw_val (v := .int .i64 q) (w' := w131) rfl rfl rfl rfl rfl ?_
                refine rw_on (c := decide (64 < p)) rfl rfl rfl (by first | (rw [c136]; rfl) | simp [c136]) ?_
                refine rw_val (v := .bool (q == 0)) (w' := w131) rfl rfl rfl rfl (by simp [go_sem, sEv, sLook, nbeq, i64_w, -List.getD_eq_getElem?_getD]) ?_
                refine rw_val (v := .bool (q == 0)) (w' := w131) rfl rfl rfl rfl (by first | (simp [go_sem, sEv, sLook, nbeq, i64_w, -List.getD_eq_getElem?_getD, c136]; done) | (rw [c136]; simp [go_sem, sEv, sLook, nbeq, i64_w, -List.getD_eq_getElem?_getD]; done) | (simp [go_sem, sEv, sLook, nbeq, i64_w, -List.getD_eq_getElem?_getD] <;> omega) | (simp [go_sem, sEv, sLook, nbeq, i64_w, -List.getD_eq_getElem?_getD]; intro h_; exact absurd (by omega) h_)) ?_
                refine rw_end ?_
                refine w_weaken (G' := [(2, .pointer (some ⟨g1, 0, none⟩)), (3, .pointer (some ⟨g7, 0, none⟩)), (4, .pointer (some ⟨g13, 0, none⟩)), (6, .pointer (some ⟨g95, 0, none⟩)), (7, .pointer (some ⟨g104, 0, none⟩)), (9, .int .i64 p), (10, .int .i64 q), (87, .bool (q == 0))]) ⟨rfl, rfl, rfl, rfl, rfl, rfl, rfl, rfl, trivial⟩ ?_
                refine w_cond rfl rfl (fun c138 => ?_) (fun c138 => ?_)
                · have l139 : q = 0 := by simpa using c138
                  refine w_seq ?_
                  refine w_region ?_
                  refine rw_call rfl rfl rfl rfl (f := 14) (args := #[]) (by simp [go_sem, sEv, sLook, nbeq, i64_w, -List.getD_eq_getElem?_getD]) (unit_calls w131) ?_
                  rintro e_ w140 ⟨rfl, hb141⟩
                  refine ⟨_, rfl, ?_⟩
                  have hs_w140 := hb141.size
                  refine rw_seg (g := g1) (off := 0) (ty := 31) (p := .tmp 2) (x := .tmp 88) (v := .agg (carr CL.unit)) (cs' := carr CL.unit) rfl rfl rfl rfl rfl rfl ((hb2.on hb132).on hb141) (by show (sizeOf 31).run _ _ = .ok (carr _).size _; rw [carr_size]; kernel_rfl) (Nat.le_of_eq (by rw [Nat.zero_add]; exact (carr_size _).trans (carr_size _).symm)) (encC_one _) (seg_all CL.unit CL.unit) ?_
                  intro w142 hk143 hb144
                  have hs_w142 := hk143.size
                  have hb148 := (((hb3.on hb132).on hb141).keep hk143 (by omega))
                  refine rw_store (g := g7) (i := 0) (l := [.slice none 0 0]) (cs' := #[.slice none 0 0]) rfl rfl rfl hb148 rfl (by have e0_ := hb148.cellv (i := 0) (v := (.slice none 0 0 : Value)) rfl; have f0_ := hb148.frozen 0; simp [go_sem, sEv, sLook, nbeq, i64_w, -List.getD_eq_getElem?_getD, putCells, e0_, f0_, Try.underlying38]) ?_
                  intro w145 hk146 hk147
                  have hs_w145 := hk146.size
                  have hb152 := ((((hb4.on hb132).on hb141).keep hk143 (by omega)).keep hk146 (by omega))
                  refine rw_store (g := g13) (i := 0) (l := [.bool false]) (cs' := #[.bool false]) rfl rfl rfl hb152 rfl (by have e0_ := hb152.cellv (i := 0) (v := (.bool false : Value)) rfl; have f0_ := hb152.frozen 0; simp [go_sem, sEv, sLook, nbeq, i64_w, -List.getD_eq_getElem?_getD, putCells, e0_, f0_]) ?_
                  intro w149 hk150 hk151
                  have hs_w149 := hk150.size
                  refine rw_end ?_
                  refine w_weaken (G' := [(2, .pointer (some ⟨g1, 0, none⟩)), (3, .pointer (some ⟨g7, 0, none⟩)), (4, .pointer (some ⟨g13, 0, none⟩)), (6, .pointer (some ⟨g95, 0, none⟩)), (7, .pointer (some ⟨g104, 0, none⟩)), (9, .int .i64 p), (10, .int .i64 q)]) ⟨rfl, rfl, rfl, rfl, rfl, rfl, rfl, trivial⟩ ?_
                  refine w_ret (fun a_ ha_ => ?_)
                  exact ⟨(((((keepsFrom_below hb132).trans (keepsFrom_below hb141)).trans (keepsFrom_keep ((hb2.on hb132).on hb141) hk143)).trans (keepsFrom_keep (((hb3.on hb132).on hb141).keep hk143 (by omega)) hk146)).trans (keepsFrom_keep ((((hb4.on hb132).on hb141).keep hk143 (by omega)).keep hk146 (by omega)) hk150)), rfl, ⟨by rw [List.map_append]; show foldT (_ ++ [pairA l x.val]) = _; rw [hpq_, foldT_snoc, hf_]; exact (if_pos (by show p ≤ last ∨ 64 < p ∨ q = 0; omega)), ((hb144.keep hk146 (by omega)).keep hk150 (by omega)), (hk147.keep hk150 (by omega)), hk151, (hk150.below (by omega) (hk146.below (by omega) (hk143.below (by omega) (chain (chain hBV hb132) hb141)))), by omega⟩⟩
                · have l153 : ¬ q = 0 := by simpa using c138
                  refine w_skip ?_
                  refine w_region ?_
                  refine rw_val (v := .int .i64 ((p.toNat : Nat) : Int)) (w' := w131) rfl rfl rfl rfl (by rw [cast_toNat (by omega)]; rfl) ?_
                  refine rw_val (v := .int .i64 q) (w' := w131) rfl rfl rfl rfl rfl ?_
                  refine rw_val (v := .int .i64 p) (w' := w131) rfl rfl rfl rfl rfl ?_
                  refine rw_val (v := .pointer (some ⟨g95, 9, none⟩)) (w' := w131) rfl rfl rfl rfl (by simp [go_sem, sEv, sLook, nbeq, i64_w, -List.getD_eq_getElem?_getD, Try.underlying31]) ?_
                  refine rw_val (v := .pointer (some ⟨g95, 9 + p.toNat, none⟩)) (w' := w131) rfl rfl rfl rfl (run_as (addr_hist p.toNat (by omega) _)) ?_
                  refine rw_seg (g := g95) (off := (9 + p.toNat)) (ty := 3) (p := .tmp 93) (x := .tmp 90) (v := .int .i64 q) (cs' := carr (⟨(baseC l h).cnt, (baseC l h).hi, (baseC l h).lo, (baseC l h).mn, (baseC l h).mx, (baseC l h).t, (baseC l h).src, (baseC l h).seq, (baseC l h).v, (updF ((baseC l h).h) p.toNat q)⟩ : CL)) rfl rfl rfl rfl rfl rfl (hbc.on hb132) (by kernel_rfl) (by rw [carr_size]; show 9 + p.toNat + 1 ≤ 74; omega) (by intro q hq; simp only [List.mem_cons, List.not_mem_nil, or_false, Value.cells] at hq; (first | (rcases hq with rfl | rfl | rfl | rfl <;> rfl) | (rcases hq with rfl | rfl <;> rfl) | (subst hq; rfl))) (seg_h (baseC l h) p.toNat (by omega) q) ?_
                  intro w154 hk155 hb156
                  have hs_w154 := hk155.size
                  have hb160 := ((hbl.on hb132).keep hk155 (by omega))
                  refine rw_store (g := g104) (i := 0) (l := [.int .i64 p]) (cs' := #[.int .i64 p]) rfl rfl rfl hb160 rfl (by have e0_ := hb160.cellv (i := 0) (v := (.int .i64 last : Value)) rfl; have f0_ := hb160.frozen 0; simp [go_sem, sEv, sLook, nbeq, i64_w, -List.getD_eq_getElem?_getD, putCells, e0_, f0_]) ?_
                  intro w157 hk158 hk159
                  have hs_w157 := hk158.size
                  refine rw_end ?_
                  refine w_weaken (G' := [(2, .pointer (some ⟨g1, 0, none⟩)), (3, .pointer (some ⟨g7, 0, none⟩)), (4, .pointer (some ⟨g13, 0, none⟩))]) ⟨rfl, rfl, rfl, trivial⟩ ?_
                  refine w_blk ?_
                  refine w_end (fun a_ ha_ => ?_)
                  exact ⟨(((keepsFrom_below hb132).trans (keepsFrom_keep (hbc.on hb132) hk155)).trans (keepsFrom_keep ((hbl.on hb132).keep hk155 (by omega)) hk158)), (two_t (two_t (two_below hb132 (by omega) (by omega)) (two_keep hk155 (by omega) (by omega))) (two_keep hk158 (by omega) (by omega))), p, updF h p.toNat q, by rw [List.map_append]; show foldT (_ ++ [pairA l x.val]) = _; rw [hpq_, foldT_snoc, hf_]; exact if_neg (by show ¬ (p ≤ last ∨ 64 < p ∨ q = 0); omega), (hb156.keep hk158 (by omega)), hk159, (((hb2.on hb132).keep hk155 (by omega)).keep hk158 (by omega)), (((hb3.on hb132).keep hk155 (by omega)).keep hk158 (by omega)), (((hb4.on hb132).keep hk155 (by omega)).keep hk158 (by omega)), (hk158.below (by omega) (hk155.below (by omega) (chain hBV hb132))), by omega⟩
              · have l161 : (64 < p) := of_decide_eq_true c136
                refine rw_off (c := decide (64 < p)) rfl rfl rfl (by first | (rw [c136]; rfl) | simp [c136]) rfl rfl ?_
                refine rw_off (c := decide (64 < p)) rfl rfl rfl (by first | (rw [c136]; rfl) | simp [c136]) rfl rfl ?_
                refine rw_val (v := .bool true) (w' := w131) rfl rfl rfl rfl (by first | (simp [go_sem, sEv, sLook, nbeq, i64_w, -List.getD_eq_getElem?_getD, c136]; done) | (rw [c136]; simp [go_sem, sEv, sLook, nbeq, i64_w, -List.getD_eq_getElem?_getD]; done) | (simp [go_sem, sEv, sLook, nbeq, i64_w, -List.getD_eq_getElem?_getD] <;> omega) | (simp [go_sem, sEv, sLook, nbeq, i64_w, -List.getD_eq_getElem?_getD]; intro h_; exact absurd (by omega) h_)) ?_
                refine rw_end ?_
                refine w_weaken (G' := [(2, .pointer (some ⟨g1, 0, none⟩)), (3, .pointer (some ⟨g7, 0, none⟩)), (4, .pointer (some ⟨g13, 0, none⟩)), (6, .pointer (some ⟨g95, 0, none⟩)), (7, .pointer (some ⟨g104, 0, none⟩)), (9, .int .i64 p), (10, .int .i64 q), (87, .bool true)]) ⟨rfl, rfl, rfl, rfl, rfl, rfl, rfl, rfl, trivial⟩ ?_
                refine w_cond_t rfl rfl rfl ?_
                refine w_seq ?_
                refine w_region ?_
                refine rw_call rfl rfl rfl rfl (f := 14) (args := #[]) (by simp [go_sem, sEv, sLook, nbeq, i64_w, -List.getD_eq_getElem?_getD]) (unit_calls w131) ?_
                rintro e_ w162 ⟨rfl, hb163⟩
                refine ⟨_, rfl, ?_⟩
                have hs_w162 := hb163.size
                refine rw_seg (g := g1) (off := 0) (ty := 31) (p := .tmp 2) (x := .tmp 88) (v := .agg (carr CL.unit)) (cs' := carr CL.unit) rfl rfl rfl rfl rfl rfl ((hb2.on hb132).on hb163) (by show (sizeOf 31).run _ _ = .ok (carr _).size _; rw [carr_size]; kernel_rfl) (Nat.le_of_eq (by rw [Nat.zero_add]; exact (carr_size _).trans (carr_size _).symm)) (encC_one _) (seg_all CL.unit CL.unit) ?_
                intro w164 hk165 hb166
                have hs_w164 := hk165.size
                have hb170 := (((hb3.on hb132).on hb163).keep hk165 (by omega))
                refine rw_store (g := g7) (i := 0) (l := [.slice none 0 0]) (cs' := #[.slice none 0 0]) rfl rfl rfl hb170 rfl (by have e0_ := hb170.cellv (i := 0) (v := (.slice none 0 0 : Value)) rfl; have f0_ := hb170.frozen 0; simp [go_sem, sEv, sLook, nbeq, i64_w, -List.getD_eq_getElem?_getD, putCells, e0_, f0_, Try.underlying38]) ?_
                intro w167 hk168 hk169
                have hs_w167 := hk168.size
                have hb174 := ((((hb4.on hb132).on hb163).keep hk165 (by omega)).keep hk168 (by omega))
                refine rw_store (g := g13) (i := 0) (l := [.bool false]) (cs' := #[.bool false]) rfl rfl rfl hb174 rfl (by have e0_ := hb174.cellv (i := 0) (v := (.bool false : Value)) rfl; have f0_ := hb174.frozen 0; simp [go_sem, sEv, sLook, nbeq, i64_w, -List.getD_eq_getElem?_getD, putCells, e0_, f0_]) ?_
                intro w171 hk172 hk173
                have hs_w171 := hk172.size
                refine rw_end ?_
                refine w_weaken (G' := [(2, .pointer (some ⟨g1, 0, none⟩)), (3, .pointer (some ⟨g7, 0, none⟩)), (4, .pointer (some ⟨g13, 0, none⟩)), (6, .pointer (some ⟨g95, 0, none⟩)), (7, .pointer (some ⟨g104, 0, none⟩)), (9, .int .i64 p), (10, .int .i64 q)]) ⟨rfl, rfl, rfl, rfl, rfl, rfl, rfl, trivial⟩ ?_
                refine w_ret (fun a_ ha_ => ?_)
                exact ⟨(((((keepsFrom_below hb132).trans (keepsFrom_below hb163)).trans (keepsFrom_keep ((hb2.on hb132).on hb163) hk165)).trans (keepsFrom_keep (((hb3.on hb132).on hb163).keep hk165 (by omega)) hk168)).trans (keepsFrom_keep ((((hb4.on hb132).on hb163).keep hk165 (by omega)).keep hk168 (by omega)) hk172)), rfl, ⟨by rw [List.map_append]; show foldT (_ ++ [pairA l x.val]) = _; rw [hpq_, foldT_snoc, hf_]; exact (if_pos (by show p ≤ last ∨ 64 < p ∨ q = 0; omega)), ((hb166.keep hk168 (by omega)).keep hk172 (by omega)), (hk169.keep hk172 (by omega)), hk173, (hk172.below (by omega) (hk168.below (by omega) (hk165.below (by omega) (chain (chain hBV hb132) hb163)))), by omega⟩⟩
            · have l175 : (p ≤ last) := of_decide_eq_true c134
              refine rw_off (c := decide (p ≤ last)) rfl rfl rfl (by first | (rw [c134]; rfl) | simp [c134]) rfl rfl ?_
              refine rw_off (c := decide (p ≤ last)) rfl rfl rfl (by first | (rw [c134]; rfl) | simp [c134]) rfl rfl ?_
              refine rw_val (v := .bool true) (w' := w131) rfl rfl rfl rfl (by first | (simp [go_sem, sEv, sLook, nbeq, i64_w, -List.getD_eq_getElem?_getD, c134]; done) | (rw [c134]; simp [go_sem, sEv, sLook, nbeq, i64_w, -List.getD_eq_getElem?_getD]; done) | (simp [go_sem, sEv, sLook, nbeq, i64_w, -List.getD_eq_getElem?_getD] <;> omega) | (simp [go_sem, sEv, sLook, nbeq, i64_w, -List.getD_eq_getElem?_getD]; intro h_; exact absurd (by omega) h_)) ?_
              refine rw_val (v := .bool true) (w' := w131) rfl rfl rfl rfl rfl ?_
              refine rw_off (c := true) rfl rfl rfl rfl rfl rfl ?_
              refine rw_off (c := true) rfl rfl rfl rfl rfl rfl ?_
              refine rw_val (v := .bool true) (w' := w131) rfl rfl rfl rfl (by simp [go_sem, sEv, sLook, nbeq, i64_w, -List.getD_eq_getElem?_getD]) ?_
              refine rw_end ?_
              refine w_weaken (G' := [(2, .pointer (some ⟨g1, 0, none⟩)), (3, .pointer (some ⟨g7, 0, none⟩)), (4, .pointer (some ⟨g13, 0, none⟩)), (6, .pointer (some ⟨g95, 0, none⟩)), (7, .pointer (some ⟨g104, 0, none⟩)), (9, .int .i64 p), (10, .int .i64 q), (87, .bool true)]) ⟨rfl, rfl, rfl, rfl, rfl, rfl, rfl, rfl, trivial⟩ ?_
              refine w_cond_t rfl rfl rfl ?_
              refine w_seq ?_
              refine w_region ?_
              refine rw_call rfl rfl rfl rfl (f := 14) (args := #[]) (by simp [go_sem, sEv, sLook, nbeq, i64_w, -List.getD_eq_getElem?_getD]) (unit_calls w131) ?_
              rintro e_ w176 ⟨rfl, hb177⟩
              refine ⟨_, rfl, ?_⟩
              have hs_w176 := hb177.size
              refine rw_seg (g := g1) (off := 0) (ty := 31) (p := .tmp 2) (x := .tmp 88) (v := .agg (carr CL.unit)) (cs' := carr CL.unit) rfl rfl rfl rfl rfl rfl ((hb2.on hb132).on hb177) (by show (sizeOf 31).run _ _ = .ok (carr _).size _; rw [carr_size]; kernel_rfl) (Nat.le_of_eq (by rw [Nat.zero_add]; exact (carr_size _).trans (carr_size _).symm)) (encC_one _) (seg_all CL.unit CL.unit) ?_
              intro w178 hk179 hb180
              have hs_w178 := hk179.size
              have hb184 := (((hb3.on hb132).on hb177).keep hk179 (by omega))
              refine rw_store (g := g7) (i := 0) (l := [.slice none 0 0]) (cs' := #[.slice none 0 0]) rfl rfl rfl hb184 rfl (by have e0_ := hb184.cellv (i := 0) (v := (.slice none 0 0 : Value)) rfl; have f0_ := hb184.frozen 0; simp [go_sem, sEv, sLook, nbeq, i64_w, -List.getD_eq_getElem?_getD, putCells, e0_, f0_, Try.underlying38]) ?_
              intro w181 hk182 hk183
              have hs_w181 := hk182.size
              have hb188 := ((((hb4.on hb132).on hb177).keep hk179 (by omega)).keep hk182 (by omega))
              refine rw_store (g := g13) (i := 0) (l := [.bool false]) (cs' := #[.bool false]) rfl rfl rfl hb188 rfl (by have e0_ := hb188.cellv (i := 0) (v := (.bool false : Value)) rfl; have f0_ := hb188.frozen 0; simp [go_sem, sEv, sLook, nbeq, i64_w, -List.getD_eq_getElem?_getD, putCells, e0_, f0_]) ?_
              intro w185 hk186 hk187
              have hs_w185 := hk186.size
              refine rw_end ?_
              refine w_weaken (G' := [(2, .pointer (some ⟨g1, 0, none⟩)), (3, .pointer (some ⟨g7, 0, none⟩)), (4, .pointer (some ⟨g13, 0, none⟩)), (6, .pointer (some ⟨g95, 0, none⟩)), (7, .pointer (some ⟨g104, 0, none⟩)), (9, .int .i64 p), (10, .int .i64 q)]) ⟨rfl, rfl, rfl, rfl, rfl, rfl, rfl, trivial⟩ ?_
              refine w_ret (fun a_ ha_ => ?_)
              exact ⟨(((((keepsFrom_below hb132).trans (keepsFrom_below hb177)).trans (keepsFrom_keep ((hb2.on hb132).on hb177) hk179)).trans (keepsFrom_keep (((hb3.on hb132).on hb177).keep hk179 (by omega)) hk182)).trans (keepsFrom_keep ((((hb4.on hb132).on hb177).keep hk179 (by omega)).keep hk182 (by omega)) hk186)), rfl, ⟨by rw [List.map_append]; show foldT (_ ++ [pairA l x.val]) = _; rw [hpq_, foldT_snoc, hf_]; exact (if_pos (by show p ≤ last ∨ 64 < p ∨ q = 0; omega)), ((hb180.keep hk182 (by omega)).keep hk186 (by omega)), (hk183.keep hk186 (by omega)), hk187, (hk186.below (by omega) (hk182.below (by omega) (hk179.below (by omega) (chain (chain hBV hb132) hb177)))), by omega⟩⟩
          · rintro D xs V hD rfl ⟨last, h, hf_, hbc, hbl, hb2, hb3, hb4, hBV, hBl_⟩ hVD
            have hsV_ := hBV.size
            have hbclt_ := hbc.lt
            have hbllt_ := hbl.lt
            have hb2lt_ := hb2.lt
            have hb3lt_ := hb3.lt
            have hb4lt_ := hb4.lt
            have hDlt_ : D < V.heap.size := (Array.getElem?_eq_some_iff.1 hVD).1
            rw [prs_fin] at hf_
            refine w_weaken (G' := [(0, .slice (some ad35) l.length c1), (2, .pointer (some ⟨g1, 0, none⟩)), (3, .pointer (some ⟨g7, 0, none⟩)), (4, .pointer (some ⟨g13, 0, none⟩)), (5, .int .i64 (l.getD 9 0)), (6, .pointer (some ⟨g95, 0, none⟩)), (7, .pointer (some ⟨g104, 0, none⟩))]) ⟨rfl, rfl, rfl, rfl, rfl, rfl, rfl, trivial⟩ ?_
            refine w_blk ?_
            refine w_seq ?_
            have hP189 : (Kd.int .i64).C V (adrS 1 (some ad35) c1 (10 + (2 * (nC l)))) (l.drop (10 + (2 * (nC l)))).length (l.drop (10 + (2 * (nC l)))) := Kd.C_drop (Kd.C_below hl hBV) (by omega) (by have q_ := hc; omega)
            have hP189_ : (l.drop (10 + (2 * (nC l)))).length = l.length - (10 + (2 * (nC l))) := List.length_drop
            refine w_drawk (M := [0, 0, 0, 4, 12, 30, 62, 127, 255, 511]) (ss := [Is (.agg (carr (baseC l h))), Is (.slice (some ad35) l.length c1), Is (.int .i64 ((nC l : Nat) : Int)), Is (.int .i64 ((2 * (nC l) : Nat) : Int)), Is (.int .i64 ((10 + (2 * (nC l)) : Nat) : Int)), Is (.slice (adrS 1 (some ad35) c1 (10 + (2 * (nC l)))) ((l.drop (10 + (2 * (nC l)))).length) (c1 - (10 + (2 * (nC l))))), (OwnKSpec (Kd.int .i64) 3 V.heap.size V.heap.size (l.drop (10 + (2 * (nC l)))))]) 7 rfl (by decide +kernel) ?_
            refine t_is (.agg (carr (baseC l h))) rfl rfl rfl rfl (fun W_ hW_ F_ => (run_as (load_cell (c := baseC l h) (hbc.on (below_of_drew hW_))))) ?_
            refine t_is (.slice (some ad35) l.length c1) rfl rfl rfl rfl (fun W_ hW_ F_ => rfl) ?_
            refine t_is (.int .i64 ((nC l : Nat) : Int)) rfl rfl rfl rfl (fun W_ hW_ F_ => (by rw [s3_]; rfl)) ?_
            refine t_is (.int .i64 ((2 * (nC l) : Nat) : Int)) rfl rfl rfl rfl (fun W_ hW_ F_ => by simp [go_sem, sEv, sLook, nbeq, i64_w, -List.getD_eq_getElem?_getD]; exact wrap_id (by omega) (by omega)) ?_
            refine t_is (.int .i64 ((10 + (2 * (nC l)) : Nat) : Int)) rfl rfl rfl rfl (fun W_ hW_ F_ => by simp [go_sem, sEv, sLook, nbeq, i64_w, -List.getD_eq_getElem?_getD]; exact wrap_id (by omega) (by omega)) ?_
            refine t_is (.slice (adrS 1 (some ad35) c1 (10 + (2 * (nC l)))) ((l.drop (10 + (2 * (nC l)))).length) (c1 - (10 + (2 * (nC l))))) rfl rfl rfl rfl (fun W_ hW_ F_ => (by rw [hP189_]; exact run_as (sl_from (sz := 1) (e := 3) (by kernel_rfl) (fun _ => by kernel_rfl) (10 + (2 * (nC l))) _ (by first | rfl | (simp; done) | omega) (by omega) (by have q_ := hc; omega) _))) ?_
            refine t_call (f := 31) (args := #[.slice (adrS 1 (some ad35) c1 (10 + (2 * (nC l)))) ((l.drop (10 + (2 * (nC l)))).length) (c1 - (10 + (2 * (nC l))))]) (OwnKSpec (Kd.int .i64) 3 V.heap.size V.heap.size (l.drop (10 + (2 * (nC l))))) rfl rfl rfl rfl (fun W_ => by simp [go_sem, sEv, sLook, nbeq, i64_w, -List.getD_eq_getElem?_getD]) (fun W_ hW_ F_ => ?_) ?_
            · have hs_ := (below_of_drew hW_).size
              refine ((clonei_calls W_ (adrS 1 (some ad35) c1 (10 + (2 * (nC l)))) (c1 - (10 + (2 * (nC l)))) (l.drop (10 + (2 * (nC l)))) (Kd.C_below hP189 (chain (Below.refl _ _) (below_of_drew hW_))) (by rw [hP189_]; have q_ := hc; omega) (by omega))).mono ?_
              rintro e_ w_ ⟨A_, c_, rfl, hO_, hb_⟩
              exact ⟨_, rfl, ⟨A_, c_, rfl, OwnK.mono (OwnK.lower hO_ (by omega)) (by omega)⟩, hb_⟩
            rintro _ ⟨A190, c191, rfl, hle192⟩
            refine t_tail ?_
            intro w194 hb195_ F196
            have hb195 := below_of_drew hb195_
            have hs_w194 := hb195.size
            have hO193 : OwnK (Kd.int .i64) 3 w194 w.heap.size V.heap.size A190 (l.drop (10 + (2 * (nC l)))).length c191 (l.drop (10 + (2 * (nC l)))) := OwnK.lower (ownk_fact (F196 6 (OwnKSpec (Kd.int .i64) 3 V.heap.size V.heap.size (l.drop (10 + (2 * (nC l))))) (.slice A190 (l.drop (10 + (2 * (nC l)))).length c191) (by kernel_rfl))) (by omega)
            clear F196
            refine rw_seg (g := g1) (off := 0) (ty := 31) (p := .tmp 2) (x := .tmp 94) (v := .agg (carr (baseC l h))) (cs' := carr (baseC l h)) rfl rfl rfl rfl rfl rfl (hb2.on hb195) (by show (sizeOf 31).run _ _ = .ok (carr _).size _; rw [carr_size]; kernel_rfl) (Nat.le_of_eq (by rw [Nat.zero_add]; exact (carr_size _).trans (carr_size _).symm)) (encC_one _) (seg_all CL.unit (baseC l h)) ?_
            intro w197 hk198 hb199
            have hs_w197 := hk198.size
            have hb203 := ((hb3.on hb195).keep hk198 (by omega))
            refine rw_store (g := g7) (i := 0) (l := [.slice A190 ((l.drop (10 + (2 * (nC l)))).length) c191]) (cs' := #[.slice A190 ((l.drop (10 + (2 * (nC l)))).length) c191]) rfl rfl rfl hb203 rfl (by have e0_ := hb203.cellv (i := 0) (v := (.slice none 0 0 : Value)) rfl; have f0_ := hb203.frozen 0; simp [go_sem, sEv, sLook, nbeq, i64_w, -List.getD_eq_getElem?_getD, putCells, e0_, f0_, Try.underlying38]) ?_
            intro w200 hk201 hk202
            have hs_w200 := hk201.size
            have hb207 := (((hb4.on hb195).keep hk198 (by omega)).keep hk201 (by omega))
            refine rw_store (g := g13) (i := 0) (l := [.bool true]) (cs' := #[.bool true]) rfl rfl rfl hb207 rfl (by have e0_ := hb207.cellv (i := 0) (v := (.bool false : Value)) rfl; have f0_ := hb207.frozen 0; simp [go_sem, sEv, sLook, nbeq, i64_w, -List.getD_eq_getElem?_getD, putCells, e0_, f0_]) ?_
            intro w204 hk205 hk206
            have hs_w204 := hk205.size
            refine rw_end ?_
            refine w_weaken (G' := [(2, .pointer (some ⟨g1, 0, none⟩)), (3, .pointer (some ⟨g7, 0, none⟩)), (4, .pointer (some ⟨g13, 0, none⟩))]) ⟨rfl, rfl, rfl, trivial⟩ ?_
            have hDf_ := (((hk205).block D (by omega)).trans (((hk201).block D (by omega)).trans (((hk198).block D (by omega)).trans (((hb195).block D (by omega)).trans hVD))))
            refine w_ret (postMD hDf_ (post_ret3c (v1 := .agg (carr (baseC l h))) (v2 := (.slice A190 ((l.drop (10 + (2 * (nC l)))).length) c191 : Value)) (v3 := (.bool true : Value)) rfl rfl rfl rfl (load_cell (c := baseC l h) (blk_put ((hb199.keep hk201 (by omega)).keep hk205 (by omega)) hDf_)) (load_one (by kernel_rfl) (blk_put (hk202.keep hk205 (by omega)) hDf_)) (load_one (by kernel_rfl) (blk_put hk206 hDf_)) ?_))
            exact ⟨.inr ⟨_, _, _, _, takeC_some hsh_ hf_, rfl, OwnK.mono (OwnK.step hO193 (fun q_ hq_ hlt_ => ((World.putObj_heap_other (by omega)).trans (((hk205).block q_ (by omega)).trans (((hk201).block q_ (by omega)).trans ((hk198).block q_ (by omega))))))) (by omega)⟩, (below_put (hk205.below (by omega) (hk201.below (by omega) (hk198.below (by omega) (chain hBV hb195)))) (by omega) (by omega) (Nat.le_refl _))⟩
          · rintro D pre V hD ⟨i, rfl⟩ ⟨hf_, hb2, hb3, hb4, hBV, hBl_⟩ hVD
            have hsV_ := hBV.size
            have hb2lt_ := hb2.lt
            have hb3lt_ := hb3.lt
            have hb4lt_ := hb4.lt
            have hDlt_ : D < V.heap.size := (Array.getElem?_eq_some_iff.1 hVD).1
            have hDf_ := hVD
            refine (postMD hDf_ (post_ret3c (v1 := .agg (carr CL.unit)) (v2 := (.slice none 0 0 : Value)) (v3 := (.bool false : Value)) rfl rfl rfl rfl (load_cell (c := CL.unit) (blk_put hb2 hDf_)) (load_one (by kernel_rfl) (blk_put hb3 hDf_)) (load_one (by kernel_rfl) (blk_put hb4 hDf_)) ?_))
            exact ⟨.inl ⟨takeC_none hsh_ (fold_part hf_), rfl⟩, (below_put hBV (by omega) (by omega) (Nat.le_refl _))⟩
      · have l208 : (65 < (l.getD 9 0)) := of_decide_eq_true c41
        refine rw_off (c := decide (65 < (l.getD 9 0))) rfl rfl rfl (by first | (rw [c41]; rfl) | simp [c41]) rfl rfl ?_
        refine rw_off (c := decide (65 < (l.getD 9 0))) rfl rfl rfl (by first | (rw [c41]; rfl) | simp [c41]) rfl rfl ?_
        refine rw_off (c := decide (65 < (l.getD 9 0))) rfl rfl rfl (by first | (rw [c41]; rfl) | simp [c41]) rfl rfl ?_
        refine rw_off (c := decide (65 < (l.getD 9 0))) rfl rfl rfl (by first | (rw [c41]; rfl) | simp [c41]) rfl rfl ?_
        refine rw_off (c := decide (65 < (l.getD 9 0))) rfl rfl rfl (by first | (rw [c41]; rfl) | simp [c41]) rfl rfl ?_
        refine rw_off (c := decide (65 < (l.getD 9 0))) rfl rfl rfl (by first | (rw [c41]; rfl) | simp [c41]) rfl rfl ?_
        refine rw_val (v := .bool true) (w' := w14) rfl rfl rfl rfl (by first | (simp [go_sem, sEv, sLook, nbeq, i64_w, -List.getD_eq_getElem?_getD, c41]; done) | (rw [c41]; simp [go_sem, sEv, sLook, nbeq, i64_w, -List.getD_eq_getElem?_getD]; done) | (simp [go_sem, sEv, sLook, nbeq, i64_w, -List.getD_eq_getElem?_getD] <;> omega) | (simp [go_sem, sEv, sLook, nbeq, i64_w, -List.getD_eq_getElem?_getD]; intro h_; exact absurd (by omega) h_)) ?_
        refine rw_end ?_
        refine w_weaken (G' := [(0, .slice (some ad35) l.length c1), (2, .pointer (some ⟨g1, 0, none⟩)), (3, .pointer (some ⟨g7, 0, none⟩)), (4, .pointer (some ⟨g13, 0, none⟩)), (5, .int .i64 (l.getD 9 0)), (31, .bool true)]) ⟨rfl, rfl, rfl, rfl, rfl, rfl, trivial⟩ ?_
        refine w_cond_t rfl rfl rfl ?_
        refine w_seq ?_
        have hns_ : ¬ shapeC l = true := by unfold shapeC; simp only [Bool.and_eq_true, decide_eq_true_eq]; omega
        refine w_region ?_
        refine rw_call rfl rfl rfl rfl (f := 14) (args := #[]) (by simp [go_sem, sEv, sLook, nbeq, i64_w, -List.getD_eq_getElem?_getD]) (unit_calls w14) ?_
        rintro e_ w209 ⟨rfl, hb210⟩
        refine ⟨_, rfl, ?_⟩
        have hs_w209 := hb210.size
        refine rw_seg (g := g1) (off := 0) (ty := 31) (p := .tmp 2) (x := .tmp 32) (v := .agg (carr CL.unit)) (cs' := carr CL.unit) rfl rfl rfl rfl rfl rfl (((hk4.on hb9).on hb15).on hb210) (by show (sizeOf 31).run _ _ = .ok (carr _).size _; rw [carr_size]; kernel_rfl) (Nat.le_of_eq (by rw [Nat.zero_add]; exact (carr_size _).trans (carr_size _).symm)) (encC_one _) (seg_all CL.unit CL.unit) ?_
        intro w211 hk212 hb213
        have hs_w211 := hk212.size
        have hb217 := (((hk10.on hb15).on hb210).keep hk212 (by omega))
        refine rw_store (g := g7) (i := 0) (l := [.slice none 0 0]) (cs' := #[.slice none 0 0]) rfl rfl rfl hb217 rfl (by have e0_ := hb217.cellv (i := 0) (v := (.slice none 0 0 : Value)) rfl; have f0_ := hb217.frozen 0; simp [go_sem, sEv, sLook, nbeq, i64_w, -List.getD_eq_getElem?_getD, putCells, e0_, f0_, Try.underlying38]) ?_
        intro w214 hk215 hk216
        have hs_w214 := hk215.size
        have hb221 := (((hk16.on hb210).keep hk212 (by omega)).keep hk215 (by omega))
        refine rw_store (g := g13) (i := 0) (l := [.bool false]) (cs' := #[.bool false]) rfl rfl rfl hb221 rfl (by have e0_ := hb221.cellv (i := 0) (v := (.bool false : Value)) rfl; have f0_ := hb221.frozen 0; simp [go_sem, sEv, sLook, nbeq, i64_w, -List.getD_eq_getElem?_getD, putCells, e0_, f0_]) ?_
        intro w218 hk219 hk220
        have hs_w218 := hk219.size
        refine rw_end ?_
        refine w_weaken (G' := [(0, .slice (some ad35) l.length c1), (2, .pointer (some ⟨g1, 0, none⟩)), (3, .pointer (some ⟨g7, 0, none⟩)), (4, .pointer (some ⟨g13, 0, none⟩)), (5, .int .i64 (l.getD 9 0))]) ⟨rfl, rfl, rfl, rfl, rfl, trivial⟩ ?_
        refine w_ret (postM (Gs := []) (post_ret3c (v1 := .agg (carr CL.unit)) (v2 := (.slice none 0 0 : Value)) (v3 := (.bool false : Value)) rfl rfl rfl rfl (load_cell (c := CL.unit) ((hb213.keep hk215 (by omega)).keep hk219 (by omega))) (load_one (by kernel_rfl) (hk216.keep hk219 (by omega))) (load_one (by kernel_rfl) hk220) ?_))
        exact ⟨.inl ⟨takeC_short hns_, rfl⟩, (hk219.below (by omega) (hk215.below (by omega) (hk212.below (by omega) (chain (chain (chain hb3 hb9) hb15) hb210))))⟩
    · have l222 : ((l.getD 9 0) < 0) := of_decide_eq_true c39
      refine rw_off (c := decide ((l.getD 9 0) < 0)) rfl rfl rfl (by first | (rw [c39]; rfl) | simp [c39]) rfl rfl ?_
      refine rw_off (c := decide ((l.getD 9 0) < 0)) rfl rfl rfl (by first | (rw [c39]; rfl) | simp [c39]) rfl rfl ?_
      refine rw_val (v := .bool true) (w' := w14) rfl rfl rfl rfl (by first | (simp [go_sem, sEv, sLook, nbeq, i64_w, -List.getD_eq_getElem?_getD, c39]; done) | (rw [c39]; simp [go_sem, sEv, sLook, nbeq, i64_w, -List.getD_eq_getElem?_getD]; done) | (simp [go_sem, sEv, sLook, nbeq, i64_w, -List.getD_eq_getElem?_getD] <;> omega) | (simp [go_sem, sEv, sLook, nbeq, i64_w, -List.getD_eq_getElem?_getD]; intro h_; exact absurd (by omega) h_)) ?_
      refine rw_val (v := .bool true) (w' := w14) rfl rfl rfl rfl rfl ?_
      refine rw_off (c := true) rfl rfl rfl rfl rfl rfl ?_
      refine rw_off (c := true) rfl rfl rfl rfl rfl rfl ?_
      refine rw_off (c := true) rfl rfl rfl rfl rfl rfl ?_
      refine rw_off (c := true) rfl rfl rfl rfl rfl rfl ?_
      refine rw_off (c := true) rfl rfl rfl rfl rfl rfl ?_
      refine rw_off (c := true) rfl rfl rfl rfl rfl rfl ?_
      refine rw_val (v := .bool true) (w' := w14) rfl rfl rfl rfl (by simp [go_sem, sEv, sLook, nbeq, i64_w, -List.getD_eq_getElem?_getD]) ?_
      refine rw_end ?_
      refine w_weaken (G' := [(0, .slice (some ad35) l.length c1), (2, .pointer (some ⟨g1, 0, none⟩)), (3, .pointer (some ⟨g7, 0, none⟩)), (4, .pointer (some ⟨g13, 0, none⟩)), (5, .int .i64 (l.getD 9 0)), (31, .bool true)]) ⟨rfl, rfl, rfl, rfl, rfl, rfl, trivial⟩ ?_
      refine w_cond_t rfl rfl rfl ?_
      refine w_seq ?_
      have hns_ : ¬ shapeC l = true := by unfold shapeC; simp only [Bool.and_eq_true, decide_eq_true_eq]; omega
      refine w_region ?_
      refine rw_call rfl rfl rfl rfl (f := 14) (args := #[]) (by simp [go_sem, sEv, sLook, nbeq, i64_w, -List.getD_eq_getElem?_getD]) (unit_calls w14) ?_
      rintro e_ w223 ⟨rfl, hb224⟩
      refine ⟨_, rfl, ?_⟩
      have hs_w223 := hb224.size
      refine rw_seg (g := g1) (off := 0) (ty := 31) (p := .tmp 2) (x := .tmp 32) (v := .agg (carr CL.unit)) (cs' := carr CL.unit) rfl rfl rfl rfl rfl rfl (((hk4.on hb9).on hb15).on hb224) (by show (sizeOf 31).run _ _ = .ok (carr _).size _; rw [carr_size]; kernel_rfl) (Nat.le_of_eq (by rw [Nat.zero_add]; exact (carr_size _).trans (carr_size _).symm)) (encC_one _) (seg_all CL.unit CL.unit) ?_
      intro w225 hk226 hb227
      have hs_w225 := hk226.size
      have hb231 := (((hk10.on hb15).on hb224).keep hk226 (by omega))
      refine rw_store (g := g7) (i := 0) (l := [.slice none 0 0]) (cs' := #[.slice none 0 0]) rfl rfl rfl hb231 rfl (by have e0_ := hb231.cellv (i := 0) (v := (.slice none 0 0 : Value)) rfl; have f0_ := hb231.frozen 0; simp [go_sem, sEv, sLook, nbeq, i64_w, -List.getD_eq_getElem?_getD, putCells, e0_, f0_, Try.underlying38]) ?_
      intro w228 hk229 hk230
      have hs_w228 := hk229.size
      have hb235 := (((hk16.on hb224).keep hk226 (by omega)).keep hk229 (by omega))
      refine rw_store (g := g13) (i := 0) (l := [.bool false]) (cs' := #[.bool false]) rfl rfl rfl hb235 rfl (by have e0_ := hb235.cellv (i := 0) (v := (.bool false : Value)) rfl; have f0_ := hb235.frozen 0; simp [go_sem, sEv, sLook, nbeq, i64_w, -List.getD_eq_getElem?_getD, putCells, e0_, f0_]) ?_
      intro w232 hk233 hk234
      have hs_w232 := hk233.size
      refine rw_end ?_
      refine w_weaken (G' := [(0, .slice (some ad35) l.length c1), (2, .pointer (some ⟨g1, 0, none⟩)), (3, .pointer (some ⟨g7, 0, none⟩)), (4, .pointer (some ⟨g13, 0, none⟩)), (5, .int .i64 (l.getD 9 0))]) ⟨rfl, rfl, rfl, rfl, rfl, trivial⟩ ?_
      refine w_ret (postM (Gs := []) (post_ret3c (v1 := .agg (carr CL.unit)) (v2 := (.slice none 0 0 : Value)) (v3 := (.bool false : Value)) rfl rfl rfl rfl (load_cell (c := CL.unit) ((hb227.keep hk229 (by omega)).keep hk233 (by omega))) (load_one (by kernel_rfl) (hk230.keep hk233 (by omega))) (load_one (by kernel_rfl) hk234) ?_))
      exact ⟨.inl ⟨takeC_short hns_, rfl⟩, (hk233.below (by omega) (hk229.below (by omega) (hk226.below (by omega) (chain (chain (chain hb3 hb9) hb15) hb224))))⟩
end Go.Proofs.Ytheaipbnbnjlgaa.Ce
